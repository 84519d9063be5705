import Derived.Test.YtkjghablbeaioaaG0
namespace Go.Proofs.Ytkjghablbeaioaa.G
open Go.RowKit Go.Proofs.YtkjghablbeaioaaW.PrintWords Go.Proofs.YtkjghablbeaioaaW.PrintLast Go.Proofs.YtkjghablbeaioaaW.PrintMore
attribute [local go_sem] max2_int min2_int max_two min_two max_three min_three max_four min_four
set_option linter.unusedVariables false
set_option linter.unusedSimpArgs false
def table_ascending.l0:Nat→List Int→List Int→Int→Int→Option (Int)
 | 0,_,_,_,_=>none
 | k+1,x0,x8,x9,x10=>if x10<x9 then (if 0≤x10 then (if x10<(x8.length:Int) then (if (rd x8 x10)<0 then (some 6) else (if (rd x8 x10)≥24 then (some 6) else (if x10>0 then (if 0≤(wrap64 (x10 - 1)) then (if (wrap64 (x10 - 1))<(x0.length:Int) then (if (rd x0 (wrap64 (x10 - 1)))≥(rd x8 x10) then (some 18) else (table_ascending.l0 k x0 x8 x9 (wrap64 (x10+1)))) else (none)) else (none)) else (table_ascending.l0 k x0 x8 x9 (wrap64 (x10+1)))))) else (none)) else (none)) else (some 0)
def table_ascending.f (k:Nat) (l0:List Int):Option (Int):=if (l0.length:Int)>10 then (some 3) else (table_ascending.l0 k l0 l0 (l0.length:Int) 0)
theorem table_ascending.mono_l:∀ k,(∀ y0 y1 y2 y3,LeO (table_ascending.l0 k y0 y1 y2 y3) (table_ascending.l0 (k+1) y0 y1 y2 y3))
 | 0=>fun _ _ _ _ r h=>by simp [table_ascending.l0] at h
 | k+1=>by
  have ih0:=table_ascending.mono_l k
  ·intro y0 y1 y2 y3
   unfold table_ascending.l0
   repeat' first
   | (with_reducible exact ih0 _ _ _ _)
   | (with_reducible exact LeO.refl _)
   | (with_reducible exact LeO.none _)
   | (with_reducible refine LeO.ite ?_ ?_)
   | (with_reducible refine LeO.bind ?_ (fun _=>?_))
   | exact LeO.none _
   | refine LeO.ite ?_ ?_
   | refine LeO.bind ?_ (fun _=>?_)
theorem table_ascending.mono:∀ a0 k,LeO (table_ascending.f k a0) (table_ascending.f (k+1) a0):=by
 intro a0 k
 have ih0:=table_ascending.mono_l k
 unfold table_ascending.f
 repeat' first
   | (with_reducible exact ih0 _ _ _ _)
   | (with_reducible exact LeO.refl _)
   | (with_reducible exact LeO.none _)
   | (with_reducible refine LeO.ite ?_ ?_)
   | (with_reducible refine LeO.bind ?_ (fun _=>?_))
   | exact LeO.none _
   | refine LeO.ite ?_ ?_
   | refine LeO.bind ?_ (fun _=>?_)
set_option maxHeartbeats 8000000 in
set_option maxRecDepth 100000 in
theorem table_ascending.calls (k:Nat) (A0:Option Addr) (c0:Nat) (l0:List Int) (r:Int) (w:World) (hr0:Kd.C (Kd.int .i64) w A0 l0.length l0) (hc0:l0.length≤c0) (h:table_ascending.f k l0=some r) :
  Calls Try.prog 87 #[.slice A0 l0.length c0] w fun e w'=>e=.returned (.int .i64 r)∧Drawn0 w w':=by
 have hu3:=Try.underlying3
 have HR0:=zA hr0
 have HC0:=zA hc0
 clear hr0 hc0
 have H:(if (l0.length:Int)>10 then (some 3) else (table_ascending.l0 k l0 l0 (l0.length:Int) 0))=some r:=h
 clear h
 rcases if0 H with ⟨c2,H⟩|⟨c2,H⟩
 ·have c2b0:decide (10<(l0.length:Int))=true:=decide_eq_true c2
  have c2b1:decide (10<l0.length)=true:=decide_eq_true (by omega)
  clear c2
  obtain rfl:=Option.some.inj H
  go_enter Try.func87,Try.ntmps87
  go_wp2
  go_ret
  exact ⟨by first|rfl|(simp;done)|(simp [*];done),by repeat (first|exact Drawn0.refl _|apply Drawn0.step)⟩
 ·have c2b0:decide (10<(l0.length:Int))=false:=decide_eq_false c2
  have c2b1:decide (10<l0.length)=false:=decide_eq_false (by omega)
  clear c2
  have H':=zA H
  clear H
  go_enter Try.func87,Try.ntmps87
  go_wp2
  go_loopg [10] k (fun kq v10 w'=>∃ (x10_1:Int),v10=.int .i64 x10_1∧Aside0 (table_ascending.l0 kq l0 l0 (l0.length:Int) x10_1=some r)∧Aside0 (kq≤k)∧Drawn0 w w')
  case atStart=>exact ⟨(0),zT,H',⟨Nat.le_refl _⟩,by repeat (first|exact Drawn0.refl _|apply Drawn0.step)⟩
  case round=>
   clear H'
   try clear c2
   try clear c2b0
   try clear c2b1
   obtain ⟨x10_1,rfl,HA,HK1,⟨m1,rfl⟩⟩:=hrel
   cases gk with
   | zero=>exact absurd HA.out (by simp [table_ascending.l0])
   | succ k1=>
    have H:=HA.out
    clear HA
    simp only [table_ascending.l0] at H
    rcases ifd H with ⟨c3b0,H⟩|⟨c3b0,H⟩
    ·obtain ⟨c4b0,H⟩:=ifd1 H
     obtain ⟨c5b0,H⟩:=ifd1 H
     rcases ifd H with ⟨c6b0,H⟩|⟨c6b0,H⟩
     ·obtain rfl:=Option.some.inj H
      obtain ⟨p101,q101,ad101,e101,hx101_0⟩:=zp (Kd.at_int HR0.out x10_1)
      cases e101
      replace p101:=eq_true p101
      replace q101:=eq_true q101
      go_wp2
      go_ret
      exact ⟨by first|rfl|(simp;done)|(simp [*];done),by repeat (first|exact Drawn0.refl _|apply Drawn0.step)⟩
     ·rcases if0 H with ⟨c7,H⟩|⟨c7,H⟩
      ·have c7b0:decide (24≤(rd l0 x10_1))=true:=decide_eq_true c7
       clear c7
       obtain rfl:=Option.some.inj H
       obtain ⟨p101,q101,ad101,e101,hx101_0⟩:=zp (Kd.at_int HR0.out x10_1)
       cases e101
       replace p101:=eq_true p101
       replace q101:=eq_true q101
       go_wp2
       go_ret
       exact ⟨by first|rfl|(simp;done)|(simp [*];done),by repeat (first|exact Drawn0.refl _|apply Drawn0.step)⟩
      ·have c7b0:decide (24≤(rd l0 x10_1))=false:=decide_eq_false c7
       clear c7
       rcases if0 H with ⟨c8,H⟩|⟨c8,H⟩
       ·have c8b0:decide (0<x10_1)=true:=decide_eq_true c8
        clear c8
        obtain ⟨ji9,hji9⟩:=zZ (wrap64 (x10_1 - 1))
        first|rw [hji9] at H|simp only [hji9] at H
        have hji9w:(IntKind.i64.wrap (x10_1 - 1))=ji9:=(i64_w _).trans hji9
        obtain ⟨c10b0,H⟩:=ifd1 H
        obtain ⟨c11b0,H⟩:=ifd1 H
        rcases if0 H with ⟨c12,H⟩|⟨c12,H⟩
        ·have c12b0:decide ((rd l0 x10_1)≤(rd l0 (ji9)))=true:=decide_eq_true c12
         clear c12
         obtain rfl:=Option.some.inj H
         obtain ⟨p101,q101,ad101,e101,hx101_0⟩:=zp (Kd.at_int HR0.out x10_1)
         cases e101
         replace p101:=eq_true p101
         replace q101:=eq_true q101
         obtain ⟨p102,q102,ad102,e102,hx102_0⟩:=zp (Kd.at_int HR0.out (ji9))
         obtain rfl:ad101=ad102:=(by injection e102)
         replace p102:=eq_true p102
         replace q102:=eq_true q102
         go_wp2
         go_ret
         exact ⟨by first|rfl|(simp;done)|(simp only [← hji9] <;> (first|rfl|simp))|(simp [*];done),by repeat (first|exact Drawn0.refl _|apply Drawn0.step)⟩
        ·have c12b0:decide ((rd l0 x10_1)≤(rd l0 (ji9)))=false:=decide_eq_false c12
         clear c12
         have H':=zA H
         clear H
         obtain ⟨p101,q101,ad101,e101,hx101_0⟩:=zp (Kd.at_int HR0.out x10_1)
         cases e101
         replace p101:=eq_true p101
         replace q101:=eq_true q101
         obtain ⟨p102,q102,ad102,e102,hx102_0⟩:=zp (Kd.at_int HR0.out (ji9))
         obtain rfl:ad101=ad102:=(by injection e102)
         replace p102:=eq_true p102
         replace q102:=eq_true q102
         go_wp2
         go_roundg k1
         case measure=>have:=HK1.out;omega
         case rel=>exact ⟨(wrap64 (x10_1+1)),zT,H',⟨by have:=HK1.out;omega⟩,by repeat (first|exact Drawn0.refl _|apply Drawn0.step)⟩
       ·have c8b0:decide (0<x10_1)=false:=decide_eq_false c8
        clear c8
        have H':=zA H
        clear H
        obtain ⟨p101,q101,ad101,e101,hx101_0⟩:=zp (Kd.at_int HR0.out x10_1)
        cases e101
        replace p101:=eq_true p101
        replace q101:=eq_true q101
        go_wp2
        go_roundg k1
        case measure=>have:=HK1.out;omega
        case rel=>exact ⟨(wrap64 (x10_1+1)),zT,H',⟨by have:=HK1.out;omega⟩,by repeat (first|exact Drawn0.refl _|apply Drawn0.step)⟩
    ·obtain rfl:=Option.some.inj H
     go_wp2
     go_ret
     exact ⟨by first|rfl|(simp;done)|(simp [*];done),by repeat (first|exact Drawn0.refl _|apply Drawn0.step)⟩
def table_Valid.l0:Nat→List Int→Int→Int→List Int→List Int→Option (Int)
 | 0,_,_,_,_,_=>none
 | k+1,x13,x14,x15,x104000,x104001=>if x15<x14 then (if 0≤x15 then (if x15<(x13.length:Int) then (if (rd x13 x15)<0 then (some 6) else (if (rd x13 x15)≥(shl .i64 1 (x104000.length:Int)) then (some 6) else (if x15>0 then (if 0≤(wrap64 (x15 - 1)) then (if (wrap64 (x15 - 1))<(x104001.length:Int) then (if (rd x104001 (wrap64 (x15 - 1)))≥(rd x13 x15) then (some 18) else (table_Valid.l0 k x13 x14 (wrap64 (x15+1)) x104000 x104001)) else (none)) else (none)) else (table_Valid.l0 k x13 x14 (wrap64 (x15+1)) x104000 x104001)))) else (none)) else (none)) else (some 0)
def table_Valid.f (k:Nat) (l0_0:List Int) (l0_1:List Int):Option (Int):=(table_ascending.f k l0_0).bind fun t104=>(if t104=0 then (table_Valid.l0 k l0_1 (l0_1.length:Int) 0 l0_0 l0_1) else (some t104))
theorem table_Valid.mono_l:∀ k,(∀ y0 y1 y2 y3 y4,LeO (table_Valid.l0 k y0 y1 y2 y3 y4) (table_Valid.l0 (k+1) y0 y1 y2 y3 y4))
 | 0=>fun _ _ _ _ _ r h=>by simp [table_Valid.l0] at h
 | k+1=>by
  have ih0:=table_Valid.mono_l k
  ·intro y0 y1 y2 y3 y4
   unfold table_Valid.l0
   repeat' first
   | (with_reducible exact ih0 _ _ _ _ _)
   | (with_reducible exact table_ascending.mono _ _)
   | (with_reducible exact LeO.refl _)
   | (with_reducible exact LeO.none _)
   | (with_reducible refine LeO.ite ?_ ?_)
   | (with_reducible refine LeO.bind ?_ (fun _=>?_))
   | exact LeO.none _
   | refine LeO.ite ?_ ?_
   | refine LeO.bind ?_ (fun _=>?_)
theorem table_Valid.mono:∀ a0 a1 k,LeO (table_Valid.f k a0 a1) (table_Valid.f (k+1) a0 a1):=by
 intro a0 a1 k
 have ih0:=table_Valid.mono_l k
 unfold table_Valid.f
 repeat' first
   | (with_reducible exact ih0 _ _ _ _ _)
   | (with_reducible exact table_ascending.mono _ _)
   | (with_reducible exact LeO.refl _)
   | (with_reducible exact LeO.none _)
   | (with_reducible refine LeO.ite ?_ ?_)
   | (with_reducible refine LeO.bind ?_ (fun _=>?_))
   | exact LeO.none _
   | refine LeO.ite ?_ ?_
   | refine LeO.bind ?_ (fun _=>?_)
set_option maxHeartbeats 8000000 in
set_option maxRecDepth 100000 in
theorem table_Valid.calls (k:Nat) (A0_0:Option Addr) (c0_0:Nat) (l0_0:List Int) (A0_1:Option Addr) (c0_1:Nat) (l0_1:List Int) (r:Int) (w:World) (hr0_0:Kd.C (Kd.int .i64) w A0_0 l0_0.length l0_0) (hc0_0:l0_0.length≤c0_0) (hr0_1:Kd.C (Kd.int .i64) w A0_1 l0_1.length l0_1) (hc0_1:l0_1.length≤c0_1) (h:table_Valid.f k l0_0 l0_1=some r) :
  Calls Try.prog 75 #[.agg #[.slice A0_0 l0_0.length c0_0,.slice A0_1 l0_1.length c0_1]] w fun e w'=>e=.returned (.int .i64 r)∧Below w.heap.size w w':=by
 have hu50:=Try.underlying50
 have hu30:=Try.underlying30
 have hu3:=Try.underlying3
 have HR0_0:=zA hr0_0
 have HC0_0:=zA hc0_0
 clear hr0_0 hc0_0
 have HR0_1:=zA hr0_1
 have HC0_1:=zA hc0_1
 clear hr0_1 hc0_1
 have HB:=zA (Below.refl w.heap.size w)
 have H:((table_ascending.f k l0_0).bind fun t104=>(if t104=0 then (table_Valid.l0 k l0_1 (l0_1.length:Int) 0 l0_0 l0_1) else (some t104)))=some r:=h
 clear h
 obtain ⟨t104,A2,H⟩:=zo H
 have HC3:=zA H
 clear H
 go_enter Try.func75,Try.ntmps75
 go_upto_if 10 with (first|((with_reducible refine gd 1 rfl ?_);(try (refine gate_guard (by rfl) ?_;dsimp only));refine zx #[.slice A0_0 l0_0.length c0_0,.slice A0_1 l0_1.length c0_1] 50 (h:=?_);intro gb103 hg w4 BK103 hb GW103 HB1;have GE103:=GW103;clear HB hb hg;have HB:=HB1;clear HB1;have hcz5_0:=zc0 BK103;have hcz5_1:=zc1 BK103;have hfz5_0:=zf BK103 0;have hfz5_1:=zf BK103 1)|((with_reducible refine gate_callee (f:=87) rfl ?_);refine goesL_ (some 8) rfl rfl Try.func87 zK rfl #[.slice A0_0 l0_0.length c0_0] rfl zM ?_;(with_reducible refine (table_ascending.calls k _ _ l0_0 t104 _ (zD HR0_0 HB) HC0_0.out A2.out).mono ?_);rintro e w' ⟨rfl,⟨nd,rfl⟩⟩;refine ⟨_,rfl,?_⟩))
 (try simp only [Act.put,zi,zs,zt])
 have H:=HC3.out
 clear HC3
 rcases ife H with ⟨c6b0,c6b1,H⟩|⟨c6,c6b0,c6b1,H⟩
 ·(first|rw [c6b0]|(simp only [i64_w,i32_w];rw [c6b0])|skip)
  (try rw [c6b1])
  have H':=zA H
  clear H
  have hcz7_0:=zc0 BK103
  have hcz7_1:=zc1 BK103
  have hfz7_0:=zf BK103 0
  have hfz7_1:=zf BK103 1
  go_wp2
  go_loopg [15] k (fun kq v15 w'=>∃ (x15_1:Int),v15=.int .i64 x15_1∧Aside0 (table_Valid.l0 kq l0_1 (l0_1.length:Int) x15_1 l0_0 l0_1=some r)∧Aside0 (kq≤k)∧Aside0 (w'.heap[gb103]?=some (.cells #[(.slice A0_0 l0_0.length c0_0),(.slice A0_1 l0_1.length c0_1)] 50 (0,0)))∧Aside0 (Below w.heap.size w w'))
  case atStart=>exact ⟨(0),zT,H',⟨Nat.le_refl _⟩,⟨by refine zj ?_;exact BK103.out⟩,⟨by repeat (first|(with_reducible first|exact HB.out|apply below_alloc|apply pw_below_drewN|apply below_drew1|refine below_set ?_ GE103.out)|exact HB.out)⟩⟩
  case round=>
   clear H'
   try clear c6
   try clear c6b0
   try clear c6b1
   try clear hcz5_0
   try clear hcz5_1
   try clear hcz7_0
   try clear hcz7_1
   try clear hfz5_0
   try clear hfz5_1
   try clear hfz7_0
   try clear hfz7_1
   obtain ⟨x15_1,rfl,HA,HK1,BK103,HB⟩:=hrel
   cases gk with
   | zero=>exact absurd HA.out (by simp [table_Valid.l0])
   | succ k1=>
    have H:=HA.out
    clear HA
    simp only [table_Valid.l0] at H
    rcases ifd H with ⟨c8b0,H⟩|⟨c8b0,H⟩
    ·obtain ⟨c9b0,H⟩:=ifd1 H
     obtain ⟨c10b0,H⟩:=ifd1 H
     rcases ifd H with ⟨c11b0,H⟩|⟨c11b0,H⟩
     ·obtain rfl:=Option.some.inj H
      obtain ⟨p105,q105,ad105,e105,hx105_0⟩:=zp (Kd.at_int HR0_1.out x15_1)
      cases e105
      replace hx105_0:=zd HB hx105_0
      replace p105:=eq_true p105
      replace q105:=eq_true q105
      go_wp2
      go_ret
      exact ⟨ze,by repeat (first|(with_reducible first|exact HB.out|apply below_alloc|apply pw_below_drewN|apply below_drew1|refine below_set ?_ GE103.out)|exact HB.out)⟩
     ·obtain ⟨ji12,hji12⟩:=zZ (shl .i64 1 (l0_0.length:Int))
      first|rw [hji12] at H|simp only [hji12] at H
      have hji12_:(IntKind.i64.wrap (1 * 2 ^ min (l0_0.length:Int).toNat 64))=ji12:=hji12
      have hji12z:(l0_0.length:Int)≤64→(IntKind.i64.wrap (1 * 2 ^ (l0_0.length:Int).toNat))=ji12:=shl_small hji12
      have hji12p:(IntKind.i64.wrap (1 * 2 ^ min l0_0.length 64))=ji12:=hji12_
      have hji12q:(l0_0.length:Int)≤64→(IntKind.i64.wrap (1 * 2 ^ l0_0.length))=ji12:=hji12z
      have hji12r:(IntKind.i64.wrap (2 ^ min l0_0.length 64))=ji12:=by have h_:=hji12p;rw [Int.one_mul] at h_;exact h_
      have hji12s:(l0_0.length:Int)≤64→(IntKind.i64.wrap (2 ^ l0_0.length))=ji12:=fun hle_=>by have h_:=hji12q hle_;rw [Int.one_mul] at h_;exact h_
      have hji12u:(IntKind.i64.wrap (2 ^ min (l0_0.length:Int).toNat 64))=ji12:=by have h_:=hji12_;rw [Int.one_mul] at h_;exact h_
      have hji12v:(l0_0.length:Int)≤64→(IntKind.i64.wrap (2 ^ (l0_0.length:Int).toNat))=ji12:=fun hle_=>by have h_:=hji12z hle_;rw [Int.one_mul] at h_;exact h_
      have hji12y:(wrap64 (1 * 2 ^ min (l0_0.length:Int).toNat 64))=ji12:=(i64_w _).symm.trans hji12_
      have hji12x:(l0_0.length:Int)≤64→(wrap64 (1 * 2 ^ (l0_0.length:Int).toNat))=ji12:=fun h_=>(i64_w _).symm.trans (hji12z h_)
      rcases if0 H with ⟨c13,H⟩|⟨c13,H⟩
      ·have c13b0:decide ((ji12)≤(rd l0_1 x15_1))=true:=decide_eq_true c13
       clear c13
       obtain rfl:=Option.some.inj H
       obtain ⟨p105,q105,ad105,e105,hx105_0⟩:=zp (Kd.at_int HR0_1.out x15_1)
       cases e105
       replace hx105_0:=zd HB hx105_0
       replace p105:=eq_true p105
       replace q105:=eq_true q105
       have hcz14_0:=zc0 BK103
       have hcz14_1:=zc1 BK103
       have hfz14_0:=zf BK103 0
       have hfz14_1:=zf BK103 1
       go_wp2
       go_ret
       exact ⟨by first|rfl|(simp [errW_none,errW_some] <;> rfl)|(simp only [← hji12];first|rfl|(simp [errW_none,errW_some] <;> rfl))|(simp [*,errW_none,errW_some] <;> rfl),by repeat (first|(with_reducible first|exact HB.out|apply below_alloc|apply pw_below_drewN|apply below_drew1|refine below_set ?_ GE103.out)|exact HB.out)⟩
      ·have c13b0:decide ((ji12)≤(rd l0_1 x15_1))=false:=decide_eq_false c13
       clear c13
       rcases if0 H with ⟨c15,H⟩|⟨c15,H⟩
       ·have c15b0:decide (0<x15_1)=true:=decide_eq_true c15
        clear c15
        obtain ⟨ji16,hji16⟩:=zZ (wrap64 (x15_1 - 1))
        first|rw [hji16] at H|simp only [hji16] at H
        have hji16w:(IntKind.i64.wrap (x15_1 - 1))=ji16:=(i64_w _).trans hji16
        obtain ⟨c17b0,H⟩:=ifd1 H
        obtain ⟨c18b0,H⟩:=ifd1 H
        rcases if0 H with ⟨c19,H⟩|⟨c19,H⟩
        ·have c19b0:decide ((rd l0_1 x15_1)≤(rd l0_1 (ji16)))=true:=decide_eq_true c19
         clear c19
         obtain rfl:=Option.some.inj H
         obtain ⟨p105,q105,ad105,e105,hx105_0⟩:=zp (Kd.at_int HR0_1.out x15_1)
         cases e105
         replace hx105_0:=zd HB hx105_0
         replace p105:=eq_true p105
         replace q105:=eq_true q105
         have hcz20_0:=zc0 BK103
         have hcz20_1:=zc1 BK103
         have hfz20_0:=zf BK103 0
         have hfz20_1:=zf BK103 1
         obtain ⟨p106,q106,ad106,e106,hx106_0⟩:=zp (Kd.at_int HR0_1.out (ji16))
         obtain rfl:ad105=ad106:=(by injection e106)
         replace hx106_0:=zd HB hx106_0
         replace p106:=eq_true p106
         replace q106:=eq_true q106
         go_wp2
         go_ret
         exact ⟨by first|rfl|(simp [errW_none,errW_some] <;> rfl)|(simp only [← hji12,← hji16];first|rfl|(simp [errW_none,errW_some] <;> rfl))|(simp [*,errW_none,errW_some] <;> rfl),by repeat (first|(with_reducible first|exact HB.out|apply below_alloc|apply pw_below_drewN|apply below_drew1|refine below_set ?_ GE103.out)|exact HB.out)⟩
        ·have c19b0:decide ((rd l0_1 x15_1)≤(rd l0_1 (ji16)))=false:=decide_eq_false c19
         clear c19
         have H':=zA H
         clear H
         obtain ⟨p105,q105,ad105,e105,hx105_0⟩:=zp (Kd.at_int HR0_1.out x15_1)
         cases e105
         replace hx105_0:=zd HB hx105_0
         replace p105:=eq_true p105
         replace q105:=eq_true q105
         have hcz21_0:=zc0 BK103
         have hcz21_1:=zc1 BK103
         have hfz21_0:=zf BK103 0
         have hfz21_1:=zf BK103 1
         obtain ⟨p106,q106,ad106,e106,hx106_0⟩:=zp (Kd.at_int HR0_1.out (ji16))
         obtain rfl:ad105=ad106:=(by injection e106)
         replace hx106_0:=zd HB hx106_0
         replace p106:=eq_true p106
         replace q106:=eq_true q106
         go_wp2
         go_roundg k1
         case measure=>have:=HK1.out;omega
         case rel=>exact ⟨(wrap64 (x15_1+1)),zT,H',⟨by have:=HK1.out;omega⟩,⟨by refine zj ?_;exact BK103.out⟩,⟨by repeat (first|(with_reducible first|exact HB.out|apply below_alloc|apply pw_below_drewN|apply below_drew1|refine below_set ?_ GE103.out)|exact HB.out)⟩⟩
       ·have c15b0:decide (0<x15_1)=false:=decide_eq_false c15
        clear c15
        have H':=zA H
        clear H
        obtain ⟨p105,q105,ad105,e105,hx105_0⟩:=zp (Kd.at_int HR0_1.out x15_1)
        cases e105
        replace hx105_0:=zd HB hx105_0
        replace p105:=eq_true p105
        replace q105:=eq_true q105
        have hcz22_0:=zc0 BK103
        have hcz22_1:=zc1 BK103
        have hfz22_0:=zf BK103 0
        have hfz22_1:=zf BK103 1
        go_wp2
        go_roundg k1
        case measure=>have:=HK1.out;omega
        case rel=>exact ⟨(wrap64 (x15_1+1)),zT,H',⟨by have:=HK1.out;omega⟩,⟨by refine zj ?_;exact BK103.out⟩,⟨by repeat (first|(with_reducible first|exact HB.out|apply below_alloc|apply pw_below_drewN|apply below_drew1|refine below_set ?_ GE103.out)|exact HB.out)⟩⟩
    ·obtain rfl:=Option.some.inj H
     go_wp2
     go_ret
     exact ⟨ze,by repeat (first|(with_reducible first|exact HB.out|apply below_alloc|apply pw_below_drewN|apply below_drew1|refine below_set ?_ GE103.out)|exact HB.out)⟩
 ·(first|rw [c6b0]|(simp only [i64_w,i32_w];rw [c6b0])|skip)
  (try rw [c6b1])
  obtain rfl:=Option.some.inj H
  go_wp2
  go_ret
  exact ⟨ze,by repeat (first|(with_reducible first|exact HB.out|apply below_alloc|apply pw_below_drewN|apply below_drew1|refine below_set ?_ GE103.out)|exact HB.out)⟩
def conflict_valid.l0:Nat→List (S50)→Int→Int→Option (Int)
 | 0,_,_,_=>none
 | k+1,x9,x10,x11=>if x11<x10 then (if 0≤x11 then (if x11<(x9.length:Int) then ((table_Valid.f k ((rd_T50 x9 x11).f0) ((rd_T50 x9 x11).f1)).bind fun t109=>(if t109=0 then (conflict_valid.l0 k x9 x10 (wrap64 (x11+1))) else (some t109))) else (none)) else (none)) else (some 0)
def conflict_valid.f (k:Nat) (l0:List (S50)):Option (Int):=if (l0.length:Int)>12 then (some 3) else (conflict_valid.l0 k l0 (l0.length:Int) 0)
theorem conflict_valid.mono_l:∀ k,(∀ y0 y1 y2,LeO (conflict_valid.l0 k y0 y1 y2) (conflict_valid.l0 (k+1) y0 y1 y2))
 | 0=>fun _ _ _ r h=>by simp [conflict_valid.l0] at h
 | k+1=>by
  have ih0:=conflict_valid.mono_l k
  ·intro y0 y1 y2
   unfold conflict_valid.l0
   repeat' first
   | (with_reducible exact ih0 _ _ _)
   | (with_reducible exact table_Valid.mono _ _ _)
   | (with_reducible exact LeO.refl _)
   | (with_reducible exact LeO.none _)
   | (with_reducible refine LeO.ite ?_ ?_)
   | (with_reducible refine LeO.bind ?_ (fun _=>?_))
   | exact LeO.none _
   | refine LeO.ite ?_ ?_
   | refine LeO.bind ?_ (fun _=>?_)
theorem conflict_valid.mono:∀ a0 k,LeO (conflict_valid.f k a0) (conflict_valid.f (k+1) a0):=by
 intro a0 k
 have ih0:=conflict_valid.mono_l k
 unfold conflict_valid.f
 repeat' first
   | (with_reducible exact ih0 _ _ _)
   | (with_reducible exact table_Valid.mono _ _ _)
   | (with_reducible exact LeO.refl _)
   | (with_reducible exact LeO.none _)
   | (with_reducible refine LeO.ite ?_ ?_)
   | (with_reducible refine LeO.bind ?_ (fun _=>?_))
   | exact LeO.none _
   | refine LeO.ite ?_ ?_
   | refine LeO.bind ?_ (fun _=>?_)
set_option maxHeartbeats 8000000 in
set_option maxRecDepth 100000 in
theorem conflict_valid.calls (k:Nat) (A0:Option Addr) (c0:Nat) (l0:List (S50)) (r:Int) (w:World) (hr0:Kd.C k50 w A0 l0.length l0) (hc0:l0.length≤c0) (h:conflict_valid.f k l0=some r) :
  Calls Try.prog 40 #[.slice A0 l0.length c0] w fun e w'=>e=.returned (.int .i64 r)∧Below w.heap.size w w':=by
 have hu50:=Try.underlying50
 have HR0:=zA hr0
 have HC0:=zA hc0
 clear hr0 hc0
 have HB:=zA (Below.refl w.heap.size w)
 have H:(if (l0.length:Int)>12 then (some 3) else (conflict_valid.l0 k l0 (l0.length:Int) 0))=some r:=h
 clear h
 rcases if0 H with ⟨c2,H⟩|⟨c2,H⟩
 ·have c2b0:decide (12<(l0.length:Int))=true:=decide_eq_true c2
  have c2b1:decide (12<l0.length)=true:=decide_eq_true (by omega)
  clear c2
  obtain rfl:=Option.some.inj H
  go_enter Try.func40,Try.ntmps40
  go_wp2
  go_ret
  exact ⟨ze,by repeat (first|(with_reducible first|exact HB.out|apply below_alloc|apply pw_below_drewN|apply below_drew1)|exact HB.out)⟩
 ·have c2b0:decide (12<(l0.length:Int))=false:=decide_eq_false c2
  have c2b1:decide (12<l0.length)=false:=decide_eq_false (by omega)
  clear c2
  have H':=zA H
  clear H
  go_enter Try.func40,Try.ntmps40
  go_wp2
  go_loopg [11] k (fun kq v11 w'=>∃ (x11_1:Int),v11=.int .i64 x11_1∧Aside0 (conflict_valid.l0 kq l0 (l0.length:Int) x11_1=some r)∧Aside0 (kq≤k)∧Aside0 (Below w.heap.size w w'))
  case atStart=>exact ⟨(0),zT,H',⟨Nat.le_refl _⟩,⟨by repeat (first|(with_reducible first|exact HB.out|apply below_alloc|apply pw_below_drewN|apply below_drew1)|exact HB.out)⟩⟩
  case round=>
   clear H'
   try clear c2
   try clear c2b0
   try clear c2b1
   obtain ⟨x11_1,rfl,HA,HK1,HB⟩:=hrel
   cases gk with
   | zero=>exact absurd HA.out (by simp [conflict_valid.l0])
   | succ k1=>
    have H:=HA.out
    clear HA
    simp only [conflict_valid.l0] at H
    rcases ifd H with ⟨c3b0,H⟩|⟨c3b0,H⟩
    ·obtain ⟨c4b0,H⟩:=ifd1 H
     obtain ⟨c5b0,H⟩:=ifd1 H
     obtain ⟨t109,A6,H⟩:=zo H
     have HC7:=zA H
     clear H
     obtain ⟨p107,q107,ad107,A107_0,c107_0,A107_1,c107_1,e107,hx107_0,hx107_1,hl107_0,hi107_0,hl107_1,hi107_1⟩:=zp (at_T50 HR0.out x11_1)
     cases e107
     replace hx107_0:=zd HB hx107_0
     replace hx107_1:=zd HB hx107_1
     have HR107_0:=zA hi107_0
     have HC107_0:=zA hl107_0
     clear hi107_0 hl107_0
     have HR107_1:=zA hi107_1
     have HC107_1:=zA hl107_1
     clear hi107_1 hl107_1
     replace p107:=eq_true p107
     replace q107:=eq_true q107
     go_upto_if 18 with (first|((with_reducible refine gd 4 rfl ?_);refine zx #[.slice none 0 0,.slice none 0 0] 50 (h:=?_);intro gb108 hg w8 BK108 hb GW108 HB1;have GE108:=GW108;clear HB hb hg;have HB:=HB1;clear HB1;have hcz9_0:=zc0 BK108;have hcz9_1:=zc1 BK108;have hfz9_0:=zf BK108 0;have hfz9_1:=zf BK108 1)|((with_reducible refine gate_callee (f:=75) rfl ?_);refine goesL_ (some 16) rfl rfl Try.func75 zK rfl #[.agg #[.slice A107_0 ((rd_T50 l0 x11_1).f0).length c107_0,.slice A107_1 ((rd_T50 l0 x11_1).f1).length c107_1]] rfl zM ?_;(with_reducible refine (table_Valid.calls k1 _ _ ((rd_T50 l0 x11_1).f0) _ _ ((rd_T50 l0 x11_1).f1) t109 _ ?side1 HC107_0.out ?side3 HC107_1.out A6.out).mono ?_);(case side1=>exact Kd.C_below HR107_0.out zB);(case side3=>exact Kd.C_below HR107_1.out zB);rintro e w10 ⟨rfl,hb⟩;refine ⟨_,rfl,?_⟩;replace BK108:=zA (blk_below (g:=gb108) (o:=.cells #[.slice A107_0 ((rd_T50 l0 x11_1).f0).length c107_0,.slice A107_1 ((rd_T50 l0 x11_1).f1).length c107_1] 50 (0,0)) (by refine zj ?_;refine blk_put (cs:=#[.slice A107_0 ((rd_T50 l0 x11_1).f0).length c107_0,.slice none 0 0]) ?_ 1 _ rfl;refine zj ?_;refine blk_put (cs:=#[.slice none 0 0,.slice none 0 0]) ?_ 0 _ rfl;refine zj ?_;exact BK108.out) hb);replace HB:=zu hb;clear hb))
     (try simp only [Act.put,zi,zs,zt])
     have H:=HC7.out
     clear HC7
     rcases ife H with ⟨c11b0,c11b1,H⟩|⟨c11,c11b0,c11b1,H⟩
     ·(first|rw [c11b0]|(simp only [i64_w,i32_w];rw [c11b0])|skip)
      (try rw [c11b1])
      have H':=zA H
      clear H
      go_wp2
      go_roundg k1
      case measure=>have:=HK1.out;omega
      case rel=>exact ⟨(wrap64 (x11_1+1)),zT,H',⟨by have:=HK1.out;omega⟩,⟨by repeat (first|(with_reducible first|exact HB.out|apply below_alloc|apply pw_below_drewN|apply below_drew1|refine below_set ?_ GE108.out)|exact HB.out)⟩⟩
     ·(first|rw [c11b0]|(simp only [i64_w,i32_w];rw [c11b0])|skip)
      (try rw [c11b1])
      obtain rfl:=Option.some.inj H
      go_wp2
      go_ret
      exact ⟨ze,by repeat (first|(with_reducible first|exact HB.out|apply below_alloc|apply pw_below_drewN|apply below_drew1|refine below_set ?_ GE108.out)|exact HB.out)⟩
    ·obtain rfl:=Option.some.inj H
     go_wp2
     go_ret
     exact ⟨ze,by repeat (first|(with_reducible first|exact HB.out|apply below_alloc|apply pw_below_drewN|apply below_drew1)|exact HB.out)⟩
def slices_Clone_int_int_21.f (l0:List Int):Option (List Int):=(some (([]:List Int):List Int)).bind fun y110=>(if y110.length+l0.length<17592186044416 then (some (y110++l0)) else (none))
set_option maxHeartbeats 8000000 in
set_option maxRecDepth 100000 in
theorem slices_Clone_int_int_21.calls (A0:Option Addr) (c0:Nat) (l0:List Int) (r:List Int) (w:World) (hr0:Kd.C (Kd.int .i64) w A0 l0.length l0) (hc0:l0.length≤c0) (h:slices_Clone_int_int_21.f l0=some r) :
  Calls Try.prog 21 #[.slice A0 l0.length c0] w fun e w'=>∃ v0_:Value,e=.returned (v0_)∧Kd.R (Kd.int .i64) 3 w' w.heap.size (fun _=>True) v0_ r∧Below w.heap.size w w':=by
 have HR0:=zA hr0
 have HC0:=zA hc0
 clear hr0 hc0
 have HB:=zA (Below.refl w.heap.size w)
 have H:((some (([]:List Int):List Int)).bind fun y110=>(if y110.length+l0.length<17592186044416 then (some (y110++l0)) else (none)))=some r:=h
 clear h
 have hnq_:∀ (w:World) (a:Option Addr) (n c n' c':Nat),(binOp .eql 30 (.slice a n c) (.slice none n' c')).run Try.prog w=.ok (.bool a.isNone) w:=fun w a n c n' c'=>Lib.run_eql_slice_nil w _ _ a n c n' c' Try.underlying30
 rcases A0 with _|adn0
 ·obtain rfl:l0=[]:=(by rcases l0 with _|⟨x_,xs_⟩;(· rfl);(· obtain ⟨_,_,e_,_⟩:=Kd.C_get HR0.out 0 0 (by omega) (by simp);cases e_))
  simp only [List.length_nil,List.nil_append] at H
  (first|rw [if_pos (by omega)] at H|simp at H)
  try simp only [Option.some.injEq] at H
  subst H
  go_enter Try.func21,Try.ntmps21
  go_wp2
  go_ret
  first|exact ⟨_,rfl,Kd.R_nil _ _ _ _ _,Below.refl _ _⟩|exact ⟨_,rfl,Kd.S_nil _ _ _ _ _,Below.refl _ _⟩|exact ⟨_,rfl,Kd.V_nil _ _ _ _ _,Below.refl _ _⟩|exact ⟨_,rfl,Kd.N_nil _ _ _ _ _,Below.refl _ _⟩
 ·replace H:=H
  first|(replace H:=zyb (([]:List Int)) H;obtain ⟨y110,Ny110,H⟩:=H)|(obtain ⟨y110,hy110⟩:=zY (([]:List Int));(try rw (occs:=.pos [1]) [← hy110] at H);have Ny110:=zA hy110;clear hy110)
  obtain ⟨c2,H⟩:=if1 H
  have LMc2:=zA c2
  clear c2
  first|(replace H:=zyb (y110++l0) H;obtain ⟨y113,Ny113,H⟩:=H)|(obtain ⟨y113,hy113⟩:=zY (y110++l0);(try rw (occs:=.pos [1]) [← hy113] at H);have Ny113:=zA hy113;clear hy113)
  obtain rfl:=Option.some.inj H
  go_enter Try.func21,Try.ntmps21
  go_wp2_with (first|((with_reducible refine gate_dst (N:=5) rfl ?_);refine Kd.R_lit (Kd.int .i64) _ 3 ?hg (N:=5) ?hd (xs:=([]:List Int)) (inner:=[]) (ok:=fun _=>True) (okp:=fun _=>True) ?hr ?hp (fun _ hk=>hk) trivial (Below.refl _ _) (Nat.le_refl _) (by simp) ?_;(case hd=>rfl);(case hg=>rfl);(case hr=>first|(go_simp;done)|(go_simp;rfl));(case hp=>exact (Reps.none _ _));intro v111 w3 ho4 hb hg_ hnew_;clear hg_ hnew_;(first|rw [← Ny110.out] at ho4|(simp only [Int.reduceToNat] at ho4;rw [← Ny110.out] at ho4));have HO112:=zA (Kd.R_lower ho4 (below_size zB));replace HB:=zu hb;clear hb ho4)|((with_reducible refine gate_builtin (b:=.append) (xs:=#[.tmp 5,.tmp 6]) rfl ?_);at_builtin;refine Kd.R_append_rows (Kd.int .i64) (w0:=w) w.heap.size rfl (.tmp 5) (.tmp 6) 30 3 (.int .i64 0) 8 rfl Try.underlying30 info3 rfl (by decide) (by omega) v111 y110 l0 _ _ _ (fun _=>True) (fun _=>False) rfl rfl ?aO ?aR (fun _ _ h=>h) (fun _ h=>h.elim) ?aF ?aB ?aS ?aL ?_;(case aR=>exact zC (Kd.C_below HR0.out HB.out));(case aB=>exact zB);(case aF=>exact (fun _ _=>trivial));(case aO=>exact (zR HO112));(case aS=>exact (below_size zB));(case aL=>have:=LMc2.out;omega);intro v114 w5 ho hb hg hat;rw [← Ny113.out] at ho;have HO115:=zA (ho);replace HB:=zA (hb);clear HO112;clear ho hb hg hat))
  go_ret
  exact ⟨_,ze,by refine zr ?_;exact HO115.out,by repeat (first|(with_reducible first|exact HB.out|apply below_alloc|apply pw_below_drewN|apply below_drew1)|exact HB.out)⟩
mutual
def conflict_sets.l0:Nat→Int→List (List Int)→List (List Int)→Int→Int→Option ((List (List Int)))
 | 0,_,_,_,_,_=>none
 | k+1,x0,x5,x16,x17,x18=>if x18<x17 then (if 0≤x18 then (if x18<(x16.length:Int) then (if ((rd_L1 x16 x18).length:Int)>0 then (if 0≤(wrap64 (((rd_L1 x16 x18).length:Int) - 1)) then (if (wrap64 (((rd_L1 x16 x18).length:Int) - 1))<((rd_L1 x16 x18).length:Int) then (conflict_sets.l1 k x0 x5 (rd_L1 x16 x18) (wrap64 ((rd (rd_L1 x16 x18) (wrap64 (((rd_L1 x16 x18).length:Int) - 1)))+1)) x16 x17 x18) else (none)) else (none)) else (conflict_sets.l1 k x0 x5 (rd_L1 x16 x18) 0 x16 x17 x18)) else (none)) else (none)) else (some x5)
def conflict_sets.l1:Nat→Int→List (List Int)→List Int→Int→List (List Int)→Int→Int→Option ((List (List Int)))
 | 0,_,_,_,_,_,_,_=>none
 | k+1,x0,x5,x7,x9,x16,x17,x18=>if x9<x0 then ((slices_Clone_int_int_21.f x7).bind fun t124=>(if t124.length<17592186044416 then (if x5.length<5864062014805 then (conflict_sets.l1 k x0 (x5++[(t124++[x9])]) x7 (wrap64 (x9+1)) x16 x17 x18) else (none)) else (none))) else (conflict_sets.l0 k x0 x5 x16 x17 (wrap64 (x18+1)))
def conflict_sets.f:Nat→Int→Int→Option ((List (List Int)))
 | 0,_,_=>none
 | k+1,a0,a1=>if a1=0 then (some (([[]]:List (List Int)))) else ((conflict_sets.f k a0 (wrap64 (a1 - 1))).bind fun t119=>(conflict_sets.l0 k a0 ([]:List (List Int)) t119 (t119.length:Int) 0))
end
theorem conflict_sets.mono_l:∀ k,(∀ y0 y1,LeO (conflict_sets.f k y0 y1) (conflict_sets.f (k+1) y0 y1))∧(∀ y0 y1 y2 y3 y4,LeO (conflict_sets.l0 k y0 y1 y2 y3 y4) (conflict_sets.l0 (k+1) y0 y1 y2 y3 y4))∧(∀ y0 y1 y2 y3 y4 y5 y6,LeO (conflict_sets.l1 k y0 y1 y2 y3 y4 y5 y6) (conflict_sets.l1 (k+1) y0 y1 y2 y3 y4 y5 y6))
 | 0=>⟨fun _ _ r h=>by simp [conflict_sets.f] at h,fun _ _ _ _ _ r h=>by simp [conflict_sets.l0] at h,fun _ _ _ _ _ _ _ r h=>by simp [conflict_sets.l1] at h⟩
 | k+1=>by
  obtain ⟨ih0,ih1,ih2⟩:=conflict_sets.mono_l k
  refine ⟨?_,?_,?_⟩
  ·intro y0 y1
   unfold conflict_sets.f
   repeat' first
   | (with_reducible exact ih0 _ _)
   | (with_reducible exact ih1 _ _ _ _ _)
   | (with_reducible exact ih2 _ _ _ _ _ _ _)
   | (with_reducible exact LeO.refl _)
   | (with_reducible exact LeO.none _)
   | (with_reducible refine LeO.ite ?_ ?_)
   | (with_reducible refine LeO.bind ?_ (fun _=>?_))
   | exact LeO.none _
   | refine LeO.ite ?_ ?_
   | refine LeO.bind ?_ (fun _=>?_)
  ·intro y0 y1 y2 y3 y4
   unfold conflict_sets.l0
   repeat' first
   | (with_reducible exact ih0 _ _)
   | (with_reducible exact ih1 _ _ _ _ _)
   | (with_reducible exact ih2 _ _ _ _ _ _ _)
   | (with_reducible exact LeO.refl _)
   | (with_reducible exact LeO.none _)
   | (with_reducible refine LeO.ite ?_ ?_)
   | (with_reducible refine LeO.bind ?_ (fun _=>?_))
   | exact LeO.none _
   | refine LeO.ite ?_ ?_
   | refine LeO.bind ?_ (fun _=>?_)
  ·intro y0 y1 y2 y3 y4 y5 y6
   unfold conflict_sets.l1
   repeat' first
   | (with_reducible exact ih0 _ _)
   | (with_reducible exact ih1 _ _ _ _ _)
   | (with_reducible exact ih2 _ _ _ _ _ _ _)
   | (with_reducible exact LeO.refl _)
   | (with_reducible exact LeO.none _)
   | (with_reducible refine LeO.ite ?_ ?_)
   | (with_reducible refine LeO.bind ?_ (fun _=>?_))
   | exact LeO.none _
   | refine LeO.ite ?_ ?_
   | refine LeO.bind ?_ (fun _=>?_)
theorem conflict_sets.mono:∀ a0 a1 k,LeO (conflict_sets.f k a0 a1) (conflict_sets.f (k+1) a0 a1):=by
 intro a0 a1 k
 obtain ⟨ih0,ih1,ih2⟩:=conflict_sets.mono_l k
 exact ih0 a0 a1
set_option maxHeartbeats 8000000 in
set_option maxRecDepth 100000 in
theorem conflict_sets.calls (k:Nat):∀ (a0:Int) (a1:Int) (r:List (List Int)) (w:World) (h:conflict_sets.f k a0 a1=some r),
  Calls Try.prog 66 #[.int .i64 a0,.int .i64 a1] w fun e w'=>∃ v0_:Value,e=.returned (v0_)∧Kd.S (Kd.slice 3 (Kd.int .i64)) 30 w' w.heap.size (fun _=>True) v0_ r∧Below w.heap.size w w':=by
 induction k using Nat.strongRecOn with
 | _ k ih=>
 intro a0 a1 r w h
 cases k with
 | zero=>exact absurd h (by simp [conflict_sets.f])
 | succ k=>
 simp only [conflict_sets.f] at h
 have hu30:=Try.underlying30
 have hu3:=Try.underlying3
 have HB:=zA (Below.refl w.heap.size w)
 have H:(if a1=0 then (some (([[]]:List (List Int)))) else ((conflict_sets.f k a0 (wrap64 (a1 - 1))).bind fun t119=>(conflict_sets.l0 k a0 ([]:List (List Int)) t119 (t119.length:Int) 0)))=some r:=h
 clear h
 rcases ife H with ⟨c3b0,c3b1,H⟩|⟨c3,c3b0,c3b1,H⟩
 ·first|(replace H:=zyb (([[]]:List (List Int))) H;obtain ⟨y116,Ny116,H⟩:=H)|(obtain ⟨y116,hy116⟩:=zY (([[]]:List (List Int)));(try rw (occs:=.pos [1]) [← hy116] at H);have Ny116:=zA hy116;clear hy116)
  obtain rfl:=Option.some.inj H
  go_enter Try.func66,Try.ntmps66
  go_wp2_with (first|((with_reducible refine gate_dst (N:=12) rfl ?_);refine Kd.S_lit (Kd.slice 3 (Kd.int .i64)) _ 30 ?hg (N:=12) ?hd (xs:=([[]]:List (List Int))) (inner:=[.slice none 0 0]) (ok:=fun _=>True) (okp:=fun _=>True) ?hr ?hp (fun _ hk=>hk) trivial (Below.refl _ _) (Nat.le_refl _) (by simp) ?_;(case hd=>rfl);(case hg=>rfl);(case hr=>first|(go_simp;done)|(go_simp;rfl));(case hp=>exact (Reps.one (show Kd.M (Kd.slice 3 (Kd.int .i64)) _ _ _ [] [.slice none 0 0] from ⟨_,rfl,Kd.R_nil _ _ _ _ _⟩) (Reps.none _ _)));intro v117 w4 ho5 hb hg_ hnew_;clear hg_ hnew_;(first|rw [← Ny116.out] at ho5|(simp only [Int.reduceToNat] at ho5;rw [← Ny116.out] at ho5));have HO118:=zA (Kd.S_lower ho5 (below_size zB));replace HB:=zu hb;clear hb ho5))
  go_ret
  exact ⟨_,ze,by (with_reducible repeat (first|apply Kd.S_alloc|apply Kd.S_drewN|apply Kd.S_drew));exact HO118.out,by repeat (first|(with_reducible first|exact HB.out|apply below_alloc|apply pw_below_drewN|apply below_drew1)|exact HB.out)⟩
 ·obtain ⟨t119,A6,H⟩:=zo H
  have H':=zA H
  clear H
  go_enter Try.func66,Try.ntmps66
  go_wp2_with (first|((with_reducible refine gate_callee (f:=66) rfl ?_);refine goesL_ (some 16) rfl rfl Try.func66 zK rfl #[.int .i64 a0,.int .i64 (wrap64 (a1 - 1))] rfl zM ?_;(with_reducible refine (ih k (by omega) a0 (wrap64 (a1 - 1)) t119 _ A6.out).mono ?_);rintro e w7 ⟨v120,rfl,ho0,hb⟩;refine ⟨_,rfl,?_⟩;have HO121:=zA (Kd.S_lower ho0 (below_size zB));replace HB:=zu hb;clear hb;(try clear ho0);obtain ⟨Ao8,co8,eo8⟩:=Kd.S_slice HO121.out;subst eo8))
  go_loopg [5,18] k (fun kq v5 v18 w'=>∃ (x5_1:List (List Int)) (x18_1:Int),v18=.int .i64 x18_1∧Aside0 (conflict_sets.l0 kq a0 x5_1 t119 (t119.length:Int) x18_1=some r)∧Aside0 (kq≤k)∧Aside0 (Kd.S (Kd.slice 3 (Kd.int .i64)) 30 w' w.heap.size (fun k_=>some k_≠((.slice Ao8 t119.length co8):Value).ownBlock) v5 x5_1)∧Aside0 (Kd.S (Kd.slice 3 (Kd.int .i64)) 30 w' w.heap.size (fun k_=>some k_≠(v5:Value).ownBlock) (.slice Ao8 t119.length co8) t119)∧Aside0 (Below w.heap.size w w'))
  case atStart=>exact ⟨(([]:List (List Int))),(0),zT,H',⟨Nat.le_refl _⟩,⟨by first|exact Kd.S_nil _ _ _ _ _|exact Kd.N_nil _ _ _ _ _|exact Kd.V_nil _ _ _ _ _|exact Kd.Q_nil _ _ _ _ _|exact Kd.R_nil _ _ _ _ _⟩,⟨by (with_reducible repeat (first|apply Kd.S_alloc|apply Kd.S_drewN|apply Kd.S_drew));exact Kd.S_mono HO121.out (fun _ hk=>(by simp [Value.ownBlock]))⟩,⟨by repeat (first|(with_reducible first|exact HB.out|apply below_alloc|apply pw_below_drewN|apply below_drew1)|exact HB.out)⟩⟩
  case round=>
   clear H'
   try clear c3
   try clear c3b0
   try clear c3b1
   obtain ⟨x5_1,x18_1,rfl,HA,HK1,HO_5,HO_16,HB⟩:=hrel
   cases gk with
   | zero=>exact absurd HA.out (by simp [conflict_sets.l0])
   | succ k1=>
    have H:=HA.out
    clear HA
    simp only [conflict_sets.l0] at H
    rcases ifd H with ⟨c9b0,H⟩|⟨c9b0,H⟩
    ·obtain ⟨c10b0,H⟩:=ifd1 H
     obtain ⟨c11b0,H⟩:=ifd1 H
     rcases if0 H with ⟨c12,H⟩|⟨c12,H⟩
     ·have c12b0:decide (0<((rd_L1 t119 x18_1).length:Int))=true:=decide_eq_true c12
      have c12b1:decide (0<(rd_L1 t119 x18_1).length)=true:=decide_eq_true (by omega)
      clear c12
      obtain ⟨ji13,hji13⟩:=zZ (wrap64 (((rd_L1 t119 x18_1).length:Int) - 1))
      first|rw [hji13] at H|simp only [hji13] at H
      have hji13w:(IntKind.i64.wrap (((rd_L1 t119 x18_1).length:Int) - 1))=ji13:=(i64_w _).trans hji13
      obtain ⟨c14b0,H⟩:=ifd1 H
      obtain ⟨c15b0,H⟩:=ifd1 H
      have H':=zA H
      clear H
      obtain ⟨p122,q122,ad122,A122_0,c122_0,e122,hx122_0,hl122_0,hi122_0⟩:=zp (at_L1 (Kd.S_reads' HO_16.out).2.2 x18_1)
      cases e122
      obtain ⟨ce122,hce122,hMe122,hcc122⟩:=Kd.S_get HO_16.out [] x18_1 p122 (by first|exact q122|exact of_decide_eq_true zh|(have e_:=(Kd.S_reads' HO_16.out).1;omega))
      obtain ⟨ve122_0,rfl,ge122_0⟩:=hMe122
      have hv122_0:=hcc122 0 _ rfl
      rw [Nat.add_zero,show ((Kd.slice 3 (Kd.int .i64))).sz=1 from rfl,Nat.mul_one] at hv122_0
      replace hv122_0:=Option.some.inj (hv122_0.symm.trans hx122_0)
      rw [hv122_0] at ge122_0
      have HL122_0:=zA (show Kd.R (Kd.int .i64) 3 _ _ _ _ (rd_L1 t119 x18_1) from ge122_0)
      clear hv122_0 ge122_0
      clear hcc122 hce122
      have HR122_0:=zA hi122_0
      have HC122_0:=zA hl122_0
      clear hi122_0 hl122_0
      replace p122:=eq_true p122
      replace q122:=eq_true q122
      obtain ⟨p123,q123,ad123,e123,hx123_0⟩:=zp (Kd.at_int ((Kd.R_reads' HL122_0.out).2.2) (ji13))
      cases e123
      replace p123:=eq_true p123
      replace q123:=eq_true q123
      go_wp2
      go_loopg [5,9] k1 (fun kq v5 v9 w'=>∃ (x5_2:List (List Int)) (x9_2:Int),v9=.int .i64 x9_2∧Aside0 (conflict_sets.l1 kq a0 x5_2 (rd_L1 t119 x18_1) x9_2 t119 (t119.length:Int) x18_1=some r)∧Aside0 (kq≤k1)∧Aside0 (Kd.S (Kd.slice 3 (Kd.int .i64)) 30 w' w.heap.size (fun k_=>some k_≠((.slice (some ad122) t119.length co8):Value).ownBlock) v5 x5_2)∧Aside0 (Kd.R (Kd.int .i64) 3 w' w.heap.size (fun _=>True) (.slice (some ad123) (rd_L1 t119 x18_1).length c122_0) (rd_L1 t119 x18_1))∧Aside0 (Kd.S (Kd.slice 3 (Kd.int .i64)) 30 w' w.heap.size (fun k_=>some k_≠(v5:Value).ownBlock) (.slice (some ad122) t119.length co8) t119)∧Aside0 (Below w.heap.size w w'))
      case atStart=>exact ⟨(x5_1),(wrap64 ((rd (rd_L1 t119 x18_1) (ji13))+1)),(by first|rfl|(simp;done)|(simp only [← hji13] <;> (first|rfl|simp))|(simp [*];done)),H',⟨Nat.le_refl _⟩,⟨by (with_reducible repeat (first|apply Kd.S_alloc|apply Kd.S_drewN|apply Kd.S_drew));exact HO_5.out⟩,⟨by refine zr ?_;exact Kd.R_mono HL122_0.out (fun _ hk=>trivial)⟩,⟨by (with_reducible repeat (first|apply Kd.S_alloc|apply Kd.S_drewN|apply Kd.S_drew));exact HO_16.out⟩,⟨by repeat (first|(with_reducible first|exact HB.out|apply below_alloc|apply pw_below_drewN|apply below_drew1)|exact HB.out)⟩⟩
      case round=>
       clear H'
       try clear c3
       try clear c3b0
       try clear c3b1
       try clear c9
       try clear c9b0
       try clear c10
       try clear c10b0
       try clear c11
       try clear c11b0
       try clear c12
       try clear c12b0
       try clear c12b1
       try clear c14
       try clear c14b0
       try clear c15
       try clear c15b0
       try clear hx122_0
       try clear hx123_0
       try clear p122
       try clear p123
       try clear q122
       try clear q123
       obtain ⟨x5_2,x9_2,rfl,HA,HK2,HO_5,HO_7,HO_16,HB⟩:=hrel
       cases gk with
       | zero=>exact absurd HA.out (by simp [conflict_sets.l1])
       | succ k2=>
        have H:=HA.out
        clear HA
        simp only [conflict_sets.l1] at H
        rcases ifd H with ⟨c16b0,H⟩|⟨c16b0,H⟩
        ·obtain ⟨t124,A17,H⟩:=zo H
         obtain ⟨c18,H⟩:=if1 H
         have LMc18:=zA c18
         clear c18
         first|(replace H:=zyb (t124++[x9_2]) H;obtain ⟨y127,Ny127,H⟩:=H)|(obtain ⟨y127,hy127⟩:=zY (t124++[x9_2]);(try rw (occs:=.pos [1]) [← hy127] at H);have Ny127:=zA hy127;clear hy127)
         obtain ⟨c19,H⟩:=if1 H
         have LMc19:=zA c19
         clear c19
         first|(replace H:=zyb (x5_2++[y127]) H;obtain ⟨y130,Ny130,H⟩:=H)|(obtain ⟨y130,hy130⟩:=zY (x5_2++[y127]);(try rw (occs:=.pos [1]) [← hy130] at H);have Ny130:=zA hy130;clear hy130)
         have H':=zA H
         clear H
         go_wp2_with (first|((with_reducible refine gate_callee (f:=21) rfl ?_);refine goesL_ (some 40) rfl rfl Try.func21 zK rfl #[.slice (some ad123) (rd_L1 t119 x18_1).length c122_0] rfl zM ?_;(with_reducible refine (slices_Clone_int_int_21.calls _ _ (rd_L1 t119 x18_1) t124 _ ?side1 ?side2 A17.out).mono ?_);(case side1=>exact zC (Kd.R_reads' HO_7.out).2.2);(case side2=>exact (Kd.R_reads' HO_7.out).2.1);rintro e w20 ⟨v125,rfl,ho0,hb⟩;refine ⟨_,rfl,?_⟩;have HO126:=zA (Kd.R_lower (Kd.R_new' ho0 (Kd.R_lt (zR HO_7))) (below_size zB));replace HO_5:=zA (Kd.S_elder' (zS HO_5) (Kd.R_base ho0) hb);replace HO_7:=zA (Kd.R_elder' (zR HO_7) (Kd.R_base ho0) hb);replace HO_16:=zA (Kd.S_elder' (zS HO_16) (Kd.R_base ho0) hb);replace HB:=zu hb;clear hb;(try clear ho0))|((with_reducible refine gate_builtin (b:=.append) (xs:=#[.tmp 40,.tmp 42]) rfl ?_);at_builtin;refine Kd.R_append (Kd.int .i64) (w0:=w) w.heap.size rfl (.tmp 40) (.tmp 42) 30 3 (.int .i64 0) 8 rfl Try.underlying30 info3 rfl (by decide) (by omega) v125 t124 x9_2 [.int .i64 x9_2] (fun k_=>some k_≠(.slice (some ad123) (rd_L1 t119 x18_1).length c122_0:Value).ownBlock) (fun _=>False) rfl rfl ?aP (fun _ hk=>hk.elim) ?aF ?aO ?aB ?aS ?aL ?_;(case aP=>exact rfl);(case aB=>exact zB);(case aF=>exact (fun k_ hk=>Kd.fresh' (Kd.R_lt (zR HO_7)) k_ hk));(case aO=>exact (by refine zr ?_;exact Kd.R_mono HO126.out (fun _ hk=>hk.2)));(case aS=>exact (below_size zB));(case aL=>have:=LMc18.out;omega);intro v128 w21 ho hb hg hat;rw [← Ny127.out] at ho;have HO129:=zA (ho);replace HO_5:=zA (Kd.S_after (ok:=(fun k_=>some k_≠(.slice (some ad122) t119.length co8:Value).ownBlock)) (zS HO_5) hg hat);replace HO_7:=zA (Kd.R_after (ok:=(fun _=>True)) (zR HO_7) hg hat);replace HO_16:=zA (Kd.S_after (ok:=(fun k_=>some k_≠(u5:Value).ownBlock)) (zS HO_16) hg hat);replace HB:=zA (hb);clear HO126;clear ho hb hg hat;obtain ⟨Ao23,co23,eo23⟩:=Kd.R_slice HO129.out;subst eo23)|((with_reducible refine gate_builtin (b:=.append) (xs:=#[.tmp 38,.tmp 44]) rfl ?_);at_builtin;refine Kd.S_append (Kd.slice 3 (Kd.int .i64)) (w0:=w) w.heap.size rfl (.tmp 38) (.tmp 44) 25 30 (.slice none 0 0) 24 rfl Try.underlying25 info30 rfl (by decide) (by omega) u5 x5_2 y127 [.slice Ao23 y127.length co23] (fun k_=>some k_≠(.slice (some ad122) t119.length co8:Value).ownBlock) (fun k_=>some k_=(.slice Ao23 y127.length co23:Value).ownBlock) rfl rfl ?aP (fun k_ hk_=>((Kd.R_mono (ok':=fun k_=>((fun k_=>some k_≠(.slice (some ad122) t119.length co8:Value).ownBlock)) k_∧some k_≠(u5:Value).ownBlock) (Kd.R_apart' (Kd.R_apart' (HO129.out) (Kd.S_typed HO_16.out) (by decide)) (Kd.S_typed HO_5.out) (by decide)) (fun k_ hk=>⟨hk.1.2,hk.2⟩))).1 k_ hk_.symm) ?aF ?aO ?aB ?aS ?aL ?_;(case aP=>exact Kd.M_row (Kd.R_mono (Kd.R_tight rfl (Kd.R_mono (ok':=fun k_=>((fun k_=>some k_≠(.slice (some ad122) t119.length co8:Value).ownBlock)) k_∧some k_≠(u5:Value).ownBlock) (Kd.R_apart' (Kd.R_apart' (HO129.out) (Kd.S_typed HO_16.out) (by decide)) (Kd.S_typed HO_5.out) (by decide)) (fun k_ hk=>⟨hk.1.2,hk.2⟩))) (fun _ h_=>h_)));(case aB=>exact zB);(case aF=>exact (fun k_ hk=>Kd.fresh' (Kd.S_lt (zS HO_16)) k_ hk));(case aO=>exact (by (with_reducible repeat (first|apply Kd.S_alloc|apply Kd.S_drewN|apply Kd.S_drew));exact Kd.S_mono HO_5.out (fun k_ hk=>⟨hk.1,fun e_=>hk.2 e_⟩)));(case aS=>exact (below_size zB));(case aL=>have:=LMc19.out;omega);intro v131 w22 ho hb hg hat;rw [← Ny130.out] at ho;have HO132:=zA (ho);replace HO_7:=zA (Kd.R_over' (zR HO_7) (Kd.S_typed (zS HO_5)) (by decide) hg);replace HO_16:=zA (Kd.S_after (ok:=(fun k_=>some k_≠(.slice Ao23 y127.length co23:Value).ownBlock)) (by (with_reducible repeat (first|apply Kd.S_alloc|apply Kd.S_drewN|apply Kd.S_drew));exact Kd.S_mono HO_16.out (fun _ hk=>⟨hk.2,hk.1⟩)) hg hat);replace HB:=zA (hb);clear HO_5 HO129;clear ho hb hg hat))
         go_roundg k2
         case measure=>have:=HK1.out;have:=HK2.out;omega
         case rel=>exact ⟨(y130),(wrap64 (x9_2+1)),zT,H',⟨by have:=HK1.out;have:=HK2.out;omega⟩,⟨by (with_reducible repeat (first|apply Kd.S_alloc|apply Kd.S_drewN|apply Kd.S_drew));exact HO132.out⟩,⟨by refine zr ?_;exact Kd.R_mono HO_7.out (fun _ hk=>trivial)⟩,⟨by (with_reducible repeat (first|apply Kd.S_alloc|apply Kd.S_drewN|apply Kd.S_drew));exact Kd.S_mono HO_16.out (fun _ hk=>hk.2)⟩,⟨by repeat (first|(with_reducible first|exact HB.out|apply below_alloc|apply pw_below_drewN|apply below_drew1)|exact HB.out)⟩⟩
        ·have H':=zA H
         clear H
         go_wp2
         go_roundg k2
         case measure=>have:=HK1.out;have:=HK2.out;omega
         case rel=>exact ⟨(x5_2),(wrap64 (x18_1+1)),zT,H',⟨by have:=HK1.out;have:=HK2.out;omega⟩,⟨by (with_reducible repeat (first|apply Kd.S_alloc|apply Kd.S_drewN|apply Kd.S_drew));exact HO_5.out⟩,⟨by (with_reducible repeat (first|apply Kd.S_alloc|apply Kd.S_drewN|apply Kd.S_drew));exact HO_16.out⟩,⟨by repeat (first|(with_reducible first|exact HB.out|apply below_alloc|apply pw_below_drewN|apply below_drew1)|exact HB.out)⟩⟩
     ·have c12b0:decide (0<((rd_L1 t119 x18_1).length:Int))=false:=decide_eq_false c12
      have c12b1:decide (0<(rd_L1 t119 x18_1).length)=false:=decide_eq_false (by omega)
      clear c12
      have H':=zA H
      clear H
      obtain ⟨p122,q122,ad122,A122_0,c122_0,e122,hx122_0,hl122_0,hi122_0⟩:=zp (at_L1 (Kd.S_reads' HO_16.out).2.2 x18_1)
      cases e122
      obtain ⟨ce122,hce122,hMe122,hcc122⟩:=Kd.S_get HO_16.out [] x18_1 p122 (by first|exact q122|exact of_decide_eq_true zh|(have e_:=(Kd.S_reads' HO_16.out).1;omega))
      obtain ⟨ve122_0,rfl,ge122_0⟩:=hMe122
      have hv122_0:=hcc122 0 _ rfl
      rw [Nat.add_zero,show ((Kd.slice 3 (Kd.int .i64))).sz=1 from rfl,Nat.mul_one] at hv122_0
      replace hv122_0:=Option.some.inj (hv122_0.symm.trans hx122_0)
      rw [hv122_0] at ge122_0
      have HL122_0:=zA (show Kd.R (Kd.int .i64) 3 _ _ _ _ (rd_L1 t119 x18_1) from ge122_0)
      clear hv122_0 ge122_0
      clear hcc122 hce122
      have HR122_0:=zA hi122_0
      have HC122_0:=zA hl122_0
      clear hi122_0 hl122_0
      replace p122:=eq_true p122
      replace q122:=eq_true q122
      go_wp2
      go_loopg [5,9] k1 (fun kq v5 v9 w'=>∃ (x5_2:List (List Int)) (x9_2:Int),v9=.int .i64 x9_2∧Aside0 (conflict_sets.l1 kq a0 x5_2 (rd_L1 t119 x18_1) x9_2 t119 (t119.length:Int) x18_1=some r)∧Aside0 (kq≤k1)∧Aside0 (Kd.S (Kd.slice 3 (Kd.int .i64)) 30 w' w.heap.size (fun k_=>some k_≠((.slice (some ad122) t119.length co8):Value).ownBlock) v5 x5_2)∧Aside0 (Kd.R (Kd.int .i64) 3 w' w.heap.size (fun _=>True) (.slice A122_0 (rd_L1 t119 x18_1).length c122_0) (rd_L1 t119 x18_1))∧Aside0 (Kd.S (Kd.slice 3 (Kd.int .i64)) 30 w' w.heap.size (fun k_=>some k_≠(v5:Value).ownBlock) (.slice (some ad122) t119.length co8) t119)∧Aside0 (Below w.heap.size w w'))
      case atStart=>exact ⟨(x5_1),(0),zT,H',⟨Nat.le_refl _⟩,⟨by (with_reducible repeat (first|apply Kd.S_alloc|apply Kd.S_drewN|apply Kd.S_drew));exact HO_5.out⟩,⟨by refine zr ?_;exact Kd.R_mono HL122_0.out (fun _ hk=>trivial)⟩,⟨by (with_reducible repeat (first|apply Kd.S_alloc|apply Kd.S_drewN|apply Kd.S_drew));exact HO_16.out⟩,⟨by repeat (first|(with_reducible first|exact HB.out|apply below_alloc|apply pw_below_drewN|apply below_drew1)|exact HB.out)⟩⟩
      case round=>
       clear H'
       try clear c3
       try clear c3b0
       try clear c3b1
       try clear c9
       try clear c9b0
       try clear c10
       try clear c10b0
       try clear c11
       try clear c11b0
       try clear c12
       try clear c12b0
       try clear c12b1
       try clear hx122_0
       try clear p122
       try clear q122
       obtain ⟨x5_2,x9_2,rfl,HA,HK2,HO_5,HO_7,HO_16,HB⟩:=hrel
       cases gk with
       | zero=>exact absurd HA.out (by simp [conflict_sets.l1])
       | succ k2=>
        have H:=HA.out
        clear HA
        simp only [conflict_sets.l1] at H
        rcases ifd H with ⟨c24b0,H⟩|⟨c24b0,H⟩
        ·obtain ⟨t124,A25,H⟩:=zo H
         obtain ⟨c26,H⟩:=if1 H
         have LMc26:=zA c26
         clear c26
         first|(replace H:=zyb (t124++[x9_2]) H;obtain ⟨y127,Ny127,H⟩:=H)|(obtain ⟨y127,hy127⟩:=zY (t124++[x9_2]);(try rw (occs:=.pos [1]) [← hy127] at H);have Ny127:=zA hy127;clear hy127)
         obtain ⟨c27,H⟩:=if1 H
         have LMc27:=zA c27
         clear c27
         first|(replace H:=zyb (x5_2++[y127]) H;obtain ⟨y130,Ny130,H⟩:=H)|(obtain ⟨y130,hy130⟩:=zY (x5_2++[y127]);(try rw (occs:=.pos [1]) [← hy130] at H);have Ny130:=zA hy130;clear hy130)
         have H':=zA H
         clear H
         go_wp2_with (first|((with_reducible refine gate_callee (f:=21) rfl ?_);refine goesL_ (some 40) rfl rfl Try.func21 zK rfl #[.slice A122_0 (rd_L1 t119 x18_1).length c122_0] rfl zM ?_;(with_reducible refine (slices_Clone_int_int_21.calls _ _ (rd_L1 t119 x18_1) t124 _ ?side1 ?side2 A25.out).mono ?_);(case side1=>exact zC (Kd.R_reads' HO_7.out).2.2);(case side2=>exact (Kd.R_reads' HO_7.out).2.1);rintro e w28 ⟨v125,rfl,ho0,hb⟩;refine ⟨_,rfl,?_⟩;have HO126:=zA (Kd.R_lower (Kd.R_new' ho0 (Kd.R_lt (zR HO_7))) (below_size zB));replace HO_5:=zA (Kd.S_elder' (zS HO_5) (Kd.R_base ho0) hb);replace HO_7:=zA (Kd.R_elder' (zR HO_7) (Kd.R_base ho0) hb);replace HO_16:=zA (Kd.S_elder' (zS HO_16) (Kd.R_base ho0) hb);replace HB:=zu hb;clear hb;(try clear ho0))|((with_reducible refine gate_builtin (b:=.append) (xs:=#[.tmp 40,.tmp 42]) rfl ?_);at_builtin;refine Kd.R_append (Kd.int .i64) (w0:=w) w.heap.size rfl (.tmp 40) (.tmp 42) 30 3 (.int .i64 0) 8 rfl Try.underlying30 info3 rfl (by decide) (by omega) v125 t124 x9_2 [.int .i64 x9_2] (fun k_=>some k_≠(.slice A122_0 (rd_L1 t119 x18_1).length c122_0:Value).ownBlock) (fun _=>False) rfl rfl ?aP (fun _ hk=>hk.elim) ?aF ?aO ?aB ?aS ?aL ?_;(case aP=>exact rfl);(case aB=>exact zB);(case aF=>exact (fun k_ hk=>Kd.fresh' (Kd.R_lt (zR HO_7)) k_ hk));(case aO=>exact (by refine zr ?_;exact Kd.R_mono HO126.out (fun _ hk=>hk.2)));(case aS=>exact (below_size zB));(case aL=>have:=LMc26.out;omega);intro v128 w29 ho hb hg hat;rw [← Ny127.out] at ho;have HO129:=zA (ho);replace HO_5:=zA (Kd.S_after (ok:=(fun k_=>some k_≠(.slice (some ad122) t119.length co8:Value).ownBlock)) (zS HO_5) hg hat);replace HO_7:=zA (Kd.R_after (ok:=(fun _=>True)) (zR HO_7) hg hat);replace HO_16:=zA (Kd.S_after (ok:=(fun k_=>some k_≠(u5:Value).ownBlock)) (zS HO_16) hg hat);replace HB:=zA (hb);clear HO126;clear ho hb hg hat;obtain ⟨Ao31,co31,eo31⟩:=Kd.R_slice HO129.out;subst eo31)|((with_reducible refine gate_builtin (b:=.append) (xs:=#[.tmp 38,.tmp 44]) rfl ?_);at_builtin;refine Kd.S_append (Kd.slice 3 (Kd.int .i64)) (w0:=w) w.heap.size rfl (.tmp 38) (.tmp 44) 25 30 (.slice none 0 0) 24 rfl Try.underlying25 info30 rfl (by decide) (by omega) u5 x5_2 y127 [.slice Ao31 y127.length co31] (fun k_=>some k_≠(.slice (some ad122) t119.length co8:Value).ownBlock) (fun k_=>some k_=(.slice Ao31 y127.length co31:Value).ownBlock) rfl rfl ?aP (fun k_ hk_=>((Kd.R_mono (ok':=fun k_=>((fun k_=>some k_≠(.slice (some ad122) t119.length co8:Value).ownBlock)) k_∧some k_≠(u5:Value).ownBlock) (Kd.R_apart' (Kd.R_apart' (HO129.out) (Kd.S_typed HO_16.out) (by decide)) (Kd.S_typed HO_5.out) (by decide)) (fun k_ hk=>⟨hk.1.2,hk.2⟩))).1 k_ hk_.symm) ?aF ?aO ?aB ?aS ?aL ?_;(case aP=>exact Kd.M_row (Kd.R_mono (Kd.R_tight rfl (Kd.R_mono (ok':=fun k_=>((fun k_=>some k_≠(.slice (some ad122) t119.length co8:Value).ownBlock)) k_∧some k_≠(u5:Value).ownBlock) (Kd.R_apart' (Kd.R_apart' (HO129.out) (Kd.S_typed HO_16.out) (by decide)) (Kd.S_typed HO_5.out) (by decide)) (fun k_ hk=>⟨hk.1.2,hk.2⟩))) (fun _ h_=>h_)));(case aB=>exact zB);(case aF=>exact (fun k_ hk=>Kd.fresh' (Kd.S_lt (zS HO_16)) k_ hk));(case aO=>exact (by (with_reducible repeat (first|apply Kd.S_alloc|apply Kd.S_drewN|apply Kd.S_drew));exact Kd.S_mono HO_5.out (fun k_ hk=>⟨hk.1,fun e_=>hk.2 e_⟩)));(case aS=>exact (below_size zB));(case aL=>have:=LMc27.out;omega);intro v131 w30 ho hb hg hat;rw [← Ny130.out] at ho;have HO132:=zA (ho);replace HO_7:=zA (Kd.R_over' (zR HO_7) (Kd.S_typed (zS HO_5)) (by decide) hg);replace HO_16:=zA (Kd.S_after (ok:=(fun k_=>some k_≠(.slice Ao31 y127.length co31:Value).ownBlock)) (by (with_reducible repeat (first|apply Kd.S_alloc|apply Kd.S_drewN|apply Kd.S_drew));exact Kd.S_mono HO_16.out (fun _ hk=>⟨hk.2,hk.1⟩)) hg hat);replace HB:=zA (hb);clear HO_5 HO129;clear ho hb hg hat))
         go_roundg k2
         case measure=>have:=HK1.out;have:=HK2.out;omega
         case rel=>exact ⟨(y130),(wrap64 (x9_2+1)),zT,H',⟨by have:=HK1.out;have:=HK2.out;omega⟩,⟨by (with_reducible repeat (first|apply Kd.S_alloc|apply Kd.S_drewN|apply Kd.S_drew));exact HO132.out⟩,⟨by refine zr ?_;exact Kd.R_mono HO_7.out (fun _ hk=>trivial)⟩,⟨by (with_reducible repeat (first|apply Kd.S_alloc|apply Kd.S_drewN|apply Kd.S_drew));exact Kd.S_mono HO_16.out (fun _ hk=>hk.2)⟩,⟨by repeat (first|(with_reducible first|exact HB.out|apply below_alloc|apply pw_below_drewN|apply below_drew1)|exact HB.out)⟩⟩
        ·have H':=zA H
         clear H
         go_wp2
         go_roundg k2
         case measure=>have:=HK1.out;have:=HK2.out;omega
         case rel=>exact ⟨(x5_2),(wrap64 (x18_1+1)),zT,H',⟨by have:=HK1.out;have:=HK2.out;omega⟩,⟨by (with_reducible repeat (first|apply Kd.S_alloc|apply Kd.S_drewN|apply Kd.S_drew));exact HO_5.out⟩,⟨by (with_reducible repeat (first|apply Kd.S_alloc|apply Kd.S_drewN|apply Kd.S_drew));exact HO_16.out⟩,⟨by repeat (first|(with_reducible first|exact HB.out|apply below_alloc|apply pw_below_drewN|apply below_drew1)|exact HB.out)⟩⟩
    ·obtain rfl:=Option.some.inj H
     go_wp2
     go_ret
     exact ⟨_,ze,by (with_reducible repeat (first|apply Kd.S_alloc|apply Kd.S_drewN|apply Kd.S_drew));exact Kd.S_mono HO_5.out (fun _ hk=>trivial),by repeat (first|(with_reducible first|exact HB.out|apply below_alloc|apply pw_below_drewN|apply below_drew1)|exact HB.out)⟩
def slices_Index_int_int.l0:Nat→List Int→Int→Int→Int→Option (Int)
 | 0,_,_,_,_=>none
 | k+1,x0,x1,x7,x8=>if x8<x7 then (if 0≤x8 then (if x8<(x0.length:Int) then (if x1=(rd x0 x8) then (some x8) else (slices_Index_int_int.l0 k x0 x1 x7 (wrap64 (x8+1)))) else (none)) else (none)) else (some (-1))
def slices_Index_int_int.f (k:Nat) (l0:List Int) (a1:Int):Option (Int):=slices_Index_int_int.l0 k l0 a1 (l0.length:Int) 0
theorem slices_Index_int_int.mono_l:∀ k,(∀ y0 y1 y2 y3,LeO (slices_Index_int_int.l0 k y0 y1 y2 y3) (slices_Index_int_int.l0 (k+1) y0 y1 y2 y3))
 | 0=>fun _ _ _ _ r h=>by simp [slices_Index_int_int.l0] at h
 | k+1=>by
  have ih0:=slices_Index_int_int.mono_l k
  ·intro y0 y1 y2 y3
   unfold slices_Index_int_int.l0
   repeat' first
   | (with_reducible exact ih0 _ _ _ _)
   | (with_reducible exact LeO.refl _)
   | (with_reducible exact LeO.none _)
   | (with_reducible refine LeO.ite ?_ ?_)
   | (with_reducible refine LeO.bind ?_ (fun _=>?_))
   | exact LeO.none _
   | refine LeO.ite ?_ ?_
   | refine LeO.bind ?_ (fun _=>?_)
theorem slices_Index_int_int.mono:∀ a0 a1 k,LeO (slices_Index_int_int.f k a0 a1) (slices_Index_int_int.f (k+1) a0 a1):=by
 intro a0 a1 k
 have ih0:=slices_Index_int_int.mono_l k
 unfold slices_Index_int_int.f
 repeat' first
   | (with_reducible exact ih0 _ _ _ _)
   | (with_reducible exact LeO.refl _)
   | (with_reducible exact LeO.none _)
   | (with_reducible refine LeO.ite ?_ ?_)
   | (with_reducible refine LeO.bind ?_ (fun _=>?_))
   | exact LeO.none _
   | refine LeO.ite ?_ ?_
   | refine LeO.bind ?_ (fun _=>?_)
set_option maxHeartbeats 8000000 in
set_option maxRecDepth 100000 in
theorem slices_Index_int_int.calls (k:Nat) (A0:Option Addr) (c0:Nat) (l0:List Int) (a1:Int) (r:Int) (w:World) (hr0:Kd.C (Kd.int .i64) w A0 l0.length l0) (hc0:l0.length≤c0) (h:slices_Index_int_int.f k l0 a1=some r) :
  Calls Try.prog 54 #[.slice A0 l0.length c0,.int .i64 a1] w fun e w'=>e=.returned (.int .i64 r)∧Drawn0 w w':=by
 have hu3:=Try.underlying3
 have HR0:=zA hr0
 have HC0:=zA hc0
 clear hr0 hc0
 have H:(slices_Index_int_int.l0 k l0 a1 (l0.length:Int) 0)=some r:=h
 clear h
 have H':=zA H
 clear H
 go_enter Try.func54,Try.ntmps54
 go_wp2
 go_loopg [8] k (fun kq v8 w'=>∃ (x8_1:Int),v8=.int .i64 x8_1∧Aside0 (slices_Index_int_int.l0 kq l0 a1 (l0.length:Int) x8_1=some r)∧Aside0 (kq≤k)∧Drawn0 w w')
 case atStart=>exact ⟨(0),zT,H',⟨Nat.le_refl _⟩,by repeat (first|exact Drawn0.refl _|apply Drawn0.step)⟩
 case round=>
  clear H'
  obtain ⟨x8_1,rfl,HA,HK1,⟨m1,rfl⟩⟩:=hrel
  cases gk with
  | zero=>exact absurd HA.out (by simp [slices_Index_int_int.l0])
  | succ k1=>
   have H:=HA.out
   clear HA
   simp only [slices_Index_int_int.l0] at H
   rcases ifd H with ⟨c3b0,H⟩|⟨c3b0,H⟩
   ·obtain ⟨c4b0,H⟩:=ifd1 H
    obtain ⟨c5b0,H⟩:=ifd1 H
    rcases ife H with ⟨c6b0,c6b1,H⟩|⟨c6,c6b0,c6b1,H⟩
    ·obtain rfl:=Option.some.inj H
     obtain ⟨p133,q133,ad133,e133,hx133_0⟩:=zp (Kd.at_int HR0.out x8_1)
     cases e133
     replace p133:=eq_true p133
     replace q133:=eq_true q133
     go_wp2
     go_ret
     exact ⟨by first|rfl|(simp;done)|(simp [*];done),by repeat (first|exact Drawn0.refl _|apply Drawn0.step)⟩
    ·have H':=zA H
     clear H
     obtain ⟨p133,q133,ad133,e133,hx133_0⟩:=zp (Kd.at_int HR0.out x8_1)
     cases e133
     replace p133:=eq_true p133
     replace q133:=eq_true q133
     go_wp2
     go_roundg k1
     case measure=>have:=HK1.out;omega
     case rel=>exact ⟨(wrap64 (x8_1+1)),zT,H',⟨by have:=HK1.out;omega⟩,by repeat (first|exact Drawn0.refl _|apply Drawn0.step)⟩
   ·obtain rfl:=Option.some.inj H
    go_wp2
    go_ret
    exact ⟨by first|rfl|(simp;done)|(simp [*];done),by repeat (first|exact Drawn0.refl _|apply Drawn0.step)⟩
def slices_Contains_int_int.f (k:Nat) (l0:List Int) (a1:Int):Option (Bool):=(slices_Index_int_int.f k l0 a1).bind fun t134=>(some (decide (t134≥0)))
theorem slices_Contains_int_int.mono:∀ a0 a1 k,LeO (slices_Contains_int_int.f k a0 a1) (slices_Contains_int_int.f (k+1) a0 a1):=by
 intro a0 a1 k
 unfold slices_Contains_int_int.f
 repeat' first
   | (with_reducible exact slices_Index_int_int.mono _ _ _)
   | (with_reducible exact LeO.refl _)
   | (with_reducible exact LeO.none _)
   | (with_reducible refine LeO.ite ?_ ?_)
   | (with_reducible refine LeO.bind ?_ (fun _=>?_))
   | exact LeO.none _
   | refine LeO.ite ?_ ?_
   | refine LeO.bind ?_ (fun _=>?_)
set_option maxHeartbeats 8000000 in
set_option maxRecDepth 100000 in
theorem slices_Contains_int_int.calls (k:Nat) (A0:Option Addr) (c0:Nat) (l0:List Int) (a1:Int) (r:Bool) (w:World) (hr0:Kd.C (Kd.int .i64) w A0 l0.length l0) (hc0:l0.length≤c0) (h:slices_Contains_int_int.f k l0 a1=some r) :
  Calls Try.prog 30 #[.slice A0 l0.length c0,.int .i64 a1] w fun e w'=>e=.returned (.bool r)∧Drawn0 w w':=by
 have HR0:=zA hr0
 have HC0:=zA hc0
 clear hr0 hc0
 have H:((slices_Index_int_int.f k l0 a1).bind fun t134=>(some (decide (t134≥0))))=some r:=h
 clear h
 obtain ⟨t134,A3,H⟩:=zo H
 obtain rfl:=Option.some.inj H
 go_enter Try.func30,Try.ntmps30
 go_wp2_with (first|((with_reducible refine gate_callee (f:=54) rfl ?_);refine goesL_ (some 7) rfl rfl Try.func54 zK rfl #[.slice A0 l0.length c0,.int .i64 a1] rfl zM ?_;(with_reducible refine (slices_Index_int_int.calls k _ _ l0 a1 t134 _ ?side1 HC0.out A3.out).mono ?_);(case side1=>repeat (first|exact HR0.out|(with_reducible refine Kd.C_alloc ?_ _)|(with_reducible refine Kd.C_drewN ?_ _)|(with_reducible refine Kd.C_drew ?_)));rintro e w' ⟨rfl,⟨nd,rfl⟩⟩;refine ⟨_,rfl,?_⟩))
 go_ret
 exact ⟨by first|rfl|(simp;done)|(simp [*];done),by repeat (first|exact Drawn0.refl _|apply Drawn0.step)⟩
def conflict_part_1_v1.f (k:Nat) (a0:Int) (l1_0:List Int):Option (Bool):=(slices_Contains_int_int.f k l1_0 a0).bind fun t136=>(some (!t136))
theorem conflict_part_1_v1.mono:∀ a0 a1 k,LeO (conflict_part_1_v1.f k a0 a1) (conflict_part_1_v1.f (k+1) a0 a1):=by
 intro a0 a1 k
 unfold conflict_part_1_v1.f
 repeat' first
   | (with_reducible exact slices_Contains_int_int.mono _ _ _)
   | (with_reducible exact LeO.refl _)
   | (with_reducible exact LeO.none _)
   | (with_reducible refine LeO.ite ?_ ?_)
   | (with_reducible refine LeO.bind ?_ (fun _=>?_))
   | exact LeO.none _
   | refine LeO.ite ?_ ?_
   | refine LeO.bind ?_ (fun _=>?_)
set_option maxHeartbeats 8000000 in
set_option maxRecDepth 100000 in
theorem conflict_part_1_v1.calls (k:Nat) (a0:Int) (gp1_0:Nat) (A1_0:Option Addr) (c1_0:Nat) (l1_0:List Int) (r:Bool) (w:World) (hr1_0:Kd.C (Kd.int .i64) w A1_0 l1_0.length l1_0) (hc1_0:l1_0.length≤c1_0) (hb_gp1_0:w.heap[gp1_0]?=some (.cells #[.slice A1_0 l1_0.length c1_0] 30 (0,0))) (h:conflict_part_1_v1.f k a0 l1_0=some r) :
  Calls Try.prog 89 #[.int .i64 a0,.pointer (some ⟨gp1_0,0,none⟩)] w fun e w'=>e=.returned (.bool r)∧Drawn0 w w':=by
 have hu30:=Try.underlying30
 have HR1_0:=zA hr1_0
 have HC1_0:=zA hc1_0
 clear hr1_0 hc1_0
 have BK135:=zA hb_gp1_0
 clear hb_gp1_0
 have H:((slices_Contains_int_int.f k l1_0 a0).bind fun t136=>(some (!t136)))=some r:=h
 clear h
 obtain ⟨t136,A3,H⟩:=zo H
 obtain rfl:=Option.some.inj H
 have hcz4_0:w.cell? ⟨gp1_0,0,none⟩=some (.slice A1_0 l1_0.length c1_0):=(blk_cell BK135.out 0).trans rfl
 have hfz4_0:=zf BK135 0
 go_enter Try.func89,Try.ntmps89
 go_wp2_with (first|((with_reducible refine gate_callee (f:=30) rfl ?_);refine goesL_ (some 6) rfl rfl Try.func30 zK rfl #[.slice A1_0 l1_0.length c1_0,.int .i64 a0] rfl zM ?_;(with_reducible refine (slices_Contains_int_int.calls k _ _ l1_0 a0 t136 _ ?side1 HC1_0.out A3.out).mono ?_);(case side1=>repeat (first|exact HR1_0.out|(with_reducible refine Kd.C_alloc ?_ _)|(with_reducible refine Kd.C_drewN ?_ _)|(with_reducible refine Kd.C_drew ?_)));rintro e w' ⟨rfl,⟨nd,rfl⟩⟩;refine ⟨_,rfl,?_⟩))
 go_ret
 exact ⟨by first|rfl|(simp;done)|(simp [*];done),by repeat (first|exact Drawn0.refl _|apply Drawn0.step)⟩
def slices_IndexFunc_int_int_conflict_part_1.l0:Nat→List Int→Int→Int→List Int→Option (Int)
 | 0,_,_,_,_=>none
 | k+1,x0,x7,x8,x138000=>if x8<x7 then (if 0≤x8 then (if x8<(x0.length:Int) then ((conflict_part_1_v1.f k (rd x0 x8) x138000).bind fun t139=>(if t139=true then (some x8) else (slices_IndexFunc_int_int_conflict_part_1.l0 k x0 x7 (wrap64 (x8+1)) x138000))) else (none)) else (none)) else (some (-1))
def slices_IndexFunc_int_int_conflict_part_1.f (k:Nat) (l0:List Int) (l1_0:List Int):Option (Int):=slices_IndexFunc_int_int_conflict_part_1.l0 k l0 (l0.length:Int) 0 l1_0
theorem slices_IndexFunc_int_int_conflict_part_1.mono_l:∀ k,(∀ y0 y1 y2 y3,LeO (slices_IndexFunc_int_int_conflict_part_1.l0 k y0 y1 y2 y3) (slices_IndexFunc_int_int_conflict_part_1.l0 (k+1) y0 y1 y2 y3))
 | 0=>fun _ _ _ _ r h=>by simp [slices_IndexFunc_int_int_conflict_part_1.l0] at h
 | k+1=>by
  have ih0:=slices_IndexFunc_int_int_conflict_part_1.mono_l k
  ·intro y0 y1 y2 y3
   unfold slices_IndexFunc_int_int_conflict_part_1.l0
   repeat' first
   | (with_reducible exact ih0 _ _ _ _)
   | (with_reducible exact conflict_part_1_v1.mono _ _ _)
   | (with_reducible exact LeO.refl _)
   | (with_reducible exact LeO.none _)
   | (with_reducible refine LeO.ite ?_ ?_)
   | (with_reducible refine LeO.bind ?_ (fun _=>?_))
   | exact LeO.none _
   | refine LeO.ite ?_ ?_
   | refine LeO.bind ?_ (fun _=>?_)
theorem slices_IndexFunc_int_int_conflict_part_1.mono:∀ a0 a1 k,LeO (slices_IndexFunc_int_int_conflict_part_1.f k a0 a1) (slices_IndexFunc_int_int_conflict_part_1.f (k+1) a0 a1):=by
 intro a0 a1 k
 have ih0:=slices_IndexFunc_int_int_conflict_part_1.mono_l k
 unfold slices_IndexFunc_int_int_conflict_part_1.f
 repeat' first
   | (with_reducible exact ih0 _ _ _ _)
   | (with_reducible exact conflict_part_1_v1.mono _ _ _)
   | (with_reducible exact LeO.refl _)
   | (with_reducible exact LeO.none _)
   | (with_reducible refine LeO.ite ?_ ?_)
   | (with_reducible refine LeO.bind ?_ (fun _=>?_))
   | exact LeO.none _
   | refine LeO.ite ?_ ?_
   | refine LeO.bind ?_ (fun _=>?_)
set_option maxHeartbeats 8000000 in
set_option maxRecDepth 100000 in
theorem slices_IndexFunc_int_int_conflict_part_1.calls (k:Nat) (A0:Option Addr) (c0:Nat) (l0:List Int) (gp1_0:Nat) (A1_0:Option Addr) (c1_0:Nat) (l1_0:List Int) (r:Int) (w:World) (hr0:Kd.C (Kd.int .i64) w A0 l0.length l0) (hc0:l0.length≤c0) (hr1_0:Kd.C (Kd.int .i64) w A1_0 l1_0.length l1_0) (hc1_0:l1_0.length≤c1_0) (hb_gp1_0:w.heap[gp1_0]?=some (.cells #[.slice A1_0 l1_0.length c1_0] 30 (0,0))) (h:slices_IndexFunc_int_int_conflict_part_1.f k l0 l1_0=some r) :
  Calls Try.prog 105 #[.slice A0 l0.length c0,.func (.func 89) #[] #[.pointer (some ⟨gp1_0,0,none⟩)]] w fun e w'=>e=.returned (.int .i64 r)∧Below w.heap.size w w':=by
 have hu3:=Try.underlying3
 have HR0:=zA hr0
 have HC0:=zA hc0
 clear hr0 hc0
 have HR1_0:=zA hr1_0
 have HC1_0:=zA hc1_0
 clear hr1_0 hc1_0
 have BK137:=zA hb_gp1_0
 clear hb_gp1_0
 have HB:=zA (Below.refl w.heap.size w)
 have H:(slices_IndexFunc_int_int_conflict_part_1.l0 k l0 (l0.length:Int) 0 l1_0)=some r:=h
 clear h
 have H':=zA H
 clear H
 go_enter Try.func105,Try.ntmps105
 go_wp2
 go_loopg [8] k (fun kq v8 w'=>∃ (x8_1:Int),v8=.int .i64 x8_1∧Aside0 (slices_IndexFunc_int_int_conflict_part_1.l0 kq l0 (l0.length:Int) x8_1 l1_0=some r)∧Aside0 (kq≤k)∧Aside0 (w'.heap[gp1_0]?=some (.cells #[(.slice A1_0 l1_0.length c1_0)] 30 (0,0)))∧Aside0 (Below w.heap.size w w'))
 case atStart=>exact ⟨(0),zT,H',⟨Nat.le_refl _⟩,⟨by refine zj ?_;exact BK137.out⟩,⟨by repeat (first|(with_reducible first|exact HB.out|apply below_alloc|apply pw_below_drewN|apply below_drew1|refine below_set ?_ GE137.out)|exact HB.out)⟩⟩
 case round=>
  clear H'
  obtain ⟨x8_1,rfl,HA,HK1,BK137,HB⟩:=hrel
  cases gk with
  | zero=>exact absurd HA.out (by simp [slices_IndexFunc_int_int_conflict_part_1.l0])
  | succ k1=>
   have H:=HA.out
   clear HA
   simp only [slices_IndexFunc_int_int_conflict_part_1.l0] at H
   rcases ifd H with ⟨c3b0,H⟩|⟨c3b0,H⟩
   ·obtain ⟨c4b0,H⟩:=ifd1 H
    obtain ⟨c5b0,H⟩:=ifd1 H
    obtain ⟨t139,A6,H⟩:=zo H
    have HC7:=zA H
    clear H
    obtain ⟨p138,q138,ad138,e138,hx138_0⟩:=zp (Kd.at_int HR0.out x8_1)
    cases e138
    replace hx138_0:=zd HB hx138_0
    replace p138:=eq_true p138
    replace q138:=eq_true q138
    go_upto_if 16 with (first|(go_at_call 89;(with_reducible refine (conflict_part_1_v1.calls k1 (rd l0 x8_1) gp1_0 A1_0 c1_0 l1_0 t139 _ (zD HR1_0 HB) HC1_0.out ?side3 A6.out).mono ?_);(case side3=>refine zj ?_;exact BK137.out);rintro e w' ⟨rfl,⟨nd,rfl⟩⟩))
    (try simp only [Act.put,zi,zs,zt])
    have H:=HC7.out
    clear HC7
    by_cases c8:t139=true
    ·subst c8
     have H1:(some x8_1)=some r:=by rw [if_pos rfl] at H;exact H
     clear H
     have H:=H1
     clear H1
     obtain rfl:=Option.some.inj H
     go_wp2
     go_ret
     exact ⟨ze,by repeat (first|(with_reducible first|exact HB.out|apply below_alloc|apply pw_below_drewN|apply below_drew1|refine below_set ?_ GE137.out)|exact HB.out)⟩
    ·replace c8:=Bool.eq_false_iff.mpr c8
     subst c8
     have H1:(slices_IndexFunc_int_int_conflict_part_1.l0 k1 l0 (l0.length:Int) (wrap64 (x8_1+1)) l1_0)=some r:=by rw [if_neg (show ¬ (false=true) by decide)] at H;exact H
     clear H
     have H:=H1
     clear H1
     have H':=zA H
     clear H
     go_wp2
     go_roundg k1
     case measure=>have:=HK1.out;omega
     case rel=>exact ⟨(wrap64 (x8_1+1)),zT,H',⟨by have:=HK1.out;omega⟩,⟨by refine zj ?_;exact BK137.out⟩,⟨by repeat (first|(with_reducible first|exact HB.out|apply below_alloc|apply pw_below_drewN|apply below_drew1|refine below_set ?_ GE137.out)|exact HB.out)⟩⟩
   ·obtain rfl:=Option.some.inj H
    go_wp2
    go_ret
    exact ⟨ze,by repeat (first|(with_reducible first|exact HB.out|apply below_alloc|apply pw_below_drewN|apply below_drew1|refine below_set ?_ GE137.out)|exact HB.out)⟩
def slices_ContainsFunc_int_int_conflict_part_1.f (k:Nat) (l0:List Int) (l1_0:List Int):Option (Bool):=(slices_IndexFunc_int_int_conflict_part_1.f k l0 l1_0).bind fun t141=>(some (decide (t141≥0)))
theorem slices_ContainsFunc_int_int_conflict_part_1.mono:∀ a0 a1 k,LeO (slices_ContainsFunc_int_int_conflict_part_1.f k a0 a1) (slices_ContainsFunc_int_int_conflict_part_1.f (k+1) a0 a1):=by
 intro a0 a1 k
 unfold slices_ContainsFunc_int_int_conflict_part_1.f
 repeat' first
   | (with_reducible exact slices_IndexFunc_int_int_conflict_part_1.mono _ _ _)
   | (with_reducible exact LeO.refl _)
   | (with_reducible exact LeO.none _)
   | (with_reducible refine LeO.ite ?_ ?_)
   | (with_reducible refine LeO.bind ?_ (fun _=>?_))
   | exact LeO.none _
   | refine LeO.ite ?_ ?_
   | refine LeO.bind ?_ (fun _=>?_)
set_option maxHeartbeats 8000000 in
set_option maxRecDepth 100000 in
theorem slices_ContainsFunc_int_int_conflict_part_1.calls (k:Nat) (A0:Option Addr) (c0:Nat) (l0:List Int) (gp1_0:Nat) (A1_0:Option Addr) (c1_0:Nat) (l1_0:List Int) (r:Bool) (w:World) (hr0:Kd.C (Kd.int .i64) w A0 l0.length l0) (hc0:l0.length≤c0) (hr1_0:Kd.C (Kd.int .i64) w A1_0 l1_0.length l1_0) (hc1_0:l1_0.length≤c1_0) (hb_gp1_0:w.heap[gp1_0]?=some (.cells #[.slice A1_0 l1_0.length c1_0] 30 (0,0))) (h:slices_ContainsFunc_int_int_conflict_part_1.f k l0 l1_0=some r) :
  Calls Try.prog 88 #[.slice A0 l0.length c0,.func (.func 89) #[] #[.pointer (some ⟨gp1_0,0,none⟩)]] w fun e w'=>e=.returned (.bool r)∧Below w.heap.size w w':=by
 have HR0:=zA hr0
 have HC0:=zA hc0
 clear hr0 hc0
 have HR1_0:=zA hr1_0
 have HC1_0:=zA hc1_0
 clear hr1_0 hc1_0
 have BK140:=zA hb_gp1_0
 clear hb_gp1_0
 have HB:=zA (Below.refl w.heap.size w)
 have H:((slices_IndexFunc_int_int_conflict_part_1.f k l0 l1_0).bind fun t141=>(some (decide (t141≥0))))=some r:=h
 clear h
 obtain ⟨t141,A3,H⟩:=zo H
 obtain rfl:=Option.some.inj H
 go_enter Try.func88,Try.ntmps88
 go_wp2_with (first|((with_reducible refine gate_callee (f:=105) rfl ?_);refine goesL_ (some 7) rfl rfl Try.func105 zK rfl #[.slice A0 l0.length c0,.func (.func 89) #[] #[.pointer (some ⟨gp1_0,0,none⟩)]] rfl zM ?_;(with_reducible refine (slices_IndexFunc_int_int_conflict_part_1.calls k _ _ l0 gp1_0 A1_0 c1_0 l1_0 t141 _ ?side1 HC0.out ?side3 HC1_0.out ?side5 A3.out).mono ?_);(case side1=>repeat (first|exact HR0.out|(with_reducible refine Kd.C_alloc ?_ _)|(with_reducible refine Kd.C_drewN ?_ _)|(with_reducible refine Kd.C_drew ?_)));(case side3=>repeat (first|exact HR1_0.out|(with_reducible refine Kd.C_alloc ?_ _)|(with_reducible refine Kd.C_drewN ?_ _)|(with_reducible refine Kd.C_drew ?_)));(case side5=>refine zj ?_;exact BK140.out);rintro e w4 ⟨rfl,hb⟩;refine ⟨_,rfl,?_⟩;replace BK140:=zw BK140 hb;replace HB:=zu hb;clear hb))
 go_ret
 exact ⟨ze,by repeat (first|(with_reducible first|exact HB.out|apply below_alloc|apply pw_below_drewN|apply below_drew1|refine below_set ?_ GE140.out)|exact HB.out)⟩
def conflict_part.f (k:Nat) (l0:List Int) (l1:List Int):Option (Bool):=(slices_ContainsFunc_int_int_conflict_part_1.f k l0 l1).bind fun t143=>(some (!t143))
theorem conflict_part.mono:∀ a0 a1 k,LeO (conflict_part.f k a0 a1) (conflict_part.f (k+1) a0 a1):=by
 intro a0 a1 k
 unfold conflict_part.f
 repeat' first
   | (with_reducible exact slices_ContainsFunc_int_int_conflict_part_1.mono _ _ _)
   | (with_reducible exact LeO.refl _)
   | (with_reducible exact LeO.none _)
   | (with_reducible refine LeO.ite ?_ ?_)
   | (with_reducible refine LeO.bind ?_ (fun _=>?_))
   | exact LeO.none _
   | refine LeO.ite ?_ ?_
   | refine LeO.bind ?_ (fun _=>?_)
set_option maxHeartbeats 8000000 in
set_option maxRecDepth 100000 in
theorem conflict_part.calls (k:Nat) (A0:Option Addr) (c0:Nat) (l0:List Int) (A1:Option Addr) (c1:Nat) (l1:List Int) (r:Bool) (w:World) (hr0:Kd.C (Kd.int .i64) w A0 l0.length l0) (hc0:l0.length≤c0) (hr1:Kd.C (Kd.int .i64) w A1 l1.length l1) (hc1:l1.length≤c1) (h:conflict_part.f k l0 l1=some r) :
  Calls Try.prog 77 #[.slice A0 l0.length c0,.slice A1 l1.length c1] w fun e w'=>e=.returned (.bool r)∧Below w.heap.size w w':=by
 have hu30:=Try.underlying30
 have HR0:=zA hr0
 have HC0:=zA hc0
 clear hr0 hc0
 have HR1:=zA hr1
 have HC1:=zA hc1
 clear hr1 hc1
 have HB:=zA (Below.refl w.heap.size w)
 have H:((slices_ContainsFunc_int_int_conflict_part_1.f k l0 l1).bind fun t143=>(some (!t143)))=some r:=h
 clear h
 obtain ⟨t143,A3,H⟩:=zo H
 obtain rfl:=Option.some.inj H
 go_enter Try.func77,Try.ntmps77
 go_wp2_with (first|((with_reducible refine gd 3 rfl ?_);refine zx #[.slice A1 l1.length c1] 30 (h:=?_);intro gb142 hg w4 BK142 hb GW142 HB1;have GE142:=GW142;clear HB hb hg;have HB:=HB1;clear HB1)|((with_reducible refine gate_callee (f:=88) rfl ?_);refine goesL_ (some 7) rfl rfl Try.func88 zK rfl #[.slice A0 l0.length c0,.func (.func 89) #[] #[.pointer (some ⟨gb142,0,none⟩)]] rfl zM ?_;(with_reducible refine (slices_ContainsFunc_int_int_conflict_part_1.calls k _ _ l0 gb142 A1 c1 l1 t143 _ (zD HR0 HB) HC0.out (zD HR1 HB) HC1.out ?side5 A3.out).mono ?_);(case side5=>refine zj ?_;exact BK142.out);rintro e w5 ⟨rfl,hb⟩;refine ⟨_,rfl,?_⟩;replace BK142:=zw BK142 hb;replace HB:=zu hb;clear hb))
 go_ret
 exact ⟨ze,by repeat (first|(with_reducible first|exact HB.out|apply below_alloc|apply pw_below_drewN|apply below_drew1|refine below_set ?_ GE142.out)|exact HB.out)⟩
def solve_valid.l0:Nat→List (S50)→Int→Int→Option (Int)
 | 0,_,_,_=>none
 | k+1,x9,x10,x11=>if x11<x10 then (if 0≤x11 then (if x11<(x9.length:Int) then ((table_Valid.f k ((rd_T50 x9 x11).f0) ((rd_T50 x9 x11).f1)).bind fun t146=>(if t146=0 then (solve_valid.l0 k x9 x10 (wrap64 (x11+1))) else (some t146))) else (none)) else (none)) else (some 0)
def solve_valid.f (k:Nat) (l0:List (S50)):Option (Int):=if (l0.length:Int)>16 then (some 3) else (solve_valid.l0 k l0 (l0.length:Int) 0)
theorem solve_valid.mono_l:∀ k,(∀ y0 y1 y2,LeO (solve_valid.l0 k y0 y1 y2) (solve_valid.l0 (k+1) y0 y1 y2))
 | 0=>fun _ _ _ r h=>by simp [solve_valid.l0] at h
 | k+1=>by
  have ih0:=solve_valid.mono_l k
  ·intro y0 y1 y2
   unfold solve_valid.l0
   repeat' first
   | (with_reducible exact ih0 _ _ _)
   | (with_reducible exact table_Valid.mono _ _ _)
   | (with_reducible exact LeO.refl _)
   | (with_reducible exact LeO.none _)
   | (with_reducible refine LeO.ite ?_ ?_)
   | (with_reducible refine LeO.bind ?_ (fun _=>?_))
   | exact LeO.none _
   | refine LeO.ite ?_ ?_
   | refine LeO.bind ?_ (fun _=>?_)
theorem solve_valid.mono:∀ a0 k,LeO (solve_valid.f k a0) (solve_valid.f (k+1) a0):=by
 intro a0 k
 have ih0:=solve_valid.mono_l k
 unfold solve_valid.f
 repeat' first
   | (with_reducible exact ih0 _ _ _)
   | (with_reducible exact table_Valid.mono _ _ _)
   | (with_reducible exact LeO.refl _)
   | (with_reducible exact LeO.none _)
   | (with_reducible refine LeO.ite ?_ ?_)
   | (with_reducible refine LeO.bind ?_ (fun _=>?_))
   | exact LeO.none _
   | refine LeO.ite ?_ ?_
   | refine LeO.bind ?_ (fun _=>?_)
set_option maxHeartbeats 8000000 in
set_option maxRecDepth 100000 in
theorem solve_valid.calls (k:Nat) (A0:Option Addr) (c0:Nat) (l0:List (S50)) (r:Int) (w:World) (hr0:Kd.C k50 w A0 l0.length l0) (hc0:l0.length≤c0) (h:solve_valid.f k l0=some r) :
  Calls Try.prog 63 #[.slice A0 l0.length c0] w fun e w'=>e=.returned (.int .i64 r)∧Below w.heap.size w w':=by
 have hu50:=Try.underlying50
 have HR0:=zA hr0
 have HC0:=zA hc0
 clear hr0 hc0
 have HB:=zA (Below.refl w.heap.size w)
 have H:(if (l0.length:Int)>16 then (some 3) else (solve_valid.l0 k l0 (l0.length:Int) 0))=some r:=h
 clear h
 rcases if0 H with ⟨c2,H⟩|⟨c2,H⟩
 ·have c2b0:decide (16<(l0.length:Int))=true:=decide_eq_true c2
  have c2b1:decide (16<l0.length)=true:=decide_eq_true (by omega)
  clear c2
  obtain rfl:=Option.some.inj H
  go_enter Try.func63,Try.ntmps63
  go_wp2
  go_ret
  exact ⟨ze,by repeat (first|(with_reducible first|exact HB.out|apply below_alloc|apply pw_below_drewN|apply below_drew1)|exact HB.out)⟩
 ·have c2b0:decide (16<(l0.length:Int))=false:=decide_eq_false c2
  have c2b1:decide (16<l0.length)=false:=decide_eq_false (by omega)
  clear c2
  have H':=zA H
  clear H
  go_enter Try.func63,Try.ntmps63
  go_wp2
  go_loopg [11] k (fun kq v11 w'=>∃ (x11_1:Int),v11=.int .i64 x11_1∧Aside0 (solve_valid.l0 kq l0 (l0.length:Int) x11_1=some r)∧Aside0 (kq≤k)∧Aside0 (Below w.heap.size w w'))
  case atStart=>exact ⟨(0),zT,H',⟨Nat.le_refl _⟩,⟨by repeat (first|(with_reducible first|exact HB.out|apply below_alloc|apply pw_below_drewN|apply below_drew1)|exact HB.out)⟩⟩
  case round=>
   clear H'
   try clear c2
   try clear c2b0
   try clear c2b1
   obtain ⟨x11_1,rfl,HA,HK1,HB⟩:=hrel
   cases gk with
   | zero=>exact absurd HA.out (by simp [solve_valid.l0])
   | succ k1=>
    have H:=HA.out
    clear HA
    simp only [solve_valid.l0] at H
    rcases ifd H with ⟨c3b0,H⟩|⟨c3b0,H⟩
    ·obtain ⟨c4b0,H⟩:=ifd1 H
     obtain ⟨c5b0,H⟩:=ifd1 H
     obtain ⟨t146,A6,H⟩:=zo H
     have HC7:=zA H
     clear H
     obtain ⟨p144,q144,ad144,A144_0,c144_0,A144_1,c144_1,e144,hx144_0,hx144_1,hl144_0,hi144_0,hl144_1,hi144_1⟩:=zp (at_T50 HR0.out x11_1)
     cases e144
     replace hx144_0:=zd HB hx144_0
     replace hx144_1:=zd HB hx144_1
     have HR144_0:=zA hi144_0
     have HC144_0:=zA hl144_0
     clear hi144_0 hl144_0
     have HR144_1:=zA hi144_1
     have HC144_1:=zA hl144_1
     clear hi144_1 hl144_1
     replace p144:=eq_true p144
     replace q144:=eq_true q144
     go_upto_if 18 with (first|((with_reducible refine gd 4 rfl ?_);refine zx #[.slice none 0 0,.slice none 0 0] 50 (h:=?_);intro gb145 hg w8 BK145 hb GW145 HB1;have GE145:=GW145;clear HB hb hg;have HB:=HB1;clear HB1;have hcz9_0:=zc0 BK145;have hcz9_1:=zc1 BK145;have hfz9_0:=zf BK145 0;have hfz9_1:=zf BK145 1)|((with_reducible refine gate_callee (f:=75) rfl ?_);refine goesL_ (some 16) rfl rfl Try.func75 zK rfl #[.agg #[.slice A144_0 ((rd_T50 l0 x11_1).f0).length c144_0,.slice A144_1 ((rd_T50 l0 x11_1).f1).length c144_1]] rfl zM ?_;(with_reducible refine (table_Valid.calls k1 _ _ ((rd_T50 l0 x11_1).f0) _ _ ((rd_T50 l0 x11_1).f1) t146 _ ?side1 HC144_0.out ?side3 HC144_1.out A6.out).mono ?_);(case side1=>exact Kd.C_below HR144_0.out zB);(case side3=>exact Kd.C_below HR144_1.out zB);rintro e w10 ⟨rfl,hb⟩;refine ⟨_,rfl,?_⟩;replace BK145:=zA (blk_below (g:=gb145) (o:=.cells #[.slice A144_0 ((rd_T50 l0 x11_1).f0).length c144_0,.slice A144_1 ((rd_T50 l0 x11_1).f1).length c144_1] 50 (0,0)) (by refine zj ?_;refine blk_put (cs:=#[.slice A144_0 ((rd_T50 l0 x11_1).f0).length c144_0,.slice none 0 0]) ?_ 1 _ rfl;refine zj ?_;refine blk_put (cs:=#[.slice none 0 0,.slice none 0 0]) ?_ 0 _ rfl;refine zj ?_;exact BK145.out) hb);replace HB:=zu hb;clear hb))
     (try simp only [Act.put,zi,zs,zt])
     have H:=HC7.out
     clear HC7
     rcases ife H with ⟨c11b0,c11b1,H⟩|⟨c11,c11b0,c11b1,H⟩
     ·(first|rw [c11b0]|(simp only [i64_w,i32_w];rw [c11b0])|skip)
      (try rw [c11b1])
      have H':=zA H
      clear H
      go_wp2
      go_roundg k1
      case measure=>have:=HK1.out;omega
      case rel=>exact ⟨(wrap64 (x11_1+1)),zT,H',⟨by have:=HK1.out;omega⟩,⟨by repeat (first|(with_reducible first|exact HB.out|apply below_alloc|apply pw_below_drewN|apply below_drew1|refine below_set ?_ GE145.out)|exact HB.out)⟩⟩
     ·(first|rw [c11b0]|(simp only [i64_w,i32_w];rw [c11b0])|skip)
      (try rw [c11b1])
      obtain rfl:=Option.some.inj H
      go_wp2
      go_ret
      exact ⟨ze,by repeat (first|(with_reducible first|exact HB.out|apply below_alloc|apply pw_below_drewN|apply below_drew1|refine below_set ?_ GE145.out)|exact HB.out)⟩
    ·obtain rfl:=Option.some.inj H
     go_wp2
     go_ret
     exact ⟨ze,by repeat (first|(with_reducible first|exact HB.out|apply below_alloc|apply pw_below_drewN|apply below_drew1)|exact HB.out)⟩
def solve_row.l0:Nat→Int→Int→List Int→Int→Int→Option (Int)
 | 0,_,_,_,_,_=>none
 | k+1,x1,x5,x9,x10,x11=>if x11<x10 then (if 0≤x11 then (if x11<(x9.length:Int) then (if 0≤(rd x9 x11) then (solve_row.l0 k x1 (Go.bits .or .i64 x5 (shl .i64 (Go.bits .and .i64 (shr .i64 x1 (rd x9 x11)) 1) x11)) x9 x10 (wrap64 (x11+1))) else (none)) else (none)) else (none)) else (some x5)
def solve_row.f (k:Nat) (l0_0:List Int) (l0_1:List Int) (a1:Int):Option (Int):=solve_row.l0 k a1 0 l0_0 (l0_0.length:Int) 0
theorem solve_row.mono_l:∀ k,(∀ y0 y1 y2 y3 y4,LeO (solve_row.l0 k y0 y1 y2 y3 y4) (solve_row.l0 (k+1) y0 y1 y2 y3 y4))
 | 0=>fun _ _ _ _ _ r h=>by simp [solve_row.l0] at h
 | k+1=>by
  have ih0:=solve_row.mono_l k
  ·intro y0 y1 y2 y3 y4
   unfold solve_row.l0
   repeat' first
   | (with_reducible exact ih0 _ _ _ _ _)
   | (with_reducible exact LeO.refl _)
   | (with_reducible exact LeO.none _)
   | (with_reducible refine LeO.ite ?_ ?_)
   | (with_reducible refine LeO.bind ?_ (fun _=>?_))
   | exact LeO.none _
   | refine LeO.ite ?_ ?_
   | refine LeO.bind ?_ (fun _=>?_)
theorem solve_row.mono:∀ a0 a1 a2 k,LeO (solve_row.f k a0 a1 a2) (solve_row.f (k+1) a0 a1 a2):=by
 intro a0 a1 a2 k
 have ih0:=solve_row.mono_l k
 unfold solve_row.f
 repeat' first
   | (with_reducible exact ih0 _ _ _ _ _)
   | (with_reducible exact LeO.refl _)
   | (with_reducible exact LeO.none _)
   | (with_reducible refine LeO.ite ?_ ?_)
   | (with_reducible refine LeO.bind ?_ (fun _=>?_))
   | exact LeO.none _
   | refine LeO.ite ?_ ?_
   | refine LeO.bind ?_ (fun _=>?_)
set_option maxHeartbeats 8000000 in
set_option maxRecDepth 100000 in
theorem solve_row.calls (k:Nat) (A0_0:Option Addr) (c0_0:Nat) (l0_0:List Int) (A0_1:Option Addr) (c0_1:Nat) (l0_1:List Int) (a1:Int) (r:Int) (w:World) (hr0_0:Kd.C (Kd.int .i64) w A0_0 l0_0.length l0_0) (hc0_0:l0_0.length≤c0_0) (hr0_1:Kd.C (Kd.int .i64) w A0_1 l0_1.length l0_1) (hc0_1:l0_1.length≤c0_1) (h:solve_row.f k l0_0 l0_1 a1=some r) :
  Calls Try.prog 117 #[.agg #[.slice A0_0 l0_0.length c0_0,.slice A0_1 l0_1.length c0_1],.int .i64 a1] w fun e w'=>e=.returned (.int .i64 r)∧Below w.heap.size w w':=by
 have hu50:=Try.underlying50
 have hu30:=Try.underlying30
 have hu3:=Try.underlying3
 have HR0_0:=zA hr0_0
 have HC0_0:=zA hc0_0
 clear hr0_0 hc0_0
 have HR0_1:=zA hr0_1
 have HC0_1:=zA hc0_1
 clear hr0_1 hc0_1
 have HB:=zA (Below.refl w.heap.size w)
 have H:(solve_row.l0 k a1 0 l0_0 (l0_0.length:Int) 0)=some r:=h
 clear h
 have H':=zA H
 clear H
 go_enter Try.func117,Try.ntmps117
 go_wp2_with (first|((with_reducible refine gd 2 rfl ?_);refine zx #[.slice A0_0 l0_0.length c0_0,.slice A0_1 l0_1.length c0_1] 50 (h:=?_);intro gb147 hg w3 BK147 hb GW147 HB1;have GE147:=GW147;clear HB hb hg;have HB:=HB1;clear HB1;have hcz4_0:=zc0 BK147;have hcz4_1:=zc1 BK147;have hfz4_0:=zf BK147 0;have hfz4_1:=zf BK147 1))
 go_loopg [5,11] k (fun kq v5 v11 w'=>∃ (x5_1:Int) (x11_1:Int),v5=.int .i64 x5_1∧v11=.int .i64 x11_1∧Aside0 (solve_row.l0 kq a1 x5_1 l0_0 (l0_0.length:Int) x11_1=some r)∧Aside0 (kq≤k)∧Aside0 (w'.heap[gb147]?=some (.cells #[(.slice A0_0 l0_0.length c0_0),(.slice A0_1 l0_1.length c0_1)] 50 (0,0)))∧Aside0 (Below w.heap.size w w'))
 case atStart=>exact ⟨(0),(0),zT,zT,H',⟨Nat.le_refl _⟩,⟨by refine zj ?_;exact BK147.out⟩,⟨by repeat (first|(with_reducible first|exact HB.out|apply below_alloc|apply pw_below_drewN|apply below_drew1|refine below_set ?_ GE147.out)|exact HB.out)⟩⟩
 case round=>
  clear H'
  try clear hcz4_0
  try clear hcz4_1
  try clear hfz4_0
  try clear hfz4_1
  obtain ⟨x5_1,x11_1,rfl,rfl,HA,HK1,BK147,HB⟩:=hrel
  cases gk with
  | zero=>exact absurd HA.out (by simp [solve_row.l0])
  | succ k1=>
   have H:=HA.out
   clear HA
   simp only [solve_row.l0] at H
   rcases ifd H with ⟨c5b0,H⟩|⟨c5b0,H⟩
   ·obtain ⟨c6b0,H⟩:=ifd1 H
    obtain ⟨c7b0,H⟩:=ifd1 H
    obtain ⟨c8,H⟩:=if1 H
    have c8b0:=eq_true c8
    have c8b1:decide (0≤(rd l0_0 x11_1))=true:=decide_eq_true c8
    clear c8
    obtain ⟨ji9,hji9⟩:=zZ (shr .i64 a1 (rd l0_0 x11_1))
    first|rw [hji9] at H|simp only [hji9] at H
    have hji9_:(a1 / 2 ^ min (rd l0_0 x11_1).toNat 64)=ji9:=hji9
    have hji9z:(rd l0_0 x11_1)≤64→(a1 / 2 ^ (rd l0_0 x11_1).toNat)=ji9:=shr_small hji9
    have c10b0:=eq_true (of_decide_eq_true zh:0≤x11_1)
    obtain ⟨ji11,hji11⟩:=zZ (shl .i64 (Go.bits .and .i64 (ji9) 1) x11_1)
    first|rw [hji11] at H|simp only [hji11] at H
    have hji11_:(IntKind.i64.wrap ((Go.bits .and .i64 (ji9) 1) * 2 ^ min x11_1.toNat 64))=ji11:=hji11
    have hji11z:x11_1≤64→(IntKind.i64.wrap ((Go.bits .and .i64 (ji9) 1) * 2 ^ x11_1.toNat))=ji11:=shl_small hji11
    have hji11y:(wrap64 ((Go.bits .and .i64 (ji9) 1) * 2 ^ min x11_1.toNat 64))=ji11:=(i64_w _).symm.trans hji11_
    have hji11x:x11_1≤64→(wrap64 ((Go.bits .and .i64 (ji9) 1) * 2 ^ x11_1.toNat))=ji11:=fun h_=>(i64_w _).symm.trans (hji11z h_)
    have H':=zA H
    clear H
    obtain ⟨p148,q148,ad148,e148,hx148_0⟩:=zp (Kd.at_int HR0_0.out x11_1)
    cases e148
    replace hx148_0:=zd HB hx148_0
    replace p148:=eq_true p148
    replace q148:=eq_true q148
    go_wp2
    go_roundg k1
    case measure=>have:=HK1.out;omega
    case rel=>exact ⟨(Go.bits .or .i64 x5_1 (ji11)),(wrap64 (x11_1+1)),(by first|rfl|(simp;done)|(simp only [← hji11] <;> (first|rfl|simp))|(simp [*];done)),zT,H',⟨by have:=HK1.out;omega⟩,⟨by refine zj ?_;exact BK147.out⟩,⟨by repeat (first|(with_reducible first|exact HB.out|apply below_alloc|apply pw_below_drewN|apply below_drew1|refine below_set ?_ GE147.out)|exact HB.out)⟩⟩
   ·obtain rfl:=Option.some.inj H
    go_wp2
    go_ret
    exact ⟨ze,by repeat (first|(with_reducible first|exact HB.out|apply below_alloc|apply pw_below_drewN|apply below_drew1|refine below_set ?_ GE147.out)|exact HB.out)⟩
def solve_choices_fails_1_v1.f (a0:Int) (a1_0:Int) (a2_0:Int):Option (Bool):=some ((Go.bits .and .i64 a0 a1_0) == a2_0)
set_option maxHeartbeats 8000000 in
set_option maxRecDepth 100000 in
theorem solve_choices_fails_1_v1.calls (a0:Int) (gp1_0:Nat) (a1_0:Int) (gp2_0:Nat) (a2_0:Int) (r:Bool) (w:World) (hb_gp1_0:w.heap[gp1_0]?=some (.cells #[.int .i64 a1_0] 3 (0,0))) (hb_gp2_0:w.heap[gp2_0]?=some (.cells #[.int .i64 a2_0] 3 (0,0))) (h:solve_choices_fails_1_v1.f a0 a1_0 a2_0=some r) :
  Calls Try.prog 118 #[.int .i64 a0,.pointer (some ⟨gp1_0,0,none⟩),.pointer (some ⟨gp2_0,0,none⟩)] w fun e w'=>e=.returned (.bool r)∧Drawn0 w w':=by
 have hu3:=Try.underlying3
 have BK149:=zA hb_gp1_0
 clear hb_gp1_0
 have BK150:=zA hb_gp2_0
 clear hb_gp2_0
 have H:(some ((Go.bits .and .i64 a0 a1_0) == a2_0))=some r:=h
 clear h
 obtain rfl:=Option.some.inj H
 have hcz4_0:w.cell? ⟨gp1_0,0,none⟩=some (.int .i64 a1_0):=(blk_cell BK149.out 0).trans rfl
 have hfz4_0:=zf BK149 0
 have hcz5_0:w.cell? ⟨gp2_0,0,none⟩=some (.int .i64 a2_0):=(blk_cell BK150.out 0).trans rfl
 have hfz5_0:=zf BK150 0
 go_enter Try.func118,Try.ntmps118
 go_wp2
 go_ret
 exact ⟨by first|rfl|(simp;done)|(simp [*];done),by repeat (first|exact Drawn0.refl _|apply Drawn0.step)⟩
end Go.Proofs.Ytkjghablbeaioaa.G
