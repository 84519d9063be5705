import Derived.Test.YtkjghablbeaioaaGreatB0
namespace Go.Proofs.YtkjghablbeaioaaGreat.B
open Go.RowKit Go.Proofs.YtkjghablbeaioaaGreatW.PrintWords Go.Proofs.YtkjghablbeaioaaGreatW.PrintLast Go.Proofs.YtkjghablbeaioaaGreatW.PrintMore
attribute [local go_sem] max2_int min2_int max_two min_two max_three min_three max_four min_four Tryz.underlying23 Tryz.underlying3 Tryz.underlying49
set_option linter.unusedVariables false
set_option linter.unusedSimpArgs false
def slices_Equal_int_int.l0:Nat→List Int→List Int→Int→Int→Option (Bool)
 | 0,_,_,_,_=>none
 | k+1,x0,x1,x12,x13=>if x13<x12 then (if 0≤x13 then (if x13<(x0.length:Int) then (if x13<(x1.length:Int) then (if (rd x0 x13)=(rd x1 x13) then (slices_Equal_int_int.l0 k x0 x1 x12 (wrap64 (x13+1))) else (some false)) else (none)) else (none)) else (none)) else (some true)
def slices_Equal_int_int.f (k:Nat) (l0:List Int) (l1:List Int):Option (Bool):=if (l0.length:Int)=(l1.length:Int) then (slices_Equal_int_int.l0 k l0 l1 (l0.length:Int) 0) else (some false)
set_option maxHeartbeats 8000000 in
set_option maxRecDepth 100000 in
theorem slices_Equal_int_int.calls (k:Nat) (A0:Option Addr) (c0:Nat) (l0:List Int) (A1:Option Addr) (c1:Nat) (l1:List Int) (r:Bool) (w:World) (hr0:Kd.C (Kd.int .i64) w A0 l0.length l0) (hc0:l0.length≤c0) (hr1:Kd.C (Kd.int .i64) w A1 l1.length l1) (hc1:l1.length≤c1) (h:slices_Equal_int_int.f k l0 l1=some r) :
  Calls Tryz.prog 17 #[.slice A0 l0.length c0,.slice A1 l1.length c1] w fun e w'=>e=.returned (.bool r)∧Drawn0 w w':=by
 have HR0:=zA hr0;have HC0:=zA hc0;clear hr0 hc0;have HR1:=zA hr1;have HC1:=zA hc1;clear hr1 hc1;have H:(if (l0.length:Int)=(l1.length:Int) then (slices_Equal_int_int.l0 k l0 l1 (l0.length:Int) 0) else (some false))=some r:=h;clear h
 rcases if0 H with ⟨c3,H⟩|⟨c3,H⟩
 ·have c3b0:((l0.length:Int) == (l1.length:Int))=true:=beq_iff_eq.mpr c3;have c3b1:((l0.length:Int) != (l1.length:Int))=false:=bne_eq_false_iff_eq.mpr c3
  have c3b2:(l0.length == l1.length)=true:=by first|simpa using c3|(simp at c3 ⊢;omega)
  clear c3;have H':=zA H;clear H
  go_enter Tryz.func17,Tryz.ntmps17
  go_wp2
  repeat (go_quiet (fail);try go_wp2)
  go_loopg [13] k (fun kq v13 w'=>∃ (x13_1:Int),v13=.int .i64 x13_1∧Aside0 (slices_Equal_int_int.l0 kq l0 l1 (l0.length:Int) x13_1=some r)∧Aside0 (kq≤k)∧Drawn0 w w')
  case atStart=>exact ⟨(0),zT,H',⟨Nat.le_refl _⟩,by repeat (first|exact Drawn0.refl _|apply Drawn0.step)⟩
  case round=>
   clear H'
   try clear c3
   try clear c3b0
   try clear c3b1
   try clear c3b2
   obtain ⟨x13_1,rfl,HA,HK1,⟨m1,rfl⟩⟩:=hrel
   cases gk with
   | zero=>exact absurd HA.out (by simp [slices_Equal_int_int.l0])
   | succ k1=>
    have H:=HA.out;clear HA;simp only [slices_Equal_int_int.l0] at H
    rcases ifd H with ⟨c4b0,H⟩|⟨c4b0,H⟩
    ·obtain ⟨c5b0,H⟩:=ifd1 H;obtain ⟨c6b0,H⟩:=ifd1 H;obtain ⟨c7b0,H⟩:=ifd1 H
     rcases ife H with ⟨c8b0,c8b1,H⟩|⟨c8,c8b0,c8b1,H⟩
     ·have H':=zA H;clear H;obtain ⟨p101,q101,ad101,e101,hx101_0⟩:=zp (Kd.at_int HR0.out x13_1)
      cases e101
      replace p101:=eq_true p101;replace q101:=eq_true q101;obtain ⟨p45,q45,ad45,e45,hx45_0⟩:=zp (Kd.at_int HR1.out x13_1)
      cases e45
      replace p45:=eq_true p45;replace q45:=eq_true q45
      go_wp2
      repeat (go_quiet (fail);try go_wp2)
      go_roundg k1
      case measure=>have:=HK1.out;omega
      case rel=>exact ⟨(wrap64 (x13_1+1)),zT,H',⟨by have:=HK1.out;omega⟩,by repeat (first|exact Drawn0.refl _|apply Drawn0.step)⟩
     ·obtain rfl:=Option.some.inj H;obtain ⟨p101,q101,ad101,e101,hx101_0⟩:=zp (Kd.at_int HR0.out x13_1)
      cases e101
      replace p101:=eq_true p101;replace q101:=eq_true q101;obtain ⟨p45,q45,ad45,e45,hx45_0⟩:=zp (Kd.at_int HR1.out x13_1)
      cases e45
      replace p45:=eq_true p45;replace q45:=eq_true q45
      go_wp2
      repeat (go_quiet (fail);try go_wp2)
      go_ret
      exact ⟨by first|rfl|(simp;done)|(simp [*];done),by repeat (first|exact Drawn0.refl _|apply Drawn0.step)⟩
    ·obtain rfl:=Option.some.inj H
     go_wp2
     repeat (go_quiet (fail);try go_wp2)
     go_ret
     exact ⟨by first|rfl|(simp;done)|(simp [*];done),by repeat (first|exact Drawn0.refl _|apply Drawn0.step)⟩
 ·have c3b0:((l0.length:Int) == (l1.length:Int))=false:=beq_eq_false_iff_ne.mpr c3;have c3b1:((l0.length:Int) != (l1.length:Int))=true:=bne_iff_ne.mpr c3
  have c3b2:(l0.length == l1.length)=false:=by first|simpa using c3|(simp at c3 ⊢;omega)
  obtain rfl:=Option.some.inj H
  go_enter Tryz.func17,Tryz.ntmps17
  go_wp2
  repeat (go_quiet (fail);try go_wp2)
  go_ret
  exact ⟨by first|rfl|(simp;done)|(simp [*];done),by repeat (first|exact Drawn0.refl _|apply Drawn0.step)⟩
def table_ascending.l0:Nat→List Int→List Int→Int→Int→Option (Int)
 | 0,_,_,_,_=>none
 | k+1,x0,x8,x9,x10=>if x10<x9 then (if 0≤x10 then (if x10<(x8.length:Int) then (if (rd x8 x10)<0 then (some 6) else (if (rd x8 x10)≥24 then (some 6) else (if x10>0 then (if 0≤(wrap64 (x10 - 1)) then (if (wrap64 (x10 - 1))<(x0.length:Int) then (if (rd x0 (wrap64 (x10 - 1)))≥(rd x8 x10) then (some 18) else (table_ascending.l0 k x0 x8 x9 (wrap64 (x10+1)))) else (none)) else (none)) else (table_ascending.l0 k x0 x8 x9 (wrap64 (x10+1)))))) else (none)) else (none)) else (some 0)
def table_ascending.f (k:Nat) (l0:List Int):Option (Int):=if (l0.length:Int)>10 then (some 3) else (table_ascending.l0 k l0 l0 (l0.length:Int) 0)
set_option maxHeartbeats 8000000 in
set_option maxRecDepth 100000 in
theorem table_ascending.calls (k:Nat) (A0:Option Addr) (c0:Nat) (l0:List Int) (r:Int) (w:World) (hr0:Kd.C (Kd.int .i64) w A0 l0.length l0) (hc0:l0.length≤c0) (h:table_ascending.f k l0=some r) :
  Calls Tryz.prog 89 #[.slice A0 l0.length c0] w fun e w'=>e=.returned (.int .i64 r)∧Drawn0 w w':=by
 have HR0:=zA hr0;have HC0:=zA hc0;clear hr0 hc0;have H:(if (l0.length:Int)>10 then (some 3) else (table_ascending.l0 k l0 l0 (l0.length:Int) 0))=some r:=h;clear h
 rcases if0 H with ⟨c2,H⟩|⟨c2,H⟩
 ·have c2b0:decide (10<(l0.length:Int))=true:=decide_eq_true c2;have c2b1:decide (10<l0.length)=true:=decide_eq_true (by omega);clear c2;obtain rfl:=Option.some.inj H
  go_enter Tryz.func89,Tryz.ntmps89
  go_wp2
  go_ret
  exact ⟨by first|rfl|(simp;done)|(simp [*];done),by repeat (first|exact Drawn0.refl _|apply Drawn0.step)⟩
 ·have c2b0:decide (10<(l0.length:Int))=false:=decide_eq_false c2;have c2b1:decide (10<l0.length)=false:=decide_eq_false (by omega);clear c2;have H':=zA H;clear H
  go_enter Tryz.func89,Tryz.ntmps89
  go_wp2
  go_loopg [10] k (fun kq v10 w'=>∃ (x10_1:Int),v10=.int .i64 x10_1∧Aside0 (table_ascending.l0 kq l0 l0 (l0.length:Int) x10_1=some r)∧Aside0 (kq≤k)∧Drawn0 w w')
  case atStart=>exact ⟨(0),zT,H',⟨Nat.le_refl _⟩,by repeat (first|exact Drawn0.refl _|apply Drawn0.step)⟩
  case round=>
   clear H'
   try clear c2
   try clear c2b0
   try clear c2b1
   obtain ⟨x10_1,rfl,HA,HK1,⟨m1,rfl⟩⟩:=hrel
   cases gk with
   | zero=>exact absurd HA.out (by simp [table_ascending.l0])
   | succ k1=>
    have H:=HA.out;clear HA;simp only [table_ascending.l0] at H
    rcases ifd H with ⟨c3b0,H⟩|⟨c3b0,H⟩
    ·obtain ⟨c4b0,H⟩:=ifd1 H;obtain ⟨c5b0,H⟩:=ifd1 H
     rcases ifd H with ⟨c6b0,H⟩|⟨c6b0,H⟩
     ·obtain rfl:=Option.some.inj H;obtain ⟨p38,q38,ad38,e38,hx38_0⟩:=zp (Kd.at_int HR0.out x10_1)
      cases e38
      replace p38:=eq_true p38;replace q38:=eq_true q38
      go_wp2
      go_ret
      exact ⟨by first|rfl|(simp;done)|(simp [*];done),by repeat (first|exact Drawn0.refl _|apply Drawn0.step)⟩
     ·rcases if0 H with ⟨c7,H⟩|⟨c7,H⟩
      ·have c7b0:decide (24≤(rd l0 x10_1))=true:=decide_eq_true c7;clear c7;obtain rfl:=Option.some.inj H;obtain ⟨p38,q38,ad38,e38,hx38_0⟩:=zp (Kd.at_int HR0.out x10_1)
       cases e38
       replace p38:=eq_true p38;replace q38:=eq_true q38
       go_wp2
       go_ret
       exact ⟨by first|rfl|(simp;done)|(simp [*];done),by repeat (first|exact Drawn0.refl _|apply Drawn0.step)⟩
      ·have c7b0:decide (24≤(rd l0 x10_1))=false:=decide_eq_false c7;clear c7
       rcases if0 H with ⟨c8,H⟩|⟨c8,H⟩
       ·have c8b0:decide (0<x10_1)=true:=decide_eq_true c8;clear c8;obtain ⟨ji9,hji9⟩:=zZ (wrap64 (x10_1 - 1))
        first|rw [hji9] at H|simp only [hji9] at H
        have hji9w:(IntKind.i64.wrap (x10_1 - 1))=ji9:=(i64_w _).trans hji9;obtain ⟨c10b0,H⟩:=ifd1 H;obtain ⟨c11b0,H⟩:=ifd1 H
        rcases if0 H with ⟨c12,H⟩|⟨c12,H⟩
        ·have c12b0:decide ((rd l0 x10_1)≤(rd l0 (ji9)))=true:=decide_eq_true c12;clear c12;obtain rfl:=Option.some.inj H;obtain ⟨p38,q38,ad38,e38,hx38_0⟩:=zp (Kd.at_int HR0.out x10_1)
         cases e38
         replace p38:=eq_true p38;replace q38:=eq_true q38;obtain ⟨p44,q44,ad44,e44,hx44_0⟩:=zp (Kd.at_int HR0.out (ji9))
         obtain rfl:ad38=ad44:=(by injection e44)
         replace p44:=eq_true p44;replace q44:=eq_true q44
         go_wp2
         go_ret
         exact ⟨by first|rfl|(simp;done)|(simp only [← hji9] <;> (first|rfl|simp))|(simp [*];done),by repeat (first|exact Drawn0.refl _|apply Drawn0.step)⟩
        ·have c12b0:decide ((rd l0 x10_1)≤(rd l0 (ji9)))=false:=decide_eq_false c12;clear c12;have H':=zA H;clear H;obtain ⟨p38,q38,ad38,e38,hx38_0⟩:=zp (Kd.at_int HR0.out x10_1)
         cases e38
         replace p38:=eq_true p38;replace q38:=eq_true q38;obtain ⟨p44,q44,ad44,e44,hx44_0⟩:=zp (Kd.at_int HR0.out (ji9))
         obtain rfl:ad38=ad44:=(by injection e44)
         replace p44:=eq_true p44;replace q44:=eq_true q44
         go_wp2
         go_roundg k1
         case measure=>have:=HK1.out;omega
         case rel=>exact ⟨(wrap64 (x10_1+1)),zT,H',⟨by have:=HK1.out;omega⟩,by repeat (first|exact Drawn0.refl _|apply Drawn0.step)⟩
       ·have c8b0:decide (0<x10_1)=false:=decide_eq_false c8;clear c8;have H':=zA H;clear H;obtain ⟨p38,q38,ad38,e38,hx38_0⟩:=zp (Kd.at_int HR0.out x10_1)
        cases e38
        replace p38:=eq_true p38;replace q38:=eq_true q38
        go_wp2
        go_roundg k1
        case measure=>have:=HK1.out;omega
        case rel=>exact ⟨(wrap64 (x10_1+1)),zT,H',⟨by have:=HK1.out;omega⟩,by repeat (first|exact Drawn0.refl _|apply Drawn0.step)⟩
    ·obtain rfl:=Option.some.inj H
     go_wp2
     go_ret
     exact ⟨by first|rfl|(simp;done)|(simp [*];done),by repeat (first|exact Drawn0.refl _|apply Drawn0.step)⟩
def table_Valid.l0:Nat→List Int→Int→Int→List Int→List Int→Option (Int)
 | 0,_,_,_,_,_=>none
 | k+1,x13,x14,x15,x61,x56=>if x15<x14 then (if 0≤x15 then (if x15<(x13.length:Int) then (if (rd x13 x15)<0 then (some 6) else (if (rd x13 x15)≥(shl .i64 1 (x61.length:Int)) then (some 6) else (if x15>0 then (if 0≤(wrap64 (x15 - 1)) then (if (wrap64 (x15 - 1))<(x56.length:Int) then (if (rd x56 (wrap64 (x15 - 1)))≥(rd x13 x15) then (some 18) else (table_Valid.l0 k x13 x14 (wrap64 (x15+1)) x61 x56)) else (none)) else (none)) else (table_Valid.l0 k x13 x14 (wrap64 (x15+1)) x61 x56)))) else (none)) else (none)) else (some 0)
def table_Valid.f (k:Nat) (l0_0:List Int) (l0_1:List Int):Option (Int):=(table_ascending.f k l0_0).bind fun t62=>(if t62=0 then (table_Valid.l0 k l0_1 (l0_1.length:Int) 0 l0_0 l0_1) else (some t62))
set_option maxHeartbeats 8000000 in
set_option maxRecDepth 100000 in
theorem table_Valid.calls (k:Nat) (A0_0:Option Addr) (c0_0:Nat) (l0_0:List Int) (A0_1:Option Addr) (c0_1:Nat) (l0_1:List Int) (r:Int) (w:World) (hr0_0:Kd.C (Kd.int .i64) w A0_0 l0_0.length l0_0) (hc0_0:l0_0.length≤c0_0) (hr0_1:Kd.C (Kd.int .i64) w A0_1 l0_1.length l0_1) (hc0_1:l0_1.length≤c0_1) (h:table_Valid.f k l0_0 l0_1=some r) :
  Calls Tryz.prog 65 #[.agg #[.slice A0_0 l0_0.length c0_0,.slice A0_1 l0_1.length c0_1]] w fun e w'=>e=.returned (.int .i64 r)∧Below w.heap.size w w':=by
 have HR0_0:=zA hr0_0;have HC0_0:=zA hc0_0;clear hr0_0 hc0_0;have HR0_1:=zA hr0_1;have HC0_1:=zA hc0_1;clear hr0_1 hc0_1;have HB:=zA (Below.refl w.heap.size w);have H:((table_ascending.f k l0_0).bind fun t62=>(if t62=0 then (table_Valid.l0 k l0_1 (l0_1.length:Int) 0 l0_0 l0_1) else (some t62)))=some r:=h;clear h;obtain ⟨t62,A2,H⟩:=zo H;have HC3:=zA H;clear H
 go_enter Tryz.func65,Tryz.ntmps65
 go_upto_if 10 with (first|((with_reducible refine gd 1 rfl ?_);(try (refine gate_guard (by rfl) ?_;dsimp only));refine zx #[.slice A0_0 l0_0.length c0_0,.slice A0_1 l0_1.length c0_1] 49 ?_;intro gb41 hg w4 BK41 hb GW41 HB1;have GE41:=GW41;clear HB hb hg;have HB:=HB1;clear HB1;have hcz5_0:=zc0 BK41;have hcz5_1:=zc1 BK41;have hfz5_0:=zf BK41)|((with_reducible refine gate_callee (f:=89) rfl ?_);refine zgo 8 Tryz.func89 #[.slice A0_0 l0_0.length c0_0] ?_;(with_reducible refine (table_ascending.calls k _ _ l0_0 t62 _ (zD HR0_0 HB) HC0_0.out A2.out).mono ?_);rintro e w' ⟨rfl,⟨nd,rfl⟩⟩;refine ⟨_,rfl,?_⟩))
 (try simp only [Act.put,zi,zs,zt]);have H:=HC3.out;clear HC3
 rcases ife H with ⟨c6b0,c6b1,H⟩|⟨c6,c6b0,c6b1,H⟩
 ·(first|rw [c6b0]|(simp only [i64_w,i32_w];rw [c6b0])|skip)
  (try rw [c6b1]);have H':=zA H;clear H;have hcz7_0:=zc0 BK41;have hcz7_1:=zc1 BK41;have hfz7_0:=zf BK41
  go_wp2
  go_loopg [15] k (fun kq v15 w'=>∃ (x15_1:Int),v15=.int .i64 x15_1∧Aside0 (table_Valid.l0 kq l0_1 (l0_1.length:Int) x15_1 l0_0 l0_1=some r)∧Aside0 (kq≤k)∧Aside0 (w'.heap[gb41]?=some (.cells #[(.slice A0_0 l0_0.length c0_0),(.slice A0_1 l0_1.length c0_1)] 49 (0,0)))∧Aside0 (Below w.heap.size w w'))
  case atStart=>exact ⟨(0),zT,H',⟨Nat.le_refl _⟩,⟨by refine zj ?_;exact BK41.out⟩,⟨zv1 HB GE41⟩⟩
  case round=>
   clear H'
   try clear c6
   try clear c6b0
   try clear c6b1
   try clear hcz5_0
   try clear hcz5_1
   try clear hcz7_0
   try clear hcz7_1
   try clear hfz5_0
   try clear hfz5_1
   try clear hfz7_0
   try clear hfz7_1
   obtain ⟨x15_1,rfl,HA,HK1,BK41,HB⟩:=hrel
   cases gk with
   | zero=>exact absurd HA.out (by simp [table_Valid.l0])
   | succ k1=>
    have H:=HA.out;clear HA;simp only [table_Valid.l0] at H
    rcases ifd H with ⟨c8b0,H⟩|⟨c8b0,H⟩
    ·obtain ⟨c9b0,H⟩:=ifd1 H;obtain ⟨c10b0,H⟩:=ifd1 H
     rcases ifd H with ⟨c11b0,H⟩|⟨c11b0,H⟩
     ·obtain rfl:=Option.some.inj H;obtain ⟨p35,q35,ad35,e35,hx35_0⟩:=zp (Kd.at_int HR0_1.out x15_1)
      cases e35
      replace hx35_0:=zd HB hx35_0;replace p35:=eq_true p35;replace q35:=eq_true q35
      go_wp2
      go_ret
      exact ⟨ze,zv1 HB GE41⟩
     ·obtain ⟨ji12,hji12⟩:=zZ (shl .i64 1 (l0_0.length:Int))
      first|rw [hji12] at H|simp only [hji12] at H
      have hji12_:(IntKind.i64.wrap (1 * 2 ^ min (l0_0.length:Int).toNat 64))=ji12:=hji12;have hji12z:(l0_0.length:Int)≤64→(IntKind.i64.wrap (1 * 2 ^ (l0_0.length:Int).toNat))=ji12:=shl_small hji12;have hji12p:(IntKind.i64.wrap (1 * 2 ^ min l0_0.length 64))=ji12:=hji12_;have hji12q:(l0_0.length:Int)≤64→(IntKind.i64.wrap (1 * 2 ^ l0_0.length))=ji12:=hji12z
      have hji12r:(IntKind.i64.wrap (2 ^ min l0_0.length 64))=ji12:=by have h_:=hji12p;rw [Int.one_mul] at h_;exact h_
      have hji12s:(l0_0.length:Int)≤64→(IntKind.i64.wrap (2 ^ l0_0.length))=ji12:=fun hle_=>by have h_:=hji12q hle_;rw [Int.one_mul] at h_;exact h_
      have hji12u:(IntKind.i64.wrap (2 ^ min (l0_0.length:Int).toNat 64))=ji12:=by have h_:=hji12_;rw [Int.one_mul] at h_;exact h_
      have hji12v:(l0_0.length:Int)≤64→(IntKind.i64.wrap (2 ^ (l0_0.length:Int).toNat))=ji12:=fun hle_=>by have h_:=hji12z hle_;rw [Int.one_mul] at h_;exact h_
      have hji12y:(wrap64 (1 * 2 ^ min (l0_0.length:Int).toNat 64))=ji12:=(i64_w _).symm.trans hji12_
      have hji12x:(l0_0.length:Int)≤64→(wrap64 (1 * 2 ^ (l0_0.length:Int).toNat))=ji12:=fun h_=>(i64_w _).symm.trans (hji12z h_)
      rcases if0 H with ⟨c13,H⟩|⟨c13,H⟩
      ·have c13b0:decide ((ji12)≤(rd l0_1 x15_1))=true:=decide_eq_true c13;clear c13;obtain rfl:=Option.some.inj H;obtain ⟨p35,q35,ad35,e35,hx35_0⟩:=zp (Kd.at_int HR0_1.out x15_1)
       cases e35
       replace hx35_0:=zd HB hx35_0;replace p35:=eq_true p35;replace q35:=eq_true q35;have hcz14_0:=zc0 BK41;have hcz14_1:=zc1 BK41;have hfz14_0:=zf BK41
       go_wp2
       go_ret
       exact ⟨by first|rfl|(simp [errW_none,errW_some] <;> rfl)|(simp only [← hji12];first|rfl|(simp [errW_none,errW_some] <;> rfl))|(simp [*,errW_none,errW_some] <;> rfl),zv1 HB GE41⟩
      ·have c13b0:decide ((ji12)≤(rd l0_1 x15_1))=false:=decide_eq_false c13;clear c13
       rcases if0 H with ⟨c15,H⟩|⟨c15,H⟩
       ·have c15b0:decide (0<x15_1)=true:=decide_eq_true c15;clear c15;obtain ⟨ji16,hji16⟩:=zZ (wrap64 (x15_1 - 1))
        first|rw [hji16] at H|simp only [hji16] at H
        have hji16w:(IntKind.i64.wrap (x15_1 - 1))=ji16:=(i64_w _).trans hji16;obtain ⟨c17b0,H⟩:=ifd1 H;obtain ⟨c18b0,H⟩:=ifd1 H
        rcases if0 H with ⟨c19,H⟩|⟨c19,H⟩
        ·have c19b0:decide ((rd l0_1 x15_1)≤(rd l0_1 (ji16)))=true:=decide_eq_true c19;clear c19;obtain rfl:=Option.some.inj H;obtain ⟨p35,q35,ad35,e35,hx35_0⟩:=zp (Kd.at_int HR0_1.out x15_1)
         cases e35
         replace hx35_0:=zd HB hx35_0;replace p35:=eq_true p35;replace q35:=eq_true q35;have hcz20_0:=zc0 BK41;have hcz20_1:=zc1 BK41;have hfz20_0:=zf BK41;obtain ⟨p43,q43,ad43,e43,hx43_0⟩:=zp (Kd.at_int HR0_1.out (ji16))
         obtain rfl:ad35=ad43:=(by injection e43)
         replace hx43_0:=zd HB hx43_0;replace p43:=eq_true p43;replace q43:=eq_true q43
         go_wp2
         go_ret
         exact ⟨by first|rfl|(simp [errW_none,errW_some] <;> rfl)|(simp only [← hji12,← hji16];first|rfl|(simp [errW_none,errW_some] <;> rfl))|(simp [*,errW_none,errW_some] <;> rfl),zv1 HB GE41⟩
        ·have c19b0:decide ((rd l0_1 x15_1)≤(rd l0_1 (ji16)))=false:=decide_eq_false c19;clear c19;have H':=zA H;clear H;obtain ⟨p35,q35,ad35,e35,hx35_0⟩:=zp (Kd.at_int HR0_1.out x15_1)
         cases e35
         replace hx35_0:=zd HB hx35_0;replace p35:=eq_true p35;replace q35:=eq_true q35;have hcz21_0:=zc0 BK41;have hcz21_1:=zc1 BK41;have hfz21_0:=zf BK41;obtain ⟨p43,q43,ad43,e43,hx43_0⟩:=zp (Kd.at_int HR0_1.out (ji16))
         obtain rfl:ad35=ad43:=(by injection e43)
         replace hx43_0:=zd HB hx43_0;replace p43:=eq_true p43;replace q43:=eq_true q43
         go_wp2
         go_roundg k1
         case measure=>have:=HK1.out;omega
         case rel=>exact ⟨(wrap64 (x15_1+1)),zT,H',⟨by have:=HK1.out;omega⟩,⟨by refine zj ?_;exact BK41.out⟩,⟨zv1 HB GE41⟩⟩
       ·have c15b0:decide (0<x15_1)=false:=decide_eq_false c15;clear c15;have H':=zA H;clear H;obtain ⟨p35,q35,ad35,e35,hx35_0⟩:=zp (Kd.at_int HR0_1.out x15_1)
        cases e35
        replace hx35_0:=zd HB hx35_0;replace p35:=eq_true p35;replace q35:=eq_true q35;have hcz22_0:=zc0 BK41;have hcz22_1:=zc1 BK41;have hfz22_0:=zf BK41
        go_wp2
        go_roundg k1
        case measure=>have:=HK1.out;omega
        case rel=>exact ⟨(wrap64 (x15_1+1)),zT,H',⟨by have:=HK1.out;omega⟩,⟨by refine zj ?_;exact BK41.out⟩,⟨zv1 HB GE41⟩⟩
    ·obtain rfl:=Option.some.inj H
     go_wp2
     go_ret
     exact ⟨ze,zv1 HB GE41⟩
 ·(first|rw [c6b0]|(simp only [i64_w,i32_w];rw [c6b0])|skip)
  (try rw [c6b1]);obtain rfl:=Option.some.inj H
  go_wp2
  go_ret
  exact ⟨ze,zv1 HB GE41⟩
def conflict_valid.l0:Nat→List (S49)→Int→Int→Option (Int)
 | 0,_,_,_=>none
 | k+1,x9,x10,x11=>if x11<x10 then (if 0≤x11 then (if x11<(x9.length:Int) then ((table_Valid.f k ((rd_T49 x9 x11).f0) ((rd_T49 x9 x11).f1)).bind fun t71=>(if t71=0 then (conflict_valid.l0 k x9 x10 (wrap64 (x11+1))) else (some t71))) else (none)) else (none)) else (some 0)
def conflict_valid.f (k:Nat) (l0:List (S49)):Option (Int):=if (l0.length:Int)>12 then (some 3) else (conflict_valid.l0 k l0 (l0.length:Int) 0)
set_option maxHeartbeats 8000000 in
set_option maxRecDepth 100000 in
theorem conflict_valid.calls (k:Nat) (A0:Option Addr) (c0:Nat) (l0:List (S49)) (r:Int) (w:World) (hr0:Kd.C k49 w A0 l0.length l0) (hc0:l0.length≤c0) (h:conflict_valid.f k l0=some r) :
  Calls Tryz.prog 30 #[.slice A0 l0.length c0] w fun e w'=>e=.returned (.int .i64 r)∧Below w.heap.size w w':=by
 have HR0:=zA hr0;have HC0:=zA hc0;clear hr0 hc0;have HB:=zA (Below.refl w.heap.size w);have H:(if (l0.length:Int)>12 then (some 3) else (conflict_valid.l0 k l0 (l0.length:Int) 0))=some r:=h;clear h
 rcases if0 H with ⟨c2,H⟩|⟨c2,H⟩
 ·have c2b0:decide (12<(l0.length:Int))=true:=decide_eq_true c2;have c2b1:decide (12<l0.length)=true:=decide_eq_true (by omega);clear c2;obtain rfl:=Option.some.inj H
  go_enter Tryz.func30,Tryz.ntmps30
  go_wp2
  go_ret
  exact ⟨ze,zv0 HB⟩
 ·have c2b0:decide (12<(l0.length:Int))=false:=decide_eq_false c2;have c2b1:decide (12<l0.length)=false:=decide_eq_false (by omega);clear c2;have H':=zA H;clear H
  go_enter Tryz.func30,Tryz.ntmps30
  go_wp2
  go_loopg [11] k (fun kq v11 w'=>∃ (x11_1:Int),v11=.int .i64 x11_1∧Aside0 (conflict_valid.l0 kq l0 (l0.length:Int) x11_1=some r)∧Aside0 (kq≤k)∧Aside0 (Below w.heap.size w w'))
  case atStart=>exact ⟨(0),zT,H',⟨Nat.le_refl _⟩,⟨zv0 HB⟩⟩
  case round=>
   clear H'
   try clear c2
   try clear c2b0
   try clear c2b1
   obtain ⟨x11_1,rfl,HA,HK1,HB⟩:=hrel
   cases gk with
   | zero=>exact absurd HA.out (by simp [conflict_valid.l0])
   | succ k1=>
    have H:=HA.out;clear HA;simp only [conflict_valid.l0] at H
    rcases ifd H with ⟨c3b0,H⟩|⟨c3b0,H⟩
    ·obtain ⟨c4b0,H⟩:=ifd1 H;obtain ⟨c5b0,H⟩:=ifd1 H;obtain ⟨t71,A6,H⟩:=zo H;have HC7:=zA H;clear H;obtain ⟨p40,q40,ad40,A40_0,c40_0,A40_1,c40_1,e40,hx40_0,hx40_1,hl40_0,hi40_0,hl40_1,hi40_1⟩:=zp (at_T49 HR0.out x11_1)
     cases e40
     replace hx40_0:=zd HB hx40_0;replace hx40_1:=zd HB hx40_1;have HR40_0:=zA hi40_0;have HC40_0:=zA hl40_0;clear hi40_0 hl40_0;have HR40_1:=zA hi40_1;have HC40_1:=zA hl40_1;clear hi40_1 hl40_1;replace p40:=eq_true p40;replace q40:=eq_true q40
     go_upto_if 18 with (first|((with_reducible refine gd 4 rfl ?_);refine zx #[.slice none 0 0,.slice none 0 0] 49 ?_;intro gb51 hg w8 BK51 hb GW51 HB1;have GE51:=GW51;clear HB hb hg;have HB:=HB1;clear HB1;have hcz9_0:=zc0 BK51;have hcz9_1:=zc1 BK51;have hfz9_0:=zf BK51)|((with_reducible refine gate_callee (f:=65) rfl ?_);refine zgo 16 Tryz.func65 #[.agg #[.slice A40_0 ((rd_T49 l0 x11_1).f0).length c40_0,.slice A40_1 ((rd_T49 l0 x11_1).f1).length c40_1]] ?_;(with_reducible refine (table_Valid.calls k1 _ _ ((rd_T49 l0 x11_1).f0) _ _ ((rd_T49 l0 x11_1).f1) t71 _ ?side1 HC40_0.out ?side3 HC40_1.out A6.out).mono ?_);(case side1=>exact Kd.C_below HR40_0.out zB);(case side3=>exact Kd.C_below HR40_1.out zB);rintro e w10 ⟨rfl,hb⟩;refine ⟨_,rfl,?_⟩;replace BK51:=zA (blk_below (g:=gb51) (o:=.cells #[.slice A40_0 ((rd_T49 l0 x11_1).f0).length c40_0,.slice A40_1 ((rd_T49 l0 x11_1).f1).length c40_1] 49 (0,0)) (by refine zj ?_;refine blk_put (cs:=#[.slice A40_0 ((rd_T49 l0 x11_1).f0).length c40_0,.slice none 0 0]) ?_ 1 _ rfl;refine zj ?_;refine blk_put (cs:=#[.slice none 0 0,.slice none 0 0]) ?_ 0 _ rfl;refine zj ?_;exact BK51.out) hb);replace HB:=zu hb;clear hb))
     (try simp only [Act.put,zi,zs,zt]);have H:=HC7.out;clear HC7
     rcases ife H with ⟨c11b0,c11b1,H⟩|⟨c11,c11b0,c11b1,H⟩
     ·(first|rw [c11b0]|(simp only [i64_w,i32_w];rw [c11b0])|skip)
      (try rw [c11b1]);have H':=zA H;clear H
      go_wp2
      go_roundg k1
      case measure=>have:=HK1.out;omega
      case rel=>exact ⟨(wrap64 (x11_1+1)),zT,H',⟨by have:=HK1.out;omega⟩,⟨zv1 HB GE51⟩⟩
     ·(first|rw [c11b0]|(simp only [i64_w,i32_w];rw [c11b0])|skip)
      (try rw [c11b1]);obtain rfl:=Option.some.inj H
      go_wp2
      go_ret
      exact ⟨ze,zv1 HB GE51⟩
    ·obtain rfl:=Option.some.inj H
     go_wp2
     go_ret
     exact ⟨ze,zv0 HB⟩
def slices_Clone_int_int.f (l0:List Int):Option (List Int):=(some (([]:List Int):List Int)).bind fun y48=>(if y48.length+l0.length<17592186044416 then (some (y48++l0)) else (none))
set_option maxHeartbeats 8000000 in
set_option maxRecDepth 100000 in
theorem slices_Clone_int_int.calls (A0:Option Addr) (c0:Nat) (l0:List Int) (r:List Int) (w:World) (hr0:Kd.C (Kd.int .i64) w A0 l0.length l0) (hc0:l0.length≤c0) (h:slices_Clone_int_int.f l0=some r) :
  Calls Tryz.prog 11 #[.slice A0 l0.length c0] w fun e w'=>∃ v0_:Value,e=.returned (v0_)∧Kd.R (Kd.int .i64) 3 w' w.heap.size (fun _=>True) v0_ r∧Below w.heap.size w w':=by
 have HR0:=zA hr0;have HC0:=zA hc0;clear hr0 hc0;have HB:=zA (Below.refl w.heap.size w);have H:((some (([]:List Int):List Int)).bind fun y48=>(if y48.length+l0.length<17592186044416 then (some (y48++l0)) else (none)))=some r:=h;clear h
 have hnq_:∀ (w:World) (a:Option Addr) (n c n' c':Nat),(binOp .eql 23 (.slice a n c) (.slice none n' c')).run Tryz.prog w=.ok (.bool a.isNone) w:=fun w a n c n' c'=>Lib.run_eql_slice_nil w _ _ a n c n' c' Tryz.underlying23
 rcases A0 with _|adn0
 ·obtain rfl:l0=[]:=(by rcases l0 with _|⟨x_,xs_⟩;(· rfl);(· obtain ⟨_,_,e_,_⟩:=Kd.C_get HR0.out 0 0 (by omega) (by simp);cases e_))
  simp only [List.length_nil,List.nil_append] at H
  (first|rw [if_pos (by omega)] at H|simp at H)
  try simp only [Option.some.injEq] at H
  subst H
  go_enter Tryz.func11,Tryz.ntmps11
  go_wp2
  go_ret
  first|exact ⟨_,rfl,Kd.R_nil _ _ _ _ _,Below.refl _ _⟩|exact ⟨_,rfl,Kd.S_nil _ _ _ _ _,Below.refl _ _⟩|exact ⟨_,rfl,Kd.V_nil _ _ _ _ _,Below.refl _ _⟩|exact ⟨_,rfl,Kd.N_nil _ _ _ _ _,Below.refl _ _⟩
 ·replace H:=H
  first|(replace H:=zyb (([]:List Int)) H;obtain ⟨y48,Ny48,H⟩:=H)|(obtain ⟨y48,hy48⟩:=zY (([]:List Int));(try rw (occs:=.pos [1]) [← hy48] at H);have Ny48:=zA hy48;clear hy48)
  obtain ⟨c2,H⟩:=if1 H;have LMc2:=zA c2;clear c2
  first|(replace H:=zyb (y48++l0) H;obtain ⟨y115,Ny115,H⟩:=H)|(obtain ⟨y115,hy115⟩:=zY (y48++l0);(try rw (occs:=.pos [1]) [← hy115] at H);have Ny115:=zA hy115;clear hy115)
  obtain rfl:=Option.some.inj H
  go_enter Tryz.func11,Tryz.ntmps11
  go_wp2_with (first|((with_reducible refine gate_dst (N:=5) rfl ?_);refine Kd.R_lit (Kd.int .i64) _ 3 ?hg (N:=5) ?hd (xs:=([]:List Int)) (inner:=[]) (ok:=fun _=>True) (okp:=fun _=>True) ?hr ?hp (fun _ hk=>hk) trivial (Below.refl _ _) (Nat.le_refl _) (by simp) ?_;(case hd=>rfl);(case hg=>rfl);(case hr=>first|(go_simp;done)|(go_simp;rfl));(case hp=>exact (Reps.none _ _));intro v113 w3 ho4 hb hg_ hnew_;clear hg_ hnew_;(first|rw [← Ny48.out] at ho4|(simp only [Int.reduceToNat] at ho4;rw [← Ny48.out] at ho4));have HO114:=zA (Kd.R_lower ho4 (below_size zB));replace HB:=zu hb;clear hb ho4)|((with_reducible refine gate_builtin (b:=.append) (xs:=#[.tmp 5,.tmp 6]) rfl ?_);at_builtin;refine Kd.R_append_rows (Kd.int .i64) (w0:=w) w.heap.size rfl (.tmp 5) (.tmp 6) 23 3 (.int .i64 0) 8 rfl Tryz.underlying23 info3 rfl (by decide) (by omega) v113 y48 l0 _ _ _ (fun _=>True) (fun _=>False) rfl rfl ?aO ?aR (fun _ _ h=>h) (fun _ h=>h.elim) ?aF ?aB ?aS ?aL ?_;(case aR=>exact zC (Kd.C_below HR0.out HB.out));(case aB=>exact zB);(case aF=>exact (fun _ _=>trivial));(case aO=>exact (zR HO114));(case aS=>exact (below_size zB));(case aL=>have:=LMc2.out;omega);intro v86 w5 ho hb hg hat;rw [← Ny115.out] at ho;have HO80:=zA (ho);replace HB:=zA (hb);clear HO114;clear ho hb hg hat))
  go_ret
  exact ⟨_,ze,by refine zr ?_;exact HO80.out,zv0 HB⟩
mutual
def conflict_sets.l0:Nat→Int→List (List Int)→List (List Int)→Int→Int→Option ((List (List Int)))
 | 0,_,_,_,_,_=>none
 | k+1,x0,x5,x16,x17,x18=>if x18<x17 then (if 0≤x18 then (if x18<(x16.length:Int) then (if ((rd_L1 x16 x18).length:Int)>0 then (if 0≤(wrap64 (((rd_L1 x16 x18).length:Int) - 1)) then (if (wrap64 (((rd_L1 x16 x18).length:Int) - 1))<((rd_L1 x16 x18).length:Int) then (conflict_sets.l1 k x0 x5 (rd_L1 x16 x18) (wrap64 ((rd (rd_L1 x16 x18) (wrap64 (((rd_L1 x16 x18).length:Int) - 1)))+1)) x16 x17 x18) else (none)) else (none)) else (conflict_sets.l1 k x0 x5 (rd_L1 x16 x18) 0 x16 x17 x18)) else (none)) else (none)) else (some x5)
def conflict_sets.l1:Nat→Int→List (List Int)→List Int→Int→List (List Int)→Int→Int→Option ((List (List Int)))
 | 0,_,_,_,_,_,_,_=>none
 | k+1,x0,x5,x7,x9,x16,x17,x18=>if x9<x0 then ((slices_Clone_int_int.f x7).bind fun t52=>(if t52.length<17592186044416 then (if x5.length<5864062014805 then (conflict_sets.l1 k x0 (x5++[(t52++[x9])]) x7 (wrap64 (x9+1)) x16 x17 x18) else (none)) else (none))) else (conflict_sets.l0 k x0 x5 x16 x17 (wrap64 (x18+1)))
def conflict_sets.f:Nat→Int→Int→Option ((List (List Int)))
 | 0,_,_=>none
 | k+1,a0,a1=>if a1=0 then (some (([[]]:List (List Int)))) else ((conflict_sets.f k a0 (wrap64 (a1 - 1))).bind fun t39=>(conflict_sets.l0 k a0 ([]:List (List Int)) t39 (t39.length:Int) 0))
end
set_option maxHeartbeats 8000000 in
set_option maxRecDepth 100000 in
theorem conflict_sets.calls (k:Nat):∀ (a0:Int) (a1:Int) (r:List (List Int)) (w:World) (h:conflict_sets.f k a0 a1=some r),
  Calls Tryz.prog 37 #[.int .i64 a0,.int .i64 a1] w fun e w'=>∃ v0_:Value,e=.returned (v0_)∧Kd.S (Kd.slice 3 (Kd.int .i64)) 23 w' w.heap.size (fun _=>True) v0_ r∧Below w.heap.size w w':=by
 induction k using Nat.strongRecOn with
 | _ k ih=>
 intro a0 a1 r w h
 cases k with
 | zero=>exact absurd h (by simp [conflict_sets.f])
 | succ k=>
 simp only [conflict_sets.f] at h;have HB:=zA (Below.refl w.heap.size w);have H:(if a1=0 then (some (([[]]:List (List Int)))) else ((conflict_sets.f k a0 (wrap64 (a1 - 1))).bind fun t39=>(conflict_sets.l0 k a0 ([]:List (List Int)) t39 (t39.length:Int) 0)))=some r:=h;clear h
 rcases ife H with ⟨c3b0,c3b1,H⟩|⟨c3,c3b0,c3b1,H⟩
 ·first|(replace H:=zyb (([[]]:List (List Int))) H;obtain ⟨y57,Ny57,H⟩:=H)|(obtain ⟨y57,hy57⟩:=zY (([[]]:List (List Int)));(try rw (occs:=.pos [1]) [← hy57] at H);have Ny57:=zA hy57;clear hy57)
  obtain rfl:=Option.some.inj H
  go_enter Tryz.func37,Tryz.ntmps37
  go_wp2_with (first|((with_reducible refine gate_dst (N:=12) rfl ?_);refine Kd.S_lit (Kd.slice 3 (Kd.int .i64)) _ 23 ?hg (N:=12) ?hd (xs:=([[]]:List (List Int))) (inner:=[.slice none 0 0]) (ok:=fun _=>True) (okp:=fun _=>True) ?hr ?hp (fun _ hk=>hk) trivial (Below.refl _ _) (Nat.le_refl _) (by simp) ?_;(case hd=>rfl);(case hg=>rfl);(case hr=>first|(go_simp;done)|(go_simp;rfl));(case hp=>exact (Reps.one (show Kd.M (Kd.slice 3 (Kd.int .i64)) _ _ _ [] [.slice none 0 0] from ⟨_,rfl,Kd.R_nil _ _ _ _ _⟩) (Reps.none _ _)));intro v87 w4 ho5 hb hg_ hnew_;clear hg_ hnew_;(first|rw [← Ny57.out] at ho5|(simp only [Int.reduceToNat] at ho5;rw [← Ny57.out] at ho5));have HO81:=zA (Kd.S_lower ho5 (below_size zB));replace HB:=zu hb;clear hb ho5))
  go_ret
  exact ⟨_,ze,by (with_reducible repeat (first|apply Kd.S_alloc|apply Kd.S_drewN|apply Kd.S_drew));exact HO81.out,zv0 HB⟩
 ·obtain ⟨t39,A6,H⟩:=zo H;have H':=zA H;clear H
  go_enter Tryz.func37,Tryz.ntmps37
  go_wp2_with (first|((with_reducible refine gate_callee (f:=37) rfl ?_);refine zgo 16 Tryz.func37 #[.int .i64 a0,.int .i64 (wrap64 (a1 - 1))] ?_;(with_reducible refine (ih k (by omega) a0 (wrap64 (a1 - 1)) t39 _ A6.out).mono ?_);rintro e w7 ⟨v88,rfl,ho0,hb⟩;refine ⟨_,rfl,?_⟩;have HO78:=zA (Kd.S_lower ho0 (below_size zB));replace HB:=zu hb;clear hb;(try clear ho0);obtain ⟨Ao8,co8,eo8⟩:=Kd.S_slice HO78.out;subst eo8))
  go_loopg [5,18] k (fun kq v5 v18 w'=>∃ (x5_1:List (List Int)) (x18_1:Int),v18=.int .i64 x18_1∧Aside0 (conflict_sets.l0 kq a0 x5_1 t39 (t39.length:Int) x18_1=some r)∧Aside0 (kq≤k)∧Aside0 (Kd.S (Kd.slice 3 (Kd.int .i64)) 23 w' w.heap.size (fun k_=>some k_≠((.slice Ao8 t39.length co8):Value).ownBlock) v5 x5_1)∧Aside0 (Kd.S (Kd.slice 3 (Kd.int .i64)) 23 w' w.heap.size (fun k_=>some k_≠(v5:Value).ownBlock) (.slice Ao8 t39.length co8) t39)∧Aside0 (Below w.heap.size w w'))
  case atStart=>exact ⟨(([]:List (List Int))),(0),zT,H',⟨Nat.le_refl _⟩,⟨by first|exact Kd.S_nil _ _ _ _ _|exact Kd.N_nil _ _ _ _ _|exact Kd.V_nil _ _ _ _ _|exact Kd.Q_nil _ _ _ _ _|exact Kd.R_nil _ _ _ _ _⟩,⟨by (with_reducible repeat (first|apply Kd.S_alloc|apply Kd.S_drewN|apply Kd.S_drew));exact Kd.S_mono HO78.out (fun _ hk=>(by simp [Value.ownBlock]))⟩,⟨zv0 HB⟩⟩
  case round=>
   clear H'
   try clear c3
   try clear c3b0
   try clear c3b1
   obtain ⟨x5_1,x18_1,rfl,HA,HK1,HO_5,HO_16,HB⟩:=hrel
   cases gk with
   | zero=>exact absurd HA.out (by simp [conflict_sets.l0])
   | succ k1=>
    have H:=HA.out;clear HA;simp only [conflict_sets.l0] at H
    rcases ifd H with ⟨c9b0,H⟩|⟨c9b0,H⟩
    ·obtain ⟨c10b0,H⟩:=ifd1 H;obtain ⟨c11b0,H⟩:=ifd1 H
     rcases if0 H with ⟨c12,H⟩|⟨c12,H⟩
     ·have c12b0:decide (0<((rd_L1 t39 x18_1).length:Int))=true:=decide_eq_true c12;have c12b1:decide (0<(rd_L1 t39 x18_1).length)=true:=decide_eq_true (by omega);clear c12;obtain ⟨ji13,hji13⟩:=zZ (wrap64 (((rd_L1 t39 x18_1).length:Int) - 1))
      first|rw [hji13] at H|simp only [hji13] at H
      have hji13w:(IntKind.i64.wrap (((rd_L1 t39 x18_1).length:Int) - 1))=ji13:=(i64_w _).trans hji13;obtain ⟨c14b0,H⟩:=ifd1 H;obtain ⟨c15b0,H⟩:=ifd1 H;have H':=zA H;clear H;obtain ⟨p33,q33,ad33,A33_0,c33_0,e33,hx33_0,hl33_0,hi33_0⟩:=zp (at_L1 (Kd.S_reads' HO_16.out).2.2 x18_1)
      cases e33
      obtain ⟨ce33,hce33,hMe33,hcc33⟩:=Kd.S_get HO_16.out [] x18_1 p33 (by first|exact q33|exact of_decide_eq_true zh|(have e_:=(Kd.S_reads' HO_16.out).1;omega));obtain ⟨ve33_0,rfl,ge33_0⟩:=hMe33;have hv33_0:=hcc33 0 _ rfl;rw [Nat.add_zero,show ((Kd.slice 3 (Kd.int .i64))).sz=1 from rfl,Nat.mul_one] at hv33_0;replace hv33_0:=Option.some.inj (hv33_0.symm.trans hx33_0);rw [hv33_0] at ge33_0;have HL33_0:=zA (show Kd.R (Kd.int .i64) 3 _ _ _ _ (rd_L1 t39 x18_1) from ge33_0);clear hv33_0 ge33_0;clear hcc33 hce33;have HR33_0:=zA hi33_0;have HC33_0:=zA hl33_0;clear hi33_0 hl33_0;replace p33:=eq_true p33;replace q33:=eq_true q33;obtain ⟨p50,q50,ad50,e50,hx50_0⟩:=zp (Kd.at_int ((Kd.R_reads' HL33_0.out).2.2) (ji13))
      cases e50
      replace p50:=eq_true p50;replace q50:=eq_true q50
      go_wp2
      go_loopg [5,9] k1 (fun kq v5 v9 w'=>∃ (x5_2:List (List Int)) (x9_2:Int),v9=.int .i64 x9_2∧Aside0 (conflict_sets.l1 kq a0 x5_2 (rd_L1 t39 x18_1) x9_2 t39 (t39.length:Int) x18_1=some r)∧Aside0 (kq≤k1)∧Aside0 (Kd.S (Kd.slice 3 (Kd.int .i64)) 23 w' w.heap.size (fun k_=>some k_≠((.slice (some ad33) t39.length co8):Value).ownBlock) v5 x5_2)∧Aside0 (Kd.R (Kd.int .i64) 3 w' w.heap.size (fun _=>True) (.slice (some ad50) (rd_L1 t39 x18_1).length c33_0) (rd_L1 t39 x18_1))∧Aside0 (Kd.S (Kd.slice 3 (Kd.int .i64)) 23 w' w.heap.size (fun k_=>some k_≠(v5:Value).ownBlock) (.slice (some ad33) t39.length co8) t39)∧Aside0 (Below w.heap.size w w'))
      case atStart=>exact ⟨(x5_1),(wrap64 ((rd (rd_L1 t39 x18_1) (ji13))+1)),(by first|rfl|(simp;done)|(simp only [← hji13] <;> (first|rfl|simp))|(simp [*];done)),H',⟨Nat.le_refl _⟩,⟨by (with_reducible repeat (first|apply Kd.S_alloc|apply Kd.S_drewN|apply Kd.S_drew));exact HO_5.out⟩,⟨by refine zr ?_;exact Kd.R_mono HL33_0.out (fun _ hk=>trivial)⟩,⟨by (with_reducible repeat (first|apply Kd.S_alloc|apply Kd.S_drewN|apply Kd.S_drew));exact HO_16.out⟩,⟨zv0 HB⟩⟩
      case round=>
       clear H'
       try clear c3
       try clear c3b0
       try clear c3b1
       try clear c9
       try clear c9b0
       try clear c10
       try clear c10b0
       try clear c11
       try clear c11b0
       try clear c12
       try clear c12b0
       try clear c12b1
       try clear c14
       try clear c14b0
       try clear c15
       try clear c15b0
       try clear hx33_0
       try clear hx50_0
       try clear p33
       try clear p50
       try clear q33
       try clear q50
       obtain ⟨x5_2,x9_2,rfl,HA,HK2,HO_5,HO_7,HO_16,HB⟩:=hrel
       cases gk with
       | zero=>exact absurd HA.out (by simp [conflict_sets.l1])
       | succ k2=>
        have H:=HA.out;clear HA;simp only [conflict_sets.l1] at H
        rcases ifd H with ⟨c16b0,H⟩|⟨c16b0,H⟩
        ·obtain ⟨t52,A17,H⟩:=zo H;obtain ⟨c18,H⟩:=if1 H;have LMc18:=zA c18;clear c18
         first|(replace H:=zyb (t52++[x9_2]) H;obtain ⟨y42,Ny42,H⟩:=H)|(obtain ⟨y42,hy42⟩:=zY (t52++[x9_2]);(try rw (occs:=.pos [1]) [← hy42] at H);have Ny42:=zA hy42;clear hy42)
         obtain ⟨c19,H⟩:=if1 H;have LMc19:=zA c19;clear c19
         first|(replace H:=zyb (x5_2++[y42]) H;obtain ⟨y46,Ny46,H⟩:=H)|(obtain ⟨y46,hy46⟩:=zY (x5_2++[y42]);(try rw (occs:=.pos [1]) [← hy46] at H);have Ny46:=zA hy46;clear hy46)
         have H':=zA H;clear H
         go_wp2_with (first|((with_reducible refine gate_callee (f:=11) rfl ?_);refine zgo 40 Tryz.func11 #[.slice (some ad50) (rd_L1 t39 x18_1).length c33_0] ?_;(with_reducible refine (slices_Clone_int_int.calls _ _ (rd_L1 t39 x18_1) t52 _ ?side1 ?side2 A17.out).mono ?_);(case side1=>exact zC (Kd.R_reads' HO_7.out).2.2);(case side2=>exact (Kd.R_reads' HO_7.out).2.1);rintro e w20 ⟨v75,rfl,ho0,hb⟩;refine ⟨_,rfl,?_⟩;have HO63:=zA (Kd.R_lower (Kd.R_new' ho0 (Kd.R_lt (zR HO_7))) (below_size zB));replace HO_5:=zA (Kd.S_elder' (zS HO_5) (Kd.R_base ho0) hb);replace HO_7:=zA (Kd.R_elder' (zR HO_7) (Kd.R_base ho0) hb);replace HO_16:=zA (Kd.S_elder' (zS HO_16) (Kd.R_base ho0) hb);replace HB:=zu hb;clear hb;(try clear ho0))|((with_reducible refine gate_builtin (b:=.append) (xs:=#[.tmp 40,.tmp 42]) rfl ?_);at_builtin;refine Kd.R_append (Kd.int .i64) (w0:=w) w.heap.size rfl (.tmp 40) (.tmp 42) 23 3 (.int .i64 0) 8 rfl Tryz.underlying23 info3 rfl (by decide) (by omega) v75 t52 x9_2 [.int .i64 x9_2] (fun k_=>some k_≠(.slice (some ad50) (rd_L1 t39 x18_1).length c33_0:Value).ownBlock) (fun _=>False) rfl rfl ?aP (fun _ hk=>hk.elim) ?aF ?aO ?aB ?aS ?aL ?_;(case aP=>exact rfl);(case aB=>exact zB);(case aF=>exact (fun k_ hk=>Kd.fresh' (Kd.R_lt (zR HO_7)) k_ hk));(case aO=>exact (by refine zr ?_;exact Kd.R_mono HO63.out (fun _ hk=>hk.2)));(case aS=>exact (below_size zB));(case aL=>have:=LMc18.out;omega);intro v82 w21 ho hb hg hat;rw [← Ny42.out] at ho;have HO58:=zA (ho);replace HO_5:=zA (Kd.S_after (ok:=(fun k_=>some k_≠(.slice (some ad33) t39.length co8:Value).ownBlock)) (zS HO_5) hg hat);replace HO_7:=zA (Kd.R_after (ok:=(fun _=>True)) (zR HO_7) hg hat);replace HO_16:=zA (Kd.S_after (ok:=(fun k_=>some k_≠(u5:Value).ownBlock)) (zS HO_16) hg hat);replace HB:=zA (hb);clear HO63;clear ho hb hg hat;obtain ⟨Ao23,co23,eo23⟩:=Kd.R_slice HO58.out;subst eo23)|((with_reducible refine gate_builtin (b:=.append) (xs:=#[.tmp 38,.tmp 44]) rfl ?_);at_builtin;refine Kd.S_append (Kd.slice 3 (Kd.int .i64)) (w0:=w) w.heap.size rfl (.tmp 38) (.tmp 44) 36 23 (.slice none 0 0) 24 rfl Tryz.underlying36 info23 rfl (by decide) (by omega) u5 x5_2 y42 [.slice Ao23 y42.length co23] (fun k_=>some k_≠(.slice (some ad33) t39.length co8:Value).ownBlock) (fun k_=>some k_=(.slice Ao23 y42.length co23:Value).ownBlock) rfl rfl ?aP (fun k_ hk_=>((Kd.R_mono (ok':=fun k_=>((fun k_=>some k_≠(.slice (some ad33) t39.length co8:Value).ownBlock)) k_∧some k_≠(u5:Value).ownBlock) (Kd.R_apart' (Kd.R_apart' (HO58.out) (Kd.S_typed HO_16.out) (by decide)) (Kd.S_typed HO_5.out) (by decide)) (fun k_ hk=>⟨hk.1.2,hk.2⟩))).1 k_ hk_.symm) ?aF ?aO ?aB ?aS ?aL ?_;(case aP=>exact Kd.M_row (Kd.R_mono (Kd.R_tight rfl (Kd.R_mono (ok':=fun k_=>((fun k_=>some k_≠(.slice (some ad33) t39.length co8:Value).ownBlock)) k_∧some k_≠(u5:Value).ownBlock) (Kd.R_apart' (Kd.R_apart' (HO58.out) (Kd.S_typed HO_16.out) (by decide)) (Kd.S_typed HO_5.out) (by decide)) (fun k_ hk=>⟨hk.1.2,hk.2⟩))) (fun _ h_=>h_)));(case aB=>exact zB);(case aF=>exact (fun k_ hk=>Kd.fresh' (Kd.S_lt (zS HO_16)) k_ hk));(case aO=>exact (by (with_reducible repeat (first|apply Kd.S_alloc|apply Kd.S_drewN|apply Kd.S_drew));exact Kd.S_mono HO_5.out (fun k_ hk=>⟨hk.1,fun e_=>hk.2 e_⟩)));(case aS=>exact (below_size zB));(case aL=>have:=LMc19.out;omega);intro v83 w22 ho hb hg hat;rw [← Ny46.out] at ho;have HO76:=zA (ho);replace HO_7:=zA (Kd.R_over' (zR HO_7) (Kd.S_typed (zS HO_5)) (by decide) hg);replace HO_16:=zA (Kd.S_after (ok:=(fun k_=>some k_≠(.slice Ao23 y42.length co23:Value).ownBlock)) (by (with_reducible repeat (first|apply Kd.S_alloc|apply Kd.S_drewN|apply Kd.S_drew));exact Kd.S_mono HO_16.out (fun _ hk=>⟨hk.2,hk.1⟩)) hg hat);replace HB:=zA (hb);clear HO_5 HO58;clear ho hb hg hat))
         go_roundg k2
         case measure=>have:=HK1.out;have:=HK2.out;omega
         case rel=>exact ⟨(y46),(wrap64 (x9_2+1)),zT,H',⟨by have:=HK1.out;have:=HK2.out;omega⟩,⟨by (with_reducible repeat (first|apply Kd.S_alloc|apply Kd.S_drewN|apply Kd.S_drew));exact HO76.out⟩,⟨by refine zr ?_;exact Kd.R_mono HO_7.out (fun _ hk=>trivial)⟩,⟨by (with_reducible repeat (first|apply Kd.S_alloc|apply Kd.S_drewN|apply Kd.S_drew));exact Kd.S_mono HO_16.out (fun _ hk=>hk.2)⟩,⟨zv0 HB⟩⟩
        ·have H':=zA H;clear H
         go_wp2
         go_roundg k2
         case measure=>have:=HK1.out;have:=HK2.out;omega
         case rel=>exact ⟨(x5_2),(wrap64 (x18_1+1)),zT,H',⟨by have:=HK1.out;have:=HK2.out;omega⟩,⟨by (with_reducible repeat (first|apply Kd.S_alloc|apply Kd.S_drewN|apply Kd.S_drew));exact HO_5.out⟩,⟨by (with_reducible repeat (first|apply Kd.S_alloc|apply Kd.S_drewN|apply Kd.S_drew));exact HO_16.out⟩,⟨zv0 HB⟩⟩
     ·have c12b0:decide (0<((rd_L1 t39 x18_1).length:Int))=false:=decide_eq_false c12;have c12b1:decide (0<(rd_L1 t39 x18_1).length)=false:=decide_eq_false (by omega);clear c12;have H':=zA H;clear H;obtain ⟨p33,q33,ad33,A33_0,c33_0,e33,hx33_0,hl33_0,hi33_0⟩:=zp (at_L1 (Kd.S_reads' HO_16.out).2.2 x18_1)
      cases e33
      obtain ⟨ce33,hce33,hMe33,hcc33⟩:=Kd.S_get HO_16.out [] x18_1 p33 (by first|exact q33|exact of_decide_eq_true zh|(have e_:=(Kd.S_reads' HO_16.out).1;omega));obtain ⟨ve33_0,rfl,ge33_0⟩:=hMe33;have hv33_0:=hcc33 0 _ rfl;rw [Nat.add_zero,show ((Kd.slice 3 (Kd.int .i64))).sz=1 from rfl,Nat.mul_one] at hv33_0;replace hv33_0:=Option.some.inj (hv33_0.symm.trans hx33_0);rw [hv33_0] at ge33_0;have HL33_0:=zA (show Kd.R (Kd.int .i64) 3 _ _ _ _ (rd_L1 t39 x18_1) from ge33_0);clear hv33_0 ge33_0;clear hcc33 hce33;have HR33_0:=zA hi33_0;have HC33_0:=zA hl33_0;clear hi33_0 hl33_0;replace p33:=eq_true p33;replace q33:=eq_true q33
      go_wp2
      go_loopg [5,9] k1 (fun kq v5 v9 w'=>∃ (x5_2:List (List Int)) (x9_2:Int),v9=.int .i64 x9_2∧Aside0 (conflict_sets.l1 kq a0 x5_2 (rd_L1 t39 x18_1) x9_2 t39 (t39.length:Int) x18_1=some r)∧Aside0 (kq≤k1)∧Aside0 (Kd.S (Kd.slice 3 (Kd.int .i64)) 23 w' w.heap.size (fun k_=>some k_≠((.slice (some ad33) t39.length co8):Value).ownBlock) v5 x5_2)∧Aside0 (Kd.R (Kd.int .i64) 3 w' w.heap.size (fun _=>True) (.slice A33_0 (rd_L1 t39 x18_1).length c33_0) (rd_L1 t39 x18_1))∧Aside0 (Kd.S (Kd.slice 3 (Kd.int .i64)) 23 w' w.heap.size (fun k_=>some k_≠(v5:Value).ownBlock) (.slice (some ad33) t39.length co8) t39)∧Aside0 (Below w.heap.size w w'))
      case atStart=>exact ⟨(x5_1),(0),zT,H',⟨Nat.le_refl _⟩,⟨by (with_reducible repeat (first|apply Kd.S_alloc|apply Kd.S_drewN|apply Kd.S_drew));exact HO_5.out⟩,⟨by refine zr ?_;exact Kd.R_mono HL33_0.out (fun _ hk=>trivial)⟩,⟨by (with_reducible repeat (first|apply Kd.S_alloc|apply Kd.S_drewN|apply Kd.S_drew));exact HO_16.out⟩,⟨zv0 HB⟩⟩
      case round=>
       clear H'
       try clear c3
       try clear c3b0
       try clear c3b1
       try clear c9
       try clear c9b0
       try clear c10
       try clear c10b0
       try clear c11
       try clear c11b0
       try clear c12
       try clear c12b0
       try clear c12b1
       try clear hx33_0
       try clear p33
       try clear q33
       obtain ⟨x5_2,x9_2,rfl,HA,HK2,HO_5,HO_7,HO_16,HB⟩:=hrel
       cases gk with
       | zero=>exact absurd HA.out (by simp [conflict_sets.l1])
       | succ k2=>
        have H:=HA.out;clear HA;simp only [conflict_sets.l1] at H
        rcases ifd H with ⟨c24b0,H⟩|⟨c24b0,H⟩
        ·obtain ⟨t52,A25,H⟩:=zo H;obtain ⟨c26,H⟩:=if1 H;have LMc26:=zA c26;clear c26
         first|(replace H:=zyb (t52++[x9_2]) H;obtain ⟨y42,Ny42,H⟩:=H)|(obtain ⟨y42,hy42⟩:=zY (t52++[x9_2]);(try rw (occs:=.pos [1]) [← hy42] at H);have Ny42:=zA hy42;clear hy42)
         obtain ⟨c27,H⟩:=if1 H;have LMc27:=zA c27;clear c27
         first|(replace H:=zyb (x5_2++[y42]) H;obtain ⟨y46,Ny46,H⟩:=H)|(obtain ⟨y46,hy46⟩:=zY (x5_2++[y42]);(try rw (occs:=.pos [1]) [← hy46] at H);have Ny46:=zA hy46;clear hy46)
         have H':=zA H;clear H
         go_wp2_with (first|((with_reducible refine gate_callee (f:=11) rfl ?_);refine zgo 40 Tryz.func11 #[.slice A33_0 (rd_L1 t39 x18_1).length c33_0] ?_;(with_reducible refine (slices_Clone_int_int.calls _ _ (rd_L1 t39 x18_1) t52 _ ?side1 ?side2 A25.out).mono ?_);(case side1=>exact zC (Kd.R_reads' HO_7.out).2.2);(case side2=>exact (Kd.R_reads' HO_7.out).2.1);rintro e w28 ⟨v75,rfl,ho0,hb⟩;refine ⟨_,rfl,?_⟩;have HO63:=zA (Kd.R_lower (Kd.R_new' ho0 (Kd.R_lt (zR HO_7))) (below_size zB));replace HO_5:=zA (Kd.S_elder' (zS HO_5) (Kd.R_base ho0) hb);replace HO_7:=zA (Kd.R_elder' (zR HO_7) (Kd.R_base ho0) hb);replace HO_16:=zA (Kd.S_elder' (zS HO_16) (Kd.R_base ho0) hb);replace HB:=zu hb;clear hb;(try clear ho0))|((with_reducible refine gate_builtin (b:=.append) (xs:=#[.tmp 40,.tmp 42]) rfl ?_);at_builtin;refine Kd.R_append (Kd.int .i64) (w0:=w) w.heap.size rfl (.tmp 40) (.tmp 42) 23 3 (.int .i64 0) 8 rfl Tryz.underlying23 info3 rfl (by decide) (by omega) v75 t52 x9_2 [.int .i64 x9_2] (fun k_=>some k_≠(.slice A33_0 (rd_L1 t39 x18_1).length c33_0:Value).ownBlock) (fun _=>False) rfl rfl ?aP (fun _ hk=>hk.elim) ?aF ?aO ?aB ?aS ?aL ?_;(case aP=>exact rfl);(case aB=>exact zB);(case aF=>exact (fun k_ hk=>Kd.fresh' (Kd.R_lt (zR HO_7)) k_ hk));(case aO=>exact (by refine zr ?_;exact Kd.R_mono HO63.out (fun _ hk=>hk.2)));(case aS=>exact (below_size zB));(case aL=>have:=LMc26.out;omega);intro v82 w29 ho hb hg hat;rw [← Ny42.out] at ho;have HO58:=zA (ho);replace HO_5:=zA (Kd.S_after (ok:=(fun k_=>some k_≠(.slice (some ad33) t39.length co8:Value).ownBlock)) (zS HO_5) hg hat);replace HO_7:=zA (Kd.R_after (ok:=(fun _=>True)) (zR HO_7) hg hat);replace HO_16:=zA (Kd.S_after (ok:=(fun k_=>some k_≠(u5:Value).ownBlock)) (zS HO_16) hg hat);replace HB:=zA (hb);clear HO63;clear ho hb hg hat;obtain ⟨Ao31,co31,eo31⟩:=Kd.R_slice HO58.out;subst eo31)|((with_reducible refine gate_builtin (b:=.append) (xs:=#[.tmp 38,.tmp 44]) rfl ?_);at_builtin;refine Kd.S_append (Kd.slice 3 (Kd.int .i64)) (w0:=w) w.heap.size rfl (.tmp 38) (.tmp 44) 36 23 (.slice none 0 0) 24 rfl Tryz.underlying36 info23 rfl (by decide) (by omega) u5 x5_2 y42 [.slice Ao31 y42.length co31] (fun k_=>some k_≠(.slice (some ad33) t39.length co8:Value).ownBlock) (fun k_=>some k_=(.slice Ao31 y42.length co31:Value).ownBlock) rfl rfl ?aP (fun k_ hk_=>((Kd.R_mono (ok':=fun k_=>((fun k_=>some k_≠(.slice (some ad33) t39.length co8:Value).ownBlock)) k_∧some k_≠(u5:Value).ownBlock) (Kd.R_apart' (Kd.R_apart' (HO58.out) (Kd.S_typed HO_16.out) (by decide)) (Kd.S_typed HO_5.out) (by decide)) (fun k_ hk=>⟨hk.1.2,hk.2⟩))).1 k_ hk_.symm) ?aF ?aO ?aB ?aS ?aL ?_;(case aP=>exact Kd.M_row (Kd.R_mono (Kd.R_tight rfl (Kd.R_mono (ok':=fun k_=>((fun k_=>some k_≠(.slice (some ad33) t39.length co8:Value).ownBlock)) k_∧some k_≠(u5:Value).ownBlock) (Kd.R_apart' (Kd.R_apart' (HO58.out) (Kd.S_typed HO_16.out) (by decide)) (Kd.S_typed HO_5.out) (by decide)) (fun k_ hk=>⟨hk.1.2,hk.2⟩))) (fun _ h_=>h_)));(case aB=>exact zB);(case aF=>exact (fun k_ hk=>Kd.fresh' (Kd.S_lt (zS HO_16)) k_ hk));(case aO=>exact (by (with_reducible repeat (first|apply Kd.S_alloc|apply Kd.S_drewN|apply Kd.S_drew));exact Kd.S_mono HO_5.out (fun k_ hk=>⟨hk.1,fun e_=>hk.2 e_⟩)));(case aS=>exact (below_size zB));(case aL=>have:=LMc27.out;omega);intro v83 w30 ho hb hg hat;rw [← Ny46.out] at ho;have HO76:=zA (ho);replace HO_7:=zA (Kd.R_over' (zR HO_7) (Kd.S_typed (zS HO_5)) (by decide) hg);replace HO_16:=zA (Kd.S_after (ok:=(fun k_=>some k_≠(.slice Ao31 y42.length co31:Value).ownBlock)) (by (with_reducible repeat (first|apply Kd.S_alloc|apply Kd.S_drewN|apply Kd.S_drew));exact Kd.S_mono HO_16.out (fun _ hk=>⟨hk.2,hk.1⟩)) hg hat);replace HB:=zA (hb);clear HO_5 HO58;clear ho hb hg hat))
         go_roundg k2
         case measure=>have:=HK1.out;have:=HK2.out;omega
         case rel=>exact ⟨(y46),(wrap64 (x9_2+1)),zT,H',⟨by have:=HK1.out;have:=HK2.out;omega⟩,⟨by (with_reducible repeat (first|apply Kd.S_alloc|apply Kd.S_drewN|apply Kd.S_drew));exact HO76.out⟩,⟨by refine zr ?_;exact Kd.R_mono HO_7.out (fun _ hk=>trivial)⟩,⟨by (with_reducible repeat (first|apply Kd.S_alloc|apply Kd.S_drewN|apply Kd.S_drew));exact Kd.S_mono HO_16.out (fun _ hk=>hk.2)⟩,⟨zv0 HB⟩⟩
        ·have H':=zA H;clear H
         go_wp2
         go_roundg k2
         case measure=>have:=HK1.out;have:=HK2.out;omega
         case rel=>exact ⟨(x5_2),(wrap64 (x18_1+1)),zT,H',⟨by have:=HK1.out;have:=HK2.out;omega⟩,⟨by (with_reducible repeat (first|apply Kd.S_alloc|apply Kd.S_drewN|apply Kd.S_drew));exact HO_5.out⟩,⟨by (with_reducible repeat (first|apply Kd.S_alloc|apply Kd.S_drewN|apply Kd.S_drew));exact HO_16.out⟩,⟨zv0 HB⟩⟩
    ·obtain rfl:=Option.some.inj H
     go_wp2
     go_ret
     exact ⟨_,ze,by (with_reducible repeat (first|apply Kd.S_alloc|apply Kd.S_drewN|apply Kd.S_drew));exact Kd.S_mono HO_5.out (fun _ hk=>trivial),zv0 HB⟩
def slices_Index_int_int.l0:Nat→List Int→Int→Int→Int→Option (Int)
 | 0,_,_,_,_=>none
 | k+1,x0,x1,x7,x8=>if x8<x7 then (if 0≤x8 then (if x8<(x0.length:Int) then (if x1=(rd x0 x8) then (some x8) else (slices_Index_int_int.l0 k x0 x1 x7 (wrap64 (x8+1)))) else (none)) else (none)) else (some (-1))
def slices_Index_int_int.f (k:Nat) (l0:List Int) (a1:Int):Option (Int):=slices_Index_int_int.l0 k l0 a1 (l0.length:Int) 0
set_option maxHeartbeats 8000000 in
set_option maxRecDepth 100000 in
theorem slices_Index_int_int.calls (k:Nat) (A0:Option Addr) (c0:Nat) (l0:List Int) (a1:Int) (r:Int) (w:World) (hr0:Kd.C (Kd.int .i64) w A0 l0.length l0) (hc0:l0.length≤c0) (h:slices_Index_int_int.f k l0 a1=some r) :
  Calls Tryz.prog 60 #[.slice A0 l0.length c0,.int .i64 a1] w fun e w'=>e=.returned (.int .i64 r)∧Drawn0 w w':=by
 have HR0:=zA hr0;have HC0:=zA hc0;clear hr0 hc0;have H:(slices_Index_int_int.l0 k l0 a1 (l0.length:Int) 0)=some r:=h;clear h;have H':=zA H;clear H
 go_enter Tryz.func60,Tryz.ntmps60
 go_wp2
 go_loopg [8] k (fun kq v8 w'=>∃ (x8_1:Int),v8=.int .i64 x8_1∧Aside0 (slices_Index_int_int.l0 kq l0 a1 (l0.length:Int) x8_1=some r)∧Aside0 (kq≤k)∧Drawn0 w w')
 case atStart=>exact ⟨(0),zT,H',⟨Nat.le_refl _⟩,by repeat (first|exact Drawn0.refl _|apply Drawn0.step)⟩
 case round=>
  clear H';obtain ⟨x8_1,rfl,HA,HK1,⟨m1,rfl⟩⟩:=hrel
  cases gk with
  | zero=>exact absurd HA.out (by simp [slices_Index_int_int.l0])
  | succ k1=>
   have H:=HA.out;clear HA;simp only [slices_Index_int_int.l0] at H
   rcases ifd H with ⟨c3b0,H⟩|⟨c3b0,H⟩
   ·obtain ⟨c4b0,H⟩:=ifd1 H;obtain ⟨c5b0,H⟩:=ifd1 H
    rcases ife H with ⟨c6b0,c6b1,H⟩|⟨c6,c6b0,c6b1,H⟩
    ·obtain rfl:=Option.some.inj H;obtain ⟨p47,q47,ad47,e47,hx47_0⟩:=zp (Kd.at_int HR0.out x8_1)
     cases e47
     replace p47:=eq_true p47;replace q47:=eq_true q47
     go_wp2
     go_ret
     exact ⟨by first|rfl|(simp;done)|(simp [*];done),by repeat (first|exact Drawn0.refl _|apply Drawn0.step)⟩
    ·have H':=zA H;clear H;obtain ⟨p47,q47,ad47,e47,hx47_0⟩:=zp (Kd.at_int HR0.out x8_1)
     cases e47
     replace p47:=eq_true p47;replace q47:=eq_true q47
     go_wp2
     go_roundg k1
     case measure=>have:=HK1.out;omega
     case rel=>exact ⟨(wrap64 (x8_1+1)),zT,H',⟨by have:=HK1.out;omega⟩,by repeat (first|exact Drawn0.refl _|apply Drawn0.step)⟩
   ·obtain rfl:=Option.some.inj H
    go_wp2
    go_ret
    exact ⟨by first|rfl|(simp;done)|(simp [*];done),by repeat (first|exact Drawn0.refl _|apply Drawn0.step)⟩
def slices_Contains_int_int.f (k:Nat) (l0:List Int) (a1:Int):Option (Bool):=(slices_Index_int_int.f k l0 a1).bind fun t66=>(some (decide (t66≥0)))
set_option maxHeartbeats 8000000 in
set_option maxRecDepth 100000 in
theorem slices_Contains_int_int.calls (k:Nat) (A0:Option Addr) (c0:Nat) (l0:List Int) (a1:Int) (r:Bool) (w:World) (hr0:Kd.C (Kd.int .i64) w A0 l0.length l0) (hc0:l0.length≤c0) (h:slices_Contains_int_int.f k l0 a1=some r) :
  Calls Tryz.prog 72 #[.slice A0 l0.length c0,.int .i64 a1] w fun e w'=>e=.returned (.bool r)∧Drawn0 w w':=by
 have HR0:=zA hr0;have HC0:=zA hc0;clear hr0 hc0;have H:((slices_Index_int_int.f k l0 a1).bind fun t66=>(some (decide (t66≥0))))=some r:=h;clear h;obtain ⟨t66,A3,H⟩:=zo H;obtain rfl:=Option.some.inj H
 go_enter Tryz.func72,Tryz.ntmps72
 go_wp2_with (first|((with_reducible refine gate_callee (f:=60) rfl ?_);refine zgo 7 Tryz.func60 #[.slice A0 l0.length c0,.int .i64 a1] ?_;(with_reducible refine (slices_Index_int_int.calls k _ _ l0 a1 t66 _ ?side1 HC0.out A3.out).mono ?_);(case side1=>repeat (first|exact HR0.out|(with_reducible refine Kd.C_alloc ?_ _)|(with_reducible refine Kd.C_drewN ?_ _)|(with_reducible refine Kd.C_drew ?_)));rintro e w' ⟨rfl,⟨nd,rfl⟩⟩;refine ⟨_,rfl,?_⟩))
 go_ret
 exact ⟨by first|rfl|(simp;done)|(simp [*];done),by repeat (first|exact Drawn0.refl _|apply Drawn0.step)⟩
def conflict_part_1_v1.f (k:Nat) (a0:Int) (l1_0:List Int):Option (Bool):=(slices_Contains_int_int.f k l1_0 a0).bind fun t67=>(some (!t67))
set_option maxHeartbeats 8000000 in
set_option maxRecDepth 100000 in
theorem conflict_part_1_v1.calls (k:Nat) (a0:Int) (gp1_0:Nat) (A1_0:Option Addr) (c1_0:Nat) (l1_0:List Int) (r:Bool) (w:World) (hr1_0:Kd.C (Kd.int .i64) w A1_0 l1_0.length l1_0) (hc1_0:l1_0.length≤c1_0) (hb_gp1_0:w.heap[gp1_0]?=some (.cells #[.slice A1_0 l1_0.length c1_0] 23 (0,0))) (h:conflict_part_1_v1.f k a0 l1_0=some r) :
  Calls Tryz.prog 101 #[.int .i64 a0,.pointer (some ⟨gp1_0,0,none⟩)] w fun e w'=>e=.returned (.bool r)∧Drawn0 w w':=by
 have HR1_0:=zA hr1_0;have HC1_0:=zA hc1_0;clear hr1_0 hc1_0;have BK79:=zA hb_gp1_0;clear hb_gp1_0;have H:((slices_Contains_int_int.f k l1_0 a0).bind fun t67=>(some (!t67)))=some r:=h;clear h;obtain ⟨t67,A3,H⟩:=zo H;obtain rfl:=Option.some.inj H;have hcz4_0:w.cell? ⟨gp1_0,0,none⟩=some (.slice A1_0 l1_0.length c1_0):=zc0 BK79;have hfz4_0:=zf BK79 0
 go_enter Tryz.func101,Tryz.ntmps101
 go_wp2_with (first|((with_reducible refine gate_callee (f:=72) rfl ?_);refine zgo 6 Tryz.func72 #[.slice A1_0 l1_0.length c1_0,.int .i64 a0] ?_;(with_reducible refine (slices_Contains_int_int.calls k _ _ l1_0 a0 t67 _ ?side1 HC1_0.out A3.out).mono ?_);(case side1=>repeat (first|exact HR1_0.out|(with_reducible refine Kd.C_alloc ?_ _)|(with_reducible refine Kd.C_drewN ?_ _)|(with_reducible refine Kd.C_drew ?_)));rintro e w' ⟨rfl,⟨nd,rfl⟩⟩;refine ⟨_,rfl,?_⟩))
 go_ret
 exact ⟨by first|rfl|(simp;done)|(simp [*];done),by repeat (first|exact Drawn0.refl _|apply Drawn0.step)⟩
def slices_IndexFunc_int_int_conflict_part_1.l0:Nat→List Int→Int→Int→List Int→Option (Int)
 | 0,_,_,_,_=>none
 | k+1,x0,x7,x8,x68=>if x8<x7 then (if 0≤x8 then (if x8<(x0.length:Int) then ((conflict_part_1_v1.f k (rd x0 x8) x68).bind fun t73=>(if t73=true then (some x8) else (slices_IndexFunc_int_int_conflict_part_1.l0 k x0 x7 (wrap64 (x8+1)) x68))) else (none)) else (none)) else (some (-1))
def slices_IndexFunc_int_int_conflict_part_1.f (k:Nat) (l0:List Int) (l1_0:List Int):Option (Int):=slices_IndexFunc_int_int_conflict_part_1.l0 k l0 (l0.length:Int) 0 l1_0
set_option maxHeartbeats 8000000 in
set_option maxRecDepth 100000 in
theorem slices_IndexFunc_int_int_conflict_part_1.calls (k:Nat) (A0:Option Addr) (c0:Nat) (l0:List Int) (gp1_0:Nat) (A1_0:Option Addr) (c1_0:Nat) (l1_0:List Int) (r:Int) (w:World) (hr0:Kd.C (Kd.int .i64) w A0 l0.length l0) (hc0:l0.length≤c0) (hr1_0:Kd.C (Kd.int .i64) w A1_0 l1_0.length l1_0) (hc1_0:l1_0.length≤c1_0) (hb_gp1_0:w.heap[gp1_0]?=some (.cells #[.slice A1_0 l1_0.length c1_0] 23 (0,0))) (h:slices_IndexFunc_int_int_conflict_part_1.f k l0 l1_0=some r) :
  Calls Tryz.prog 115 #[.slice A0 l0.length c0,.func (.func 101) #[] #[.pointer (some ⟨gp1_0,0,none⟩)]] w fun e w'=>e=.returned (.int .i64 r)∧Below w.heap.size w w':=by
 have HR0:=zA hr0;have HC0:=zA hc0;clear hr0 hc0;have HR1_0:=zA hr1_0;have HC1_0:=zA hc1_0;clear hr1_0 hc1_0;have BK74:=zA hb_gp1_0;clear hb_gp1_0;have HB:=zA (Below.refl w.heap.size w);have H:(slices_IndexFunc_int_int_conflict_part_1.l0 k l0 (l0.length:Int) 0 l1_0)=some r:=h;clear h;have H':=zA H;clear H
 go_enter Tryz.func115,Tryz.ntmps115
 go_wp2
 go_loopg [8] k (fun kq v8 w'=>∃ (x8_1:Int),v8=.int .i64 x8_1∧Aside0 (slices_IndexFunc_int_int_conflict_part_1.l0 kq l0 (l0.length:Int) x8_1 l1_0=some r)∧Aside0 (kq≤k)∧Aside0 (w'.heap[gp1_0]?=some (.cells #[(.slice A1_0 l1_0.length c1_0)] 23 (0,0)))∧Aside0 (Below w.heap.size w w'))
 case atStart=>exact ⟨(0),zT,H',⟨Nat.le_refl _⟩,⟨by refine zj ?_;exact BK74.out⟩,⟨zv0 HB⟩⟩
 case round=>
  clear H';obtain ⟨x8_1,rfl,HA,HK1,BK74,HB⟩:=hrel
  cases gk with
  | zero=>exact absurd HA.out (by simp [slices_IndexFunc_int_int_conflict_part_1.l0])
  | succ k1=>
   have H:=HA.out;clear HA;simp only [slices_IndexFunc_int_int_conflict_part_1.l0] at H
   rcases ifd H with ⟨c3b0,H⟩|⟨c3b0,H⟩
   ·obtain ⟨c4b0,H⟩:=ifd1 H;obtain ⟨c5b0,H⟩:=ifd1 H;obtain ⟨t73,A6,H⟩:=zo H;have HC7:=zA H;clear H;obtain ⟨p53,q53,ad53,e53,hx53_0⟩:=zp (Kd.at_int HR0.out x8_1)
    cases e53
    replace hx53_0:=zd HB hx53_0;replace p53:=eq_true p53;replace q53:=eq_true q53
    go_upto_if 16 with (first|(go_at_call 101;(with_reducible refine (conflict_part_1_v1.calls k1 (rd l0 x8_1) gp1_0 A1_0 c1_0 l1_0 t73 _ (zD HR1_0 HB) HC1_0.out ?side3 A6.out).mono ?_);(case side3=>refine zj ?_;exact BK74.out);rintro e w' ⟨rfl,⟨nd,rfl⟩⟩))
    (try simp only [Act.put,zi,zs,zt]);have H:=HC7.out;clear HC7
    by_cases c8:t73=true
    ·subst c8
     have H1:(some x8_1)=some r:=by rw [if_pos rfl] at H;exact H
     clear H;have H:=H1;clear H1;obtain rfl:=Option.some.inj H
     go_wp2
     go_ret
     exact ⟨ze,zv0 HB⟩
    ·replace c8:=Bool.eq_false_iff.mpr c8;subst c8
     have H1:(slices_IndexFunc_int_int_conflict_part_1.l0 k1 l0 (l0.length:Int) (wrap64 (x8_1+1)) l1_0)=some r:=by rw [if_neg (show ¬ (false=true) by decide)] at H;exact H
     clear H;have H:=H1;clear H1;have H':=zA H;clear H
     go_wp2
     go_roundg k1
     case measure=>have:=HK1.out;omega
     case rel=>exact ⟨(wrap64 (x8_1+1)),zT,H',⟨by have:=HK1.out;omega⟩,⟨by refine zj ?_;exact BK74.out⟩,⟨zv0 HB⟩⟩
   ·obtain rfl:=Option.some.inj H
    go_wp2
    go_ret
    exact ⟨ze,zv0 HB⟩
def slices_ContainsFunc_int_int_conflict_part_1.f (k:Nat) (l0:List Int) (l1_0:List Int):Option (Bool):=(slices_IndexFunc_int_int_conflict_part_1.f k l0 l1_0).bind fun t69=>(some (decide (t69≥0)))
set_option maxHeartbeats 8000000 in
set_option maxRecDepth 100000 in
theorem slices_ContainsFunc_int_int_conflict_part_1.calls (k:Nat) (A0:Option Addr) (c0:Nat) (l0:List Int) (gp1_0:Nat) (A1_0:Option Addr) (c1_0:Nat) (l1_0:List Int) (r:Bool) (w:World) (hr0:Kd.C (Kd.int .i64) w A0 l0.length l0) (hc0:l0.length≤c0) (hr1_0:Kd.C (Kd.int .i64) w A1_0 l1_0.length l1_0) (hc1_0:l1_0.length≤c1_0) (hb_gp1_0:w.heap[gp1_0]?=some (.cells #[.slice A1_0 l1_0.length c1_0] 23 (0,0))) (h:slices_ContainsFunc_int_int_conflict_part_1.f k l0 l1_0=some r) :
  Calls Tryz.prog 100 #[.slice A0 l0.length c0,.func (.func 101) #[] #[.pointer (some ⟨gp1_0,0,none⟩)]] w fun e w'=>e=.returned (.bool r)∧Below w.heap.size w w':=by
 have HR0:=zA hr0;have HC0:=zA hc0;clear hr0 hc0;have HR1_0:=zA hr1_0;have HC1_0:=zA hc1_0;clear hr1_0 hc1_0;have BK77:=zA hb_gp1_0;clear hb_gp1_0;have HB:=zA (Below.refl w.heap.size w);have H:((slices_IndexFunc_int_int_conflict_part_1.f k l0 l1_0).bind fun t69=>(some (decide (t69≥0))))=some r:=h;clear h;obtain ⟨t69,A3,H⟩:=zo H;obtain rfl:=Option.some.inj H
 go_enter Tryz.func100,Tryz.ntmps100
 go_wp2_with (first|((with_reducible refine gate_callee (f:=115) rfl ?_);refine zgo 7 Tryz.func115 #[.slice A0 l0.length c0,.func (.func 101) #[] #[.pointer (some ⟨gp1_0,0,none⟩)]] ?_;(with_reducible refine (slices_IndexFunc_int_int_conflict_part_1.calls k _ _ l0 gp1_0 A1_0 c1_0 l1_0 t69 _ ?side1 HC0.out ?side3 HC1_0.out ?side5 A3.out).mono ?_);(case side1=>repeat (first|exact HR0.out|(with_reducible refine Kd.C_alloc ?_ _)|(with_reducible refine Kd.C_drewN ?_ _)|(with_reducible refine Kd.C_drew ?_)));(case side3=>repeat (first|exact HR1_0.out|(with_reducible refine Kd.C_alloc ?_ _)|(with_reducible refine Kd.C_drewN ?_ _)|(with_reducible refine Kd.C_drew ?_)));(case side5=>refine zj ?_;exact BK77.out);rintro e w4 ⟨rfl,hb⟩;refine ⟨_,rfl,?_⟩;replace BK77:=zw BK77 hb;replace HB:=zu hb;clear hb))
 go_ret
 exact ⟨ze,zv0 HB⟩
def conflict_part.f (k:Nat) (l0:List Int) (l1:List Int):Option (Bool):=(slices_ContainsFunc_int_int_conflict_part_1.f k l0 l1).bind fun t70=>(some (!t70))
set_option maxHeartbeats 8000000 in
set_option maxRecDepth 100000 in
theorem conflict_part.calls (k:Nat) (A0:Option Addr) (c0:Nat) (l0:List Int) (A1:Option Addr) (c1:Nat) (l1:List Int) (r:Bool) (w:World) (hr0:Kd.C (Kd.int .i64) w A0 l0.length l0) (hc0:l0.length≤c0) (hr1:Kd.C (Kd.int .i64) w A1 l1.length l1) (hc1:l1.length≤c1) (h:conflict_part.f k l0 l1=some r) :
  Calls Tryz.prog 84 #[.slice A0 l0.length c0,.slice A1 l1.length c1] w fun e w'=>e=.returned (.bool r)∧Below w.heap.size w w':=by
 have HR0:=zA hr0;have HC0:=zA hc0;clear hr0 hc0;have HR1:=zA hr1;have HC1:=zA hc1;clear hr1 hc1;have HB:=zA (Below.refl w.heap.size w);have H:((slices_ContainsFunc_int_int_conflict_part_1.f k l0 l1).bind fun t70=>(some (!t70)))=some r:=h;clear h;obtain ⟨t70,A3,H⟩:=zo H;obtain rfl:=Option.some.inj H
 go_enter Tryz.func84,Tryz.ntmps84
 go_wp2_with (first|((with_reducible refine gd 3 rfl ?_);refine zx #[.slice A1 l1.length c1] 23 ?_;intro gb55 hg w4 BK55 hb GW55 HB1;have GE55:=GW55;clear HB hb hg;have HB:=HB1;clear HB1)|((with_reducible refine gate_callee (f:=100) rfl ?_);refine zgo 7 Tryz.func100 #[.slice A0 l0.length c0,.func (.func 101) #[] #[.pointer (some ⟨gb55,0,none⟩)]] ?_;(with_reducible refine (slices_ContainsFunc_int_int_conflict_part_1.calls k _ _ l0 gb55 A1 c1 l1 t70 _ (zD HR0 HB) HC0.out (zD HR1 HB) HC1.out ?side5 A3.out).mono ?_);(case side5=>refine zj ?_;exact BK55.out);rintro e w5 ⟨rfl,hb⟩;refine ⟨_,rfl,?_⟩;replace BK55:=zw BK55 hb;replace HB:=zu hb;clear hb))
 go_ret
 exact ⟨ze,zv1 HB GE55⟩
def conflict_system.l0:Nat→List (S49)→List (S49)→List Int→Int→Int→Option ((List (S49)))
 | 0,_,_,_,_,_=>none
 | k+1,x0,x5,x8,x9,x10=>if x10<x9 then (if 0≤x10 then (if x10<(x8.length:Int) then (if 0≤(rd x8 x10) then (if (rd x8 x10)<(x0.length:Int) then (if x5.length<2932031007402 then (conflict_system.l0 k x0 (x5++[(⟨(rd_T49 x0 (rd x8 x10)).f0,(rd_T49 x0 (rd x8 x10)).f1⟩:S49)]) x8 x9 (wrap64 (x10+1))) else (none)) else (none)) else (none)) else (none)) else (none)) else (some x5)
def conflict_system.f (k:Nat) (l0:List (S49)) (l1:List Int):Option ((List (S49))):=conflict_system.l0 k l0 ([]:List (S49)) l1 (l1.length:Int) 0
set_option maxHeartbeats 8000000 in
set_option maxRecDepth 100000 in
theorem conflict_system.calls (k:Nat) (P0_:Nat→Prop) (A0:Option Addr) (c0:Nat) (l0:List (S49)) (A1:Option Addr) (c1:Nat) (l1:List Int) (r:List (S49)) (w:World) (hs0:Kd.V k49 49 w w.heap.size (fun k_=>P0_ k_) (.slice A0 l0.length c0) l0) (hr1:Kd.C (Kd.int .i64) w A1 l1.length l1) (hc1:l1.length≤c1) (h:conflict_system.f k l0 l1=some r) :
  Calls Tryz.prog 32 #[.slice A0 l0.length c0,.slice A1 l1.length c1] w fun e w'=>∃ v0_:Value,e=.returned (v0_)∧Kd.N k49 49 w' w.heap.size (fun k_=>(P0_ k_∨w.heap.size≤k_)) v0_ r∧Below w.heap.size w w':=by
 have HO0:=zA (show Kd.V k49 49 w w.heap.size (fun k_=>(P0_ k_∨w.heap.size≤k_)) (.slice A0 l0.length c0) l0 from Kd.V_mono hs0 (fun k_ hk=>.inl hk));have HR1:=zA hr1;have HC1:=zA hc1;clear hr1 hc1;have HB:=zA (Below.refl w.heap.size w);have H:(conflict_system.l0 k l0 ([]:List (S49)) l1 (l1.length:Int) 0)=some r:=h;clear h;have H':=zA H;clear H
 go_enter Tryz.func32,Tryz.ntmps32
 go_wp2
 go_loopg [5,10] k (fun kq v5 v10 w'=>∃ (x5_1:List (S49)) (x10_1:Int),v10=.int .i64 x10_1∧Aside0 (conflict_system.l0 kq l0 x5_1 l1 (l1.length:Int) x10_1=some r)∧Aside0 (kq≤k)∧Aside0 (Kd.V k49 49 w' w.heap.size (fun k_=>(P0_ k_∨w.heap.size≤k_)∧some k_≠(v5:Value).ownBlock) (.slice A0 l0.length c0) l0)∧Aside0 (Kd.N k49 49 w' w.heap.size (fun k_=>(P0_ k_∨w.heap.size≤k_)) v5 x5_1)∧Aside0 (Below w.heap.size w w'))
 case atStart=>exact ⟨(([]:List (S49))),(0),zT,H',⟨Nat.le_refl _⟩,⟨by (with_reducible repeat (first|apply Kd.V_alloc|apply Kd.V_drewN|apply Kd.V_drew));exact Kd.V_mono HO0.out (fun _ hk=>⟨hk,(by simp [Value.ownBlock])⟩)⟩,⟨by first|exact Kd.S_nil _ _ _ _ _|exact Kd.N_nil _ _ _ _ _|exact Kd.V_nil _ _ _ _ _|exact Kd.Q_nil _ _ _ _ _|exact Kd.R_nil _ _ _ _ _⟩,⟨zv0 HB⟩⟩
 case round=>
  clear H';obtain ⟨x5_1,x10_1,rfl,HA,HK1,HO_0,HO_5,HB⟩:=hrel
  cases gk with
  | zero=>exact absurd HA.out (by simp [conflict_system.l0])
  | succ k1=>
   have H:=HA.out;clear HA;simp only [conflict_system.l0] at H
   rcases ifd H with ⟨c3b0,H⟩|⟨c3b0,H⟩
   ·obtain ⟨c4b0,H⟩:=ifd1 H;obtain ⟨c5b0,H⟩:=ifd1 H;obtain ⟨c6b0,H⟩:=ifd1 H;obtain ⟨c7b0,H⟩:=ifd1 H;obtain ⟨c8,H⟩:=if1 H;have LMc8:=zA c8;clear c8
    first|(replace H:=zyb (x5_1++[(⟨(rd_T49 l0 (rd l1 x10_1)).f0,(rd_T49 l0 (rd l1 x10_1)).f1⟩:S49)]) H;obtain ⟨y59,Ny59,H⟩:=H)|(obtain ⟨y59,hy59⟩:=zY (x5_1++[(⟨(rd_T49 l0 (rd l1 x10_1)).f0,(rd_T49 l0 (rd l1 x10_1)).f1⟩:S49)]);(try rw (occs:=.pos [1]) [← hy59] at H);have Ny59:=zA hy59;clear hy59)
    have H':=zA H;clear H;obtain ⟨p54,q54,ad54,e54,hx54_0⟩:=zp (Kd.at_int HR1.out x10_1)
    cases e54
    replace hx54_0:=zd HB hx54_0;replace p54:=eq_true p54;replace q54:=eq_true q54;obtain ⟨p34,q34,ad34,A34_0,c34_0,A34_1,c34_1,e34,hx34_0,hx34_1,hl34_0,hi34_0,hl34_1,hi34_1⟩:=zp (at_T49 (Kd.V_reads' HO_0.out).2.2 (rd l1 x10_1))
    cases e34
    obtain ⟨ce34,hce34,hMe34,hcc34⟩:=Kd.V_get HO_0.out z49 (rd l1 x10_1) p34 (by first|exact q34|exact of_decide_eq_true zh|(have e_:=(Kd.V_reads' HO_0.out).1;omega));obtain ⟨ua34_0,uc34_0,ua34_1,uc34_1,rfl,ul34_0,ge34_0,ul34_1,ge34_1⟩:=k49_openF hMe34;have hv34_0:=hcc34 0 _ rfl;rw [Nat.add_zero] at hv34_0;replace hv34_0:=Option.some.inj (hv34_0.symm.trans hx34_0)
    injection hv34_0 with hva_ hvn_ hvc_
    rw [hva_] at ge34_0;rw [hvc_] at ul34_0;have HL34_0:=zA (show Kd.V (Kd.int .i64) 3 _ w.heap.size _ _ ((rd_T49 l0 (rd l1 x10_1)).f0) from Kd.V_mk ul34_0 ge34_0);clear hva_ hvn_ hvc_ ge34_0 ul34_0;have hv34_1:=hcc34 1 _ rfl;rw [add_field _ _ 1 (by omega)] at hv34_1;replace hv34_1:=Option.some.inj (hv34_1.symm.trans hx34_1)
    injection hv34_1 with hva_ hvn_ hvc_
    rw [hva_] at ge34_1;rw [hvc_] at ul34_1;have HL34_1:=zA (show Kd.V (Kd.int .i64) 3 _ w.heap.size _ _ ((rd_T49 l0 (rd l1 x10_1)).f1) from Kd.V_mk ul34_1 ge34_1);clear hva_ hvn_ hvc_ ge34_1 ul34_1;clear hcc34 hce34;have HR34_0:=zA hi34_0;have HC34_0:=zA hl34_0;clear hi34_0 hl34_0;have HR34_1:=zA hi34_1;have HC34_1:=zA hl34_1;clear hi34_1 hl34_1;replace p34:=eq_true p34;replace q34:=eq_true q34
    go_wp2_with (first|((with_reducible refine gate_builtin (b:=.append) (xs:=#[.tmp 14,.tmp 19]) rfl ?_);at_builtin;refine Kd.N_append k49 (w0:=w) w.heap.size rfl (.tmp 14) (.tmp 19) 22 49 (.agg #[(.slice none 0 0),(.slice none 0 0)]) 48 rfl Tryz.underlying22 info49 rfl (by decide) (by omega) u5 x5_1 (⟨(rd_T49 l0 (rd l1 x10_1)).f0,(rd_T49 l0 (rd l1 x10_1)).f1⟩:S49) [.slice A34_0 ((rd_T49 l0 (rd l1 x10_1)).f0).length c34_0,.slice A34_1 ((rd_T49 l0 (rd l1 x10_1)).f1).length c34_1] (fun k_=>(P0_ k_∨w.heap.size≤k_)) (fun k_=>((fun k_=>(P0_ k_∨w.heap.size≤k_))) k_∧some k_≠(u5:Value).ownBlock) rfl rfl ?aP (fun _ hk=>hk) ?aF ?aO ?aB ?aS ?aL ?_;(case aP=>exact (k49_mkF _ _ (⟨(rd_T49 l0 (rd l1 x10_1)).f0,(rd_T49 l0 (rd l1 x10_1)).f1⟩:S49) (Kd.V_reads' (Kd.V_mono (ok':=(fun k_=>((fun k_=>(P0_ k_∨w.heap.size≤k_))) k_∧some k_≠(u5:Value).ownBlock)) (HL34_0.out) (fun k_ hk=>⟨hk.1,hk.2⟩))).2.1 (Kd.V_F (Kd.V_mono (ok':=(fun k_=>((fun k_=>(P0_ k_∨w.heap.size≤k_))) k_∧some k_≠(u5:Value).ownBlock)) (HL34_0.out) (fun k_ hk=>⟨hk.1,hk.2⟩))) (Kd.V_reads' (Kd.V_mono (ok':=(fun k_=>((fun k_=>(P0_ k_∨w.heap.size≤k_))) k_∧some k_≠(u5:Value).ownBlock)) (HL34_1.out) (fun k_ hk=>⟨hk.1,hk.2⟩))).2.1 (Kd.V_F (Kd.V_mono (ok':=(fun k_=>((fun k_=>(P0_ k_∨w.heap.size≤k_))) k_∧some k_≠(u5:Value).ownBlock)) (HL34_1.out) (fun k_ hk=>⟨hk.1,hk.2⟩)))));(case aB=>exact zB);(case aF=>exact (fun k_ hk=>(.inr (Nat.le_trans (below_size zB) hk))));(case aO=>exact (zN HO_5));(case aS=>exact (below_size zB));(case aL=>have:=LMc8.out;omega);intro v90 w9 ho hb hg hat;rw [← Ny59.out] at ho;have HO85:=zA (ho);replace HO_0:=zA (Kd.V_afterv (ok:=(fun k_=>(P0_ k_∨w.heap.size≤k_))) (zV HO_0) hg hat);replace HL34_0:=zA (Kd.V_afterv (ok:=(fun k_=>(P0_ k_∨w.heap.size≤k_))) (by (with_reducible repeat (first|apply Kd.V_alloc|apply Kd.V_drewN|apply Kd.V_drew));exact HL34_0.out) hg hat);replace HL34_1:=zA (Kd.V_afterv (ok:=(fun k_=>(P0_ k_∨w.heap.size≤k_))) (by (with_reducible repeat (first|apply Kd.V_alloc|apply Kd.V_drewN|apply Kd.V_drew));exact HL34_1.out) hg hat);replace HB:=zA (hb);clear HO_5;clear ho hb hg hat))
    go_roundg k1
    case measure=>have:=HK1.out;omega
    case rel=>exact ⟨(y59),(wrap64 (x10_1+1)),zT,H',⟨by have:=HK1.out;omega⟩,⟨by (with_reducible repeat (first|apply Kd.V_alloc|apply Kd.V_drewN|apply Kd.V_drew));exact HO_0.out⟩,⟨by (with_reducible repeat (first|apply Kd.N_alloc|apply Kd.N_drewN|apply Kd.N_drew));exact HO85.out⟩,⟨zv0 HB⟩⟩
   ·obtain rfl:=Option.some.inj H
    go_wp2
    go_ret
    exact ⟨_,ze,by (with_reducible repeat (first|apply Kd.N_alloc|apply Kd.N_drewN|apply Kd.N_drew));exact HO_5.out,zv0 HB⟩
end Go.Proofs.YtkjghablbeaioaaGreat.B
