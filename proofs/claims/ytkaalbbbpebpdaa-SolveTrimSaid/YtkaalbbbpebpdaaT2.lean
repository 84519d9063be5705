import Derived.Test.YtkaalbbbpebpdaaT0
namespace Go.Proofs.Ytkaalbbbpebpdaa.T
open Go.RowKit Go.Proofs.YtkaalbbbpebpdaaW.PrintWords Go.Proofs.YtkaalbbbpebpdaaW.PrintLast Go.Proofs.YtkaalbbbpebpdaaW.PrintMore
attribute [local go_sem] max2_int min2_int max_two min_two max_three min_three max_four min_four Try.underlying23 Try.underlying25 Try.underlying3 Try.underlying33 Try.underlying35 Try.underlying4 Try.underlying48 Try.underlying55
set_option linter.unusedVariables false
set_option linter.unusedSimpArgs false
def table_ascending.l0:Nat→List Int→List Int→Int→Int→Option (Int)
 | 0,_,_,_,_=>none
 | k+1,x0,x8,x9,x10=>if x10<x9 then (if 0≤x10 then (if x10<(x8.length:Int) then (if (rd x8 x10)<0 then (some 6) else (if (rd x8 x10)≥24 then (some 6) else (if x10>0 then (if 0≤(wrap64 (x10 - 1)) then (if (wrap64 (x10 - 1))<(x0.length:Int) then (if (rd x0 (wrap64 (x10 - 1)))≥(rd x8 x10) then (some 18) else (table_ascending.l0 k x0 x8 x9 (wrap64 (x10+1)))) else (none)) else (none)) else (table_ascending.l0 k x0 x8 x9 (wrap64 (x10+1)))))) else (none)) else (none)) else (some 0)
def table_ascending.f (k:Nat) (l0:List Int):Option (Int):=if (l0.length:Int)>10 then (some 3) else (table_ascending.l0 k l0 l0 (l0.length:Int) 0)
set_option maxHeartbeats 8000000 in
set_option maxRecDepth 100000 in
theorem table_ascending.calls (k:Nat) (A0:Option Addr) (c0:Nat) (l0:List Int) (r:Int) (w:World) (hr0:Kd.C (Kd.int .i64) w A0 l0.length l0) (hc0:l0.length≤c0) (h:table_ascending.f k l0=some r) :
  Calls Try.prog 41 #[.slice A0 l0.length c0] w fun e w'=>e=.returned (.int .i64 r)∧Drawn0 w w':=by
 have HR0:=zA hr0;have HC0:=zA hc0;clear hr0 hc0;have H:(if (l0.length:Int)>10 then (some 3) else (table_ascending.l0 k l0 l0 (l0.length:Int) 0))=some r:=h;clear h
 rcases if0 H with ⟨c2,H⟩|⟨c2,H⟩
 ·have c2b0:decide (10<(l0.length:Int))=true:=decide_eq_true c2;have c2b1:decide (10<l0.length)=true:=decide_eq_true (by omega);clear c2;obtain rfl:=Option.some.inj H
  go_enter Try.func41,Try.ntmps41
  go_wp2
  go_ret
  exact ⟨by first|rfl|(simp;done)|(simp [*];done),by repeat (first|exact Drawn0.refl _|apply Drawn0.step)⟩
 ·have c2b0:decide (10<(l0.length:Int))=false:=decide_eq_false c2;have c2b1:decide (10<l0.length)=false:=decide_eq_false (by omega);clear c2;have H':=zA H;clear H
  go_enter Try.func41,Try.ntmps41
  go_wp2
  go_loopg [10] k (fun kq v10 w'=>∃ (x10_1:Int),v10=.int .i64 x10_1∧Aside0 (table_ascending.l0 kq l0 l0 (l0.length:Int) x10_1=some r)∧Aside0 (kq≤k)∧Drawn0 w w')
  case atStart=>exact ⟨(0),zT,H',⟨Nat.le_refl _⟩,by repeat (first|exact Drawn0.refl _|apply Drawn0.step)⟩
  case round=>
   clear H'
   try clear c2
   try clear c2b0
   try clear c2b1
   obtain ⟨x10_1,rfl,HA,HK1,⟨m1,rfl⟩⟩:=hrel
   cases gk with
   | zero=>exact absurd HA.out (by simp [table_ascending.l0])
   | succ k1=>
    have H:=HA.out;clear HA;simp only [table_ascending.l0] at H
    rcases ifd H with ⟨c3b0,H⟩|⟨c3b0,H⟩
    ·obtain ⟨c4b0,H⟩:=ifd1 H;obtain ⟨c5b0,H⟩:=ifd1 H
     rcases ifd H with ⟨c6b0,H⟩|⟨c6b0,H⟩
     ·obtain rfl:=Option.some.inj H;obtain ⟨p76,q76,ad76,e76,hx76_0⟩:=zp (Kd.at_int HR0.out x10_1)
      cases e76
      replace p76:=eq_true p76;replace q76:=eq_true q76
      go_wp2
      go_ret
      exact ⟨by first|rfl|(simp;done)|(simp [*];done),by repeat (first|exact Drawn0.refl _|apply Drawn0.step)⟩
     ·rcases if0 H with ⟨c7,H⟩|⟨c7,H⟩
      ·have c7b0:decide (24≤(rd l0 x10_1))=true:=decide_eq_true c7;clear c7;obtain rfl:=Option.some.inj H;obtain ⟨p76,q76,ad76,e76,hx76_0⟩:=zp (Kd.at_int HR0.out x10_1)
       cases e76
       replace p76:=eq_true p76;replace q76:=eq_true q76
       go_wp2
       go_ret
       exact ⟨by first|rfl|(simp;done)|(simp [*];done),by repeat (first|exact Drawn0.refl _|apply Drawn0.step)⟩
      ·have c7b0:decide (24≤(rd l0 x10_1))=false:=decide_eq_false c7;clear c7
       rcases if0 H with ⟨c8,H⟩|⟨c8,H⟩
       ·have c8b0:decide (0<x10_1)=true:=decide_eq_true c8;clear c8;obtain ⟨ji9,hji9⟩:=zZ (wrap64 (x10_1 - 1))
        first|rw [hji9] at H|simp only [hji9] at H
        have hji9w:(IntKind.i64.wrap (x10_1 - 1))=ji9:=(i64_w _).trans hji9;obtain ⟨c10b0,H⟩:=ifd1 H;obtain ⟨c11b0,H⟩:=ifd1 H
        rcases if0 H with ⟨c12,H⟩|⟨c12,H⟩
        ·have c12b0:decide ((rd l0 x10_1)≤(rd l0 (ji9)))=true:=decide_eq_true c12;clear c12;obtain rfl:=Option.some.inj H;obtain ⟨p76,q76,ad76,e76,hx76_0⟩:=zp (Kd.at_int HR0.out x10_1)
         cases e76
         replace p76:=eq_true p76;replace q76:=eq_true q76;obtain ⟨p86,q86,ad86,e86,hx86_0⟩:=zp (Kd.at_int HR0.out (ji9))
         obtain rfl:ad76=ad86:=(by injection e86)
         replace p86:=eq_true p86;replace q86:=eq_true q86
         go_wp2
         go_ret
         exact ⟨by first|rfl|(simp;done)|(simp only [← hji9] <;> (first|rfl|simp))|(simp [*];done),by repeat (first|exact Drawn0.refl _|apply Drawn0.step)⟩
        ·have c12b0:decide ((rd l0 x10_1)≤(rd l0 (ji9)))=false:=decide_eq_false c12;clear c12;have H':=zA H;clear H;obtain ⟨p76,q76,ad76,e76,hx76_0⟩:=zp (Kd.at_int HR0.out x10_1)
         cases e76
         replace p76:=eq_true p76;replace q76:=eq_true q76;obtain ⟨p86,q86,ad86,e86,hx86_0⟩:=zp (Kd.at_int HR0.out (ji9))
         obtain rfl:ad76=ad86:=(by injection e86)
         replace p86:=eq_true p86;replace q86:=eq_true q86
         go_wp2
         go_roundg k1
         case measure=>have:=HK1.out;omega
         case rel=>exact ⟨(wrap64 (x10_1+1)),zT,H',⟨by have:=HK1.out;omega⟩,by repeat (first|exact Drawn0.refl _|apply Drawn0.step)⟩
       ·have c8b0:decide (0<x10_1)=false:=decide_eq_false c8;clear c8;have H':=zA H;clear H;obtain ⟨p76,q76,ad76,e76,hx76_0⟩:=zp (Kd.at_int HR0.out x10_1)
        cases e76
        replace p76:=eq_true p76;replace q76:=eq_true q76
        go_wp2
        go_roundg k1
        case measure=>have:=HK1.out;omega
        case rel=>exact ⟨(wrap64 (x10_1+1)),zT,H',⟨by have:=HK1.out;omega⟩,by repeat (first|exact Drawn0.refl _|apply Drawn0.step)⟩
    ·obtain rfl:=Option.some.inj H
     go_wp2
     go_ret
     exact ⟨by first|rfl|(simp;done)|(simp [*];done),by repeat (first|exact Drawn0.refl _|apply Drawn0.step)⟩
def table_Valid.l0:Nat→List Int→Int→Int→List Int→List Int→Option (Int)
 | 0,_,_,_,_,_=>none
 | k+1,x13,x14,x15,x95,x94=>if x15<x14 then (if 0≤x15 then (if x15<(x13.length:Int) then (if (rd x13 x15)<0 then (some 6) else (if (rd x13 x15)≥(shl .i64 1 (x95.length:Int)) then (some 6) else (if x15>0 then (if 0≤(wrap64 (x15 - 1)) then (if (wrap64 (x15 - 1))<(x94.length:Int) then (if (rd x94 (wrap64 (x15 - 1)))≥(rd x13 x15) then (some 18) else (table_Valid.l0 k x13 x14 (wrap64 (x15+1)) x95 x94)) else (none)) else (none)) else (table_Valid.l0 k x13 x14 (wrap64 (x15+1)) x95 x94)))) else (none)) else (none)) else (some 0)
def table_Valid.f (k:Nat) (l0_0:List Int) (l0_1:List Int):Option (Int):=(table_ascending.f k l0_0).bind fun t96=>(if t96=0 then (table_Valid.l0 k l0_1 (l0_1.length:Int) 0 l0_0 l0_1) else (some t96))
set_option maxHeartbeats 8000000 in
set_option maxRecDepth 100000 in
theorem table_Valid.calls (k:Nat) (A0_0:Option Addr) (c0_0:Nat) (l0_0:List Int) (A0_1:Option Addr) (c0_1:Nat) (l0_1:List Int) (r:Int) (w:World) (hr0_0:Kd.C (Kd.int .i64) w A0_0 l0_0.length l0_0) (hc0_0:l0_0.length≤c0_0) (hr0_1:Kd.C (Kd.int .i64) w A0_1 l0_1.length l0_1) (hc0_1:l0_1.length≤c0_1) (h:table_Valid.f k l0_0 l0_1=some r) :
  Calls Try.prog 26 #[.agg #[.slice A0_0 l0_0.length c0_0,.slice A0_1 l0_1.length c0_1]] w fun e w'=>e=.returned (.int .i64 r)∧Below w.heap.size w w':=by
 have HR0_0:=zA hr0_0;have HC0_0:=zA hc0_0;clear hr0_0 hc0_0;have HR0_1:=zA hr0_1;have HC0_1:=zA hc0_1;clear hr0_1 hc0_1;have HB:=zA (Below.refl w.heap.size w);have H:((table_ascending.f k l0_0).bind fun t96=>(if t96=0 then (table_Valid.l0 k l0_1 (l0_1.length:Int) 0 l0_0 l0_1) else (some t96)))=some r:=h;clear h;obtain ⟨t96,A2,H⟩:=zo H;have HC3:=zA H;clear H
 go_enter Try.func26,Try.ntmps26
 go_upto_if 10 with (first|((with_reducible refine gd 1 rfl ?_);(try (refine gate_guard (by rfl) ?_;dsimp only));refine zx #[.slice A0_0 l0_0.length c0_0,.slice A0_1 l0_1.length c0_1] 35 ?_;intro gb78 hg w4 BK78 hb GW78 HB1;have GE78:=GW78;clear HB hb hg;have HB:=HB1;clear HB1;have hcz5_0:=zc0 BK78;have hcz5_1:=zc1 BK78;have hfz5_0:=zf BK78)|((with_reducible refine gate_callee (f:=41) rfl ?_);refine zgo 8 Try.func41 #[.slice A0_0 l0_0.length c0_0] ?_;(with_reducible refine (table_ascending.calls k _ _ l0_0 t96 _ (zD HR0_0 HB) HC0_0.out A2.out).mono ?_);rintro e w' ⟨rfl,⟨nd,rfl⟩⟩;refine ⟨_,rfl,?_⟩))
 (try simp only [Act.put,zi,zs,zt]);have H:=HC3.out;clear HC3
 rcases ife H with ⟨c6b0,c6b1,H⟩|⟨c6,c6b0,c6b1,H⟩
 ·(first|rw [c6b0]|(simp only [i64_w,i32_w];rw [c6b0])|skip)
  (try rw [c6b1]);have H':=zA H;clear H;have hcz7_0:=zc0 BK78;have hcz7_1:=zc1 BK78;have hfz7_0:=zf BK78
  go_wp2
  go_loopg [15] k (fun kq v15 w'=>∃ (x15_1:Int),v15=.int .i64 x15_1∧Aside0 (table_Valid.l0 kq l0_1 (l0_1.length:Int) x15_1 l0_0 l0_1=some r)∧Aside0 (kq≤k)∧Aside0 (w'.heap[gb78]?=some (.cells #[(.slice A0_0 l0_0.length c0_0),(.slice A0_1 l0_1.length c0_1)] 35 (0,0)))∧Aside0 (Below w.heap.size w w'))
  case atStart=>exact ⟨(0),zT,H',⟨Nat.le_refl _⟩,⟨by refine zj ?_;exact BK78.out⟩,⟨zv1 HB GE78⟩⟩
  case round=>
   clear H'
   try clear c6
   try clear c6b0
   try clear c6b1
   try clear hcz5_0
   try clear hcz5_1
   try clear hcz7_0
   try clear hcz7_1
   try clear hfz5_0
   try clear hfz5_1
   try clear hfz7_0
   try clear hfz7_1
   obtain ⟨x15_1,rfl,HA,HK1,BK78,HB⟩:=hrel
   cases gk with
   | zero=>exact absurd HA.out (by simp [table_Valid.l0])
   | succ k1=>
    have H:=HA.out;clear HA;simp only [table_Valid.l0] at H
    rcases ifd H with ⟨c8b0,H⟩|⟨c8b0,H⟩
    ·obtain ⟨c9b0,H⟩:=ifd1 H;obtain ⟨c10b0,H⟩:=ifd1 H
     rcases ifd H with ⟨c11b0,H⟩|⟨c11b0,H⟩
     ·obtain rfl:=Option.some.inj H;obtain ⟨p75,q75,ad75,e75,hx75_0⟩:=zp (Kd.at_int HR0_1.out x15_1)
      cases e75
      replace hx75_0:=zd HB hx75_0;replace p75:=eq_true p75;replace q75:=eq_true q75
      go_wp2
      go_ret
      exact ⟨ze,zv1 HB GE78⟩
     ·obtain ⟨ji12,hji12⟩:=zZ (shl .i64 1 (l0_0.length:Int))
      first|rw [hji12] at H|simp only [hji12] at H
      have hji12_:(IntKind.i64.wrap (1 * 2 ^ min (l0_0.length:Int).toNat 64))=ji12:=hji12;have hji12z:(l0_0.length:Int)≤64→(IntKind.i64.wrap (1 * 2 ^ (l0_0.length:Int).toNat))=ji12:=shl_small hji12;have hji12p:(IntKind.i64.wrap (1 * 2 ^ min l0_0.length 64))=ji12:=hji12_;have hji12q:(l0_0.length:Int)≤64→(IntKind.i64.wrap (1 * 2 ^ l0_0.length))=ji12:=hji12z
      have hji12r:(IntKind.i64.wrap (2 ^ min l0_0.length 64))=ji12:=by have h_:=hji12p;rw [Int.one_mul] at h_;exact h_
      have hji12s:(l0_0.length:Int)≤64→(IntKind.i64.wrap (2 ^ l0_0.length))=ji12:=fun hle_=>by have h_:=hji12q hle_;rw [Int.one_mul] at h_;exact h_
      have hji12u:(IntKind.i64.wrap (2 ^ min (l0_0.length:Int).toNat 64))=ji12:=by have h_:=hji12_;rw [Int.one_mul] at h_;exact h_
      have hji12v:(l0_0.length:Int)≤64→(IntKind.i64.wrap (2 ^ (l0_0.length:Int).toNat))=ji12:=fun hle_=>by have h_:=hji12z hle_;rw [Int.one_mul] at h_;exact h_
      have hji12y:(wrap64 (1 * 2 ^ min (l0_0.length:Int).toNat 64))=ji12:=(i64_w _).symm.trans hji12_
      have hji12x:(l0_0.length:Int)≤64→(wrap64 (1 * 2 ^ (l0_0.length:Int).toNat))=ji12:=fun h_=>(i64_w _).symm.trans (hji12z h_)
      rcases if0 H with ⟨c13,H⟩|⟨c13,H⟩
      ·have c13b0:decide ((ji12)≤(rd l0_1 x15_1))=true:=decide_eq_true c13;clear c13;obtain rfl:=Option.some.inj H;obtain ⟨p75,q75,ad75,e75,hx75_0⟩:=zp (Kd.at_int HR0_1.out x15_1)
       cases e75
       replace hx75_0:=zd HB hx75_0;replace p75:=eq_true p75;replace q75:=eq_true q75;have hcz14_0:=zc0 BK78;have hcz14_1:=zc1 BK78;have hfz14_0:=zf BK78
       go_wp2
       go_ret
       exact ⟨by first|rfl|(simp [errW_none,errW_some] <;> rfl)|(simp only [← hji12];first|rfl|(simp [errW_none,errW_some] <;> rfl))|(simp [*,errW_none,errW_some] <;> rfl),zv1 HB GE78⟩
      ·have c13b0:decide ((ji12)≤(rd l0_1 x15_1))=false:=decide_eq_false c13;clear c13
       rcases if0 H with ⟨c15,H⟩|⟨c15,H⟩
       ·have c15b0:decide (0<x15_1)=true:=decide_eq_true c15;clear c15;obtain ⟨ji16,hji16⟩:=zZ (wrap64 (x15_1 - 1))
        first|rw [hji16] at H|simp only [hji16] at H
        have hji16w:(IntKind.i64.wrap (x15_1 - 1))=ji16:=(i64_w _).trans hji16;obtain ⟨c17b0,H⟩:=ifd1 H;obtain ⟨c18b0,H⟩:=ifd1 H
        rcases if0 H with ⟨c19,H⟩|⟨c19,H⟩
        ·have c19b0:decide ((rd l0_1 x15_1)≤(rd l0_1 (ji16)))=true:=decide_eq_true c19;clear c19;obtain rfl:=Option.some.inj H;obtain ⟨p75,q75,ad75,e75,hx75_0⟩:=zp (Kd.at_int HR0_1.out x15_1)
         cases e75
         replace hx75_0:=zd HB hx75_0;replace p75:=eq_true p75;replace q75:=eq_true q75;have hcz20_0:=zc0 BK78;have hcz20_1:=zc1 BK78;have hfz20_0:=zf BK78;obtain ⟨p84,q84,ad84,e84,hx84_0⟩:=zp (Kd.at_int HR0_1.out (ji16))
         obtain rfl:ad75=ad84:=(by injection e84)
         replace hx84_0:=zd HB hx84_0;replace p84:=eq_true p84;replace q84:=eq_true q84
         go_wp2
         go_ret
         exact ⟨by first|rfl|(simp [errW_none,errW_some] <;> rfl)|(simp only [← hji12,← hji16];first|rfl|(simp [errW_none,errW_some] <;> rfl))|(simp [*,errW_none,errW_some] <;> rfl),zv1 HB GE78⟩
        ·have c19b0:decide ((rd l0_1 x15_1)≤(rd l0_1 (ji16)))=false:=decide_eq_false c19;clear c19;have H':=zA H;clear H;obtain ⟨p75,q75,ad75,e75,hx75_0⟩:=zp (Kd.at_int HR0_1.out x15_1)
         cases e75
         replace hx75_0:=zd HB hx75_0;replace p75:=eq_true p75;replace q75:=eq_true q75;have hcz21_0:=zc0 BK78;have hcz21_1:=zc1 BK78;have hfz21_0:=zf BK78;obtain ⟨p84,q84,ad84,e84,hx84_0⟩:=zp (Kd.at_int HR0_1.out (ji16))
         obtain rfl:ad75=ad84:=(by injection e84)
         replace hx84_0:=zd HB hx84_0;replace p84:=eq_true p84;replace q84:=eq_true q84
         go_wp2
         go_roundg k1
         case measure=>have:=HK1.out;omega
         case rel=>exact ⟨(wrap64 (x15_1+1)),zT,H',⟨by have:=HK1.out;omega⟩,⟨by refine zj ?_;exact BK78.out⟩,⟨zv1 HB GE78⟩⟩
       ·have c15b0:decide (0<x15_1)=false:=decide_eq_false c15;clear c15;have H':=zA H;clear H;obtain ⟨p75,q75,ad75,e75,hx75_0⟩:=zp (Kd.at_int HR0_1.out x15_1)
        cases e75
        replace hx75_0:=zd HB hx75_0;replace p75:=eq_true p75;replace q75:=eq_true q75;have hcz22_0:=zc0 BK78;have hcz22_1:=zc1 BK78;have hfz22_0:=zf BK78
        go_wp2
        go_roundg k1
        case measure=>have:=HK1.out;omega
        case rel=>exact ⟨(wrap64 (x15_1+1)),zT,H',⟨by have:=HK1.out;omega⟩,⟨by refine zj ?_;exact BK78.out⟩,⟨zv1 HB GE78⟩⟩
    ·obtain rfl:=Option.some.inj H
     go_wp2
     go_ret
     exact ⟨ze,zv1 HB GE78⟩
 ·(first|rw [c6b0]|(simp only [i64_w,i32_w];rw [c6b0])|skip)
  (try rw [c6b1]);obtain rfl:=Option.some.inj H
  go_wp2
  go_ret
  exact ⟨ze,zv1 HB GE78⟩
def solve_valid.l0:Nat→List (S35)→Int→Int→Option (Int)
 | 0,_,_,_=>none
 | k+1,x9,x10,x11=>if x11<x10 then (if 0≤x11 then (if x11<(x9.length:Int) then ((table_Valid.f k ((rd_T35 x9 x11).f0) ((rd_T35 x9 x11).f1)).bind fun t98=>(if t98=0 then (solve_valid.l0 k x9 x10 (wrap64 (x11+1))) else (some t98))) else (none)) else (none)) else (some 0)
def solve_valid.f (k:Nat) (l0:List (S35)):Option (Int):=if (l0.length:Int)>16 then (some 3) else (solve_valid.l0 k l0 (l0.length:Int) 0)
set_option maxHeartbeats 8000000 in
set_option maxRecDepth 100000 in
theorem solve_valid.calls (k:Nat) (A0:Option Addr) (c0:Nat) (l0:List (S35)) (r:Int) (w:World) (hr0:Kd.C k35 w A0 l0.length l0) (hc0:l0.length≤c0) (h:solve_valid.f k l0=some r) :
  Calls Try.prog 15 #[.slice A0 l0.length c0] w fun e w'=>e=.returned (.int .i64 r)∧Below w.heap.size w w':=by
 have HR0:=zA hr0;have HC0:=zA hc0;clear hr0 hc0;have HB:=zA (Below.refl w.heap.size w);have H:(if (l0.length:Int)>16 then (some 3) else (solve_valid.l0 k l0 (l0.length:Int) 0))=some r:=h;clear h
 rcases if0 H with ⟨c2,H⟩|⟨c2,H⟩
 ·have c2b0:decide (16<(l0.length:Int))=true:=decide_eq_true c2;have c2b1:decide (16<l0.length)=true:=decide_eq_true (by omega);clear c2;obtain rfl:=Option.some.inj H
  go_enter Try.func15,Try.ntmps15
  go_wp2
  go_ret
  exact ⟨ze,zv0 HB⟩
 ·have c2b0:decide (16<(l0.length:Int))=false:=decide_eq_false c2;have c2b1:decide (16<l0.length)=false:=decide_eq_false (by omega);clear c2;have H':=zA H;clear H
  go_enter Try.func15,Try.ntmps15
  go_wp2
  go_loopg [11] k (fun kq v11 w'=>∃ (x11_1:Int),v11=.int .i64 x11_1∧Aside0 (solve_valid.l0 kq l0 (l0.length:Int) x11_1=some r)∧Aside0 (kq≤k)∧Aside0 (Below w.heap.size w w'))
  case atStart=>exact ⟨(0),zT,H',⟨Nat.le_refl _⟩,⟨zv0 HB⟩⟩
  case round=>
   clear H'
   try clear c2
   try clear c2b0
   try clear c2b1
   obtain ⟨x11_1,rfl,HA,HK1,HB⟩:=hrel
   cases gk with
   | zero=>exact absurd HA.out (by simp [solve_valid.l0])
   | succ k1=>
    have H:=HA.out;clear HA;simp only [solve_valid.l0] at H
    rcases ifd H with ⟨c3b0,H⟩|⟨c3b0,H⟩
    ·obtain ⟨c4b0,H⟩:=ifd1 H;obtain ⟨c5b0,H⟩:=ifd1 H;obtain ⟨t98,A6,H⟩:=zo H;have HC7:=zA H;clear H;obtain ⟨p77,q77,ad77,A77_0,c77_0,A77_1,c77_1,e77,hx77_0,hx77_1,hl77_0,hi77_0,hl77_1,hi77_1⟩:=zp (at_T35 HR0.out x11_1)
     cases e77
     replace hx77_0:=zd HB hx77_0;replace hx77_1:=zd HB hx77_1;have HR77_0:=zA hi77_0;have HC77_0:=zA hl77_0;clear hi77_0 hl77_0;have HR77_1:=zA hi77_1;have HC77_1:=zA hl77_1;clear hi77_1 hl77_1;replace p77:=eq_true p77;replace q77:=eq_true q77
     go_upto_if 18 with (first|((with_reducible refine gd 4 rfl ?_);refine zx #[.slice none 0 0,.slice none 0 0] 35 ?_;intro gb90 hg w8 BK90 hb GW90 HB1;have GE90:=GW90;clear HB hb hg;have HB:=HB1;clear HB1;have hcz9_0:=zc0 BK90;have hcz9_1:=zc1 BK90;have hfz9_0:=zf BK90)|((with_reducible refine gate_callee (f:=26) rfl ?_);refine zgo 16 Try.func26 #[.agg #[.slice A77_0 ((rd_T35 l0 x11_1).f0).length c77_0,.slice A77_1 ((rd_T35 l0 x11_1).f1).length c77_1]] ?_;(with_reducible refine (table_Valid.calls k1 _ _ ((rd_T35 l0 x11_1).f0) _ _ ((rd_T35 l0 x11_1).f1) t98 _ ?side1 HC77_0.out ?side3 HC77_1.out A6.out).mono ?_);(case side1=>exact Kd.C_below HR77_0.out zB);(case side3=>exact Kd.C_below HR77_1.out zB);rintro e w10 ⟨rfl,hb⟩;refine ⟨_,rfl,?_⟩;replace BK90:=zA (blk_below (g:=gb90) (o:=.cells #[.slice A77_0 ((rd_T35 l0 x11_1).f0).length c77_0,.slice A77_1 ((rd_T35 l0 x11_1).f1).length c77_1] 35 (0,0)) (by refine zj ?_;refine blk_put (cs:=#[.slice A77_0 ((rd_T35 l0 x11_1).f0).length c77_0,.slice none 0 0]) ?_ 1 _ rfl;refine zj ?_;refine blk_put (cs:=#[.slice none 0 0,.slice none 0 0]) ?_ 0 _ rfl;refine zj ?_;exact BK90.out) hb);replace HB:=zu hb;clear hb))
     (try simp only [Act.put,zi,zs,zt]);have H:=HC7.out;clear HC7
     rcases ife H with ⟨c11b0,c11b1,H⟩|⟨c11,c11b0,c11b1,H⟩
     ·(first|rw [c11b0]|(simp only [i64_w,i32_w];rw [c11b0])|skip)
      (try rw [c11b1]);have H':=zA H;clear H
      go_wp2
      go_roundg k1
      case measure=>have:=HK1.out;omega
      case rel=>exact ⟨(wrap64 (x11_1+1)),zT,H',⟨by have:=HK1.out;omega⟩,⟨zv1 HB GE90⟩⟩
     ·(first|rw [c11b0]|(simp only [i64_w,i32_w];rw [c11b0])|skip)
      (try rw [c11b1]);obtain rfl:=Option.some.inj H
      go_wp2
      go_ret
      exact ⟨ze,zv1 HB GE90⟩
    ·obtain rfl:=Option.some.inj H
     go_wp2
     go_ret
     exact ⟨ze,zv0 HB⟩
def slices_Index_bool_bool.l0:Nat→List Bool→Bool→Int→Int→Option (Int)
 | 0,_,_,_,_=>none
 | k+1,x0,x1,x7,x8=>if x8<x7 then (if 0≤x8 then (if x8<(x0.length:Int) then (if (x1 == (rdOf false x0 x8))=true then (some x8) else (slices_Index_bool_bool.l0 k x0 x1 x7 (wrap64 (x8+1)))) else (none)) else (none)) else (some (-1))
def slices_Index_bool_bool.f (k:Nat) (l0:List Bool) (a1:Bool):Option (Int):=slices_Index_bool_bool.l0 k l0 a1 (l0.length:Int) 0
theorem slices_Index_bool_bool.mono_l:∀ k,(∀ y0 y1 y2 y3,LeO (slices_Index_bool_bool.l0 k y0 y1 y2 y3) (slices_Index_bool_bool.l0 (k+1) y0 y1 y2 y3))
 | 0=>fun _ _ _ _ r h=>by simp [slices_Index_bool_bool.l0] at h
 | k+1=>by
  have ih0:=slices_Index_bool_bool.mono_l k
  ·intro y0 y1 y2 y3
   unfold slices_Index_bool_bool.l0
   repeat' first
   | (with_reducible exact ih0 _ _ _ _)
   | (with_reducible exact LeO.refl _)
   | (with_reducible exact LeO.none _)
   | (with_reducible refine LeO.ite ?_ ?_)
   | (with_reducible refine LeO.bind ?_ (fun _=>?_))
   | exact LeO.none _
   | refine LeO.ite ?_ ?_
   | refine LeO.bind ?_ (fun _=>?_)
theorem slices_Index_bool_bool.mono:∀ a0 a1 k,LeO (slices_Index_bool_bool.f k a0 a1) (slices_Index_bool_bool.f (k+1) a0 a1):=by
 intro a0 a1 k;have ih0:=slices_Index_bool_bool.mono_l k
 unfold slices_Index_bool_bool.f
 repeat' first
   | (with_reducible exact ih0 _ _ _ _)
   | (with_reducible exact LeO.refl _)
   | (with_reducible exact LeO.none _)
   | (with_reducible refine LeO.ite ?_ ?_)
   | (with_reducible refine LeO.bind ?_ (fun _=>?_))
   | exact LeO.none _
   | refine LeO.ite ?_ ?_
   | refine LeO.bind ?_ (fun _=>?_)
set_option maxHeartbeats 8000000 in
set_option maxRecDepth 100000 in
theorem slices_Index_bool_bool.calls (k:Nat) (A0:Option Addr) (c0:Nat) (l0:List Bool) (a1:Bool) (r:Int) (w:World) (hr0:Kd.C Kd.bool w A0 l0.length l0) (hc0:l0.length≤c0) (h:slices_Index_bool_bool.f k l0 a1=some r) :
  Calls Try.prog 44 #[.slice A0 l0.length c0,.bool a1] w fun e w'=>e=.returned (.int .i64 r)∧Drawn0 w w':=by
 have HR0:=zA hr0;have HC0:=zA hc0;clear hr0 hc0;have H:(slices_Index_bool_bool.l0 k l0 a1 (l0.length:Int) 0)=some r:=h;clear h;have H':=zA H;clear H
 go_enter Try.func44,Try.ntmps44
 go_wp2
 go_loopg [8] k (fun kq v8 w'=>∃ (x8_1:Int),v8=.int .i64 x8_1∧Aside0 (slices_Index_bool_bool.l0 kq l0 a1 (l0.length:Int) x8_1=some r)∧Aside0 (kq≤k)∧Drawn0 w w')
 case atStart=>exact ⟨(0),zT,H',⟨Nat.le_refl _⟩,by repeat (first|exact Drawn0.refl _|apply Drawn0.step)⟩
 case round=>
  clear H';obtain ⟨x8_1,rfl,HA,HK1,⟨m1,rfl⟩⟩:=hrel
  cases gk with
  | zero=>exact absurd HA.out (by simp [slices_Index_bool_bool.l0])
  | succ k1=>
   have H:=HA.out;clear HA;simp only [slices_Index_bool_bool.l0] at H
   rcases ifd H with ⟨c3b0,H⟩|⟨c3b0,H⟩
   ·obtain ⟨c4b0,H⟩:=ifd1 H;obtain ⟨c5b0,H⟩:=ifd1 H
    rcases if0 H with ⟨c6,H⟩|⟨c6,H⟩
    ·have c6b0:(a1 == (rdOf false l0 x8_1))=true:=c6;(try (have c6b1:decide (a1=(rdOf false l0 x8_1))=true:=by simpa using c6));(try (have c6b2:(a1 == (rdOf false l0 x8_1))=true:=by simpa using c6));clear c6;obtain rfl:=Option.some.inj H;obtain ⟨p87,q87,ad87,e87,hx87_0⟩:=zp (Kd.at_bool HR0.out x8_1)
     cases e87
     replace p87:=eq_true p87;replace q87:=eq_true q87
     go_wp2
     go_ret
     exact ⟨by first|rfl|(simp;done)|(simp [*];done),by repeat (first|exact Drawn0.refl _|apply Drawn0.step)⟩
    ·have c6b0:(a1 == (rdOf false l0 x8_1))=false:=by simpa using c6
     (try (have c6b1:decide (a1=(rdOf false l0 x8_1))=false:=by simpa using c6));(try (have c6b2:(a1 == (rdOf false l0 x8_1))=false:=by simpa using c6));(try (have c6b3:¬ (a1=(rdOf false l0 x8_1)):=by simpa using c6));clear c6;have H':=zA H;clear H;obtain ⟨p87,q87,ad87,e87,hx87_0⟩:=zp (Kd.at_bool HR0.out x8_1)
     cases e87
     replace p87:=eq_true p87;replace q87:=eq_true q87
     go_wp2
     go_roundg k1
     case measure=>have:=HK1.out;omega
     case rel=>exact ⟨(wrap64 (x8_1+1)),zT,H',⟨by have:=HK1.out;omega⟩,by repeat (first|exact Drawn0.refl _|apply Drawn0.step)⟩
   ·obtain rfl:=Option.some.inj H
    go_wp2
    go_ret
    exact ⟨by first|rfl|(simp;done)|(simp [*];done),by repeat (first|exact Drawn0.refl _|apply Drawn0.step)⟩
def slices_Contains_bool_bool.f (k:Nat) (l0:List Bool) (a1:Bool):Option (Bool):=(slices_Index_bool_bool.f k l0 a1).bind fun t97=>(some (decide (t97≥0)))
theorem slices_Contains_bool_bool.mono:∀ a0 a1 k,LeO (slices_Contains_bool_bool.f k a0 a1) (slices_Contains_bool_bool.f (k+1) a0 a1):=by
 intro a0 a1 k
 unfold slices_Contains_bool_bool.f
 repeat' first
   | (with_reducible exact slices_Index_bool_bool.mono _ _ _)
   | (with_reducible exact LeO.refl _)
   | (with_reducible exact LeO.none _)
   | (with_reducible refine LeO.ite ?_ ?_)
   | (with_reducible refine LeO.bind ?_ (fun _=>?_))
   | exact LeO.none _
   | refine LeO.ite ?_ ?_
   | refine LeO.bind ?_ (fun _=>?_)
set_option maxHeartbeats 8000000 in
set_option maxRecDepth 100000 in
theorem slices_Contains_bool_bool.calls (k:Nat) (A0:Option Addr) (c0:Nat) (l0:List Bool) (a1:Bool) (r:Bool) (w:World) (hr0:Kd.C Kd.bool w A0 l0.length l0) (hc0:l0.length≤c0) (h:slices_Contains_bool_bool.f k l0 a1=some r) :
  Calls Try.prog 34 #[.slice A0 l0.length c0,.bool a1] w fun e w'=>e=.returned (.bool r)∧Drawn0 w w':=by
 have HR0:=zA hr0;have HC0:=zA hc0;clear hr0 hc0;have H:((slices_Index_bool_bool.f k l0 a1).bind fun t97=>(some (decide (t97≥0))))=some r:=h;clear h;obtain ⟨t97,A3,H⟩:=zo H;obtain rfl:=Option.some.inj H
 go_enter Try.func34,Try.ntmps34
 go_wp2_with (first|((with_reducible refine gate_callee (f:=44) rfl ?_);refine zgo 7 Try.func44 #[.slice A0 l0.length c0,.bool a1] ?_;(with_reducible refine (slices_Index_bool_bool.calls k _ _ l0 a1 t97 _ ?side1 HC0.out A3.out).mono ?_);(case side1=>repeat (first|exact HR0.out|(with_reducible refine Kd.C_alloc ?_ _)|(with_reducible refine Kd.C_drewN ?_ _)|(with_reducible refine Kd.C_drew ?_)));rintro e w' ⟨rfl,⟨nd,rfl⟩⟩;refine ⟨_,rfl,?_⟩))
 go_ret
 exact ⟨by first|rfl|(simp;done)|(simp [*];done),by repeat (first|exact Drawn0.refl _|apply Drawn0.step)⟩
mutual
def solve_shape.l0:Nat→List (S35)→Int→List Bool→List (S55)→Int→Int→Option (Bool)
 | 0,_,_,_,_,_,_=>none
 | k+1,x0,x5,x6,x23,x24,x25=>if x25<x24 then (if 0≤x25 then (if x25<(x23.length:Int) then (if ((rd_T55 x23 x25).f0)=(-1) then (if ((rd_T55 x23 x25).f1)=0 then (if ((rd_T55 x23 x25).f2)=0 then (if ((rd_T55 x23 x25).f3)<0 then (some false) else (if ((rd_T55 x23 x25).f3)≥(x0.length:Int) then (some false) else (solve_shape.l0 k x0 x5 x6 x23 x24 (wrap64 (x25+1))))) else (some false)) else (some false)) else (if ((rd_T55 x23 x25).f0)<0 then (some false) else (if ((rd_T55 x23 x25).f0)≥24 then (some false) else (if ((rd_T55 x23 x25).f3)=0 then ((some (([(rd_T55 x23 x25).f1,(rd_T55 x23 x25).f2]:List Int):List Int)).bind fun y80=>(solve_shape.l1 k x0 x5 x6 x25 x23 x24 x25 y80 (y80.length:Int) 0)) else (some false))))) else (none)) else (none)) else (if 1≤(x6.length:Int) then ((slices_Contains_bool_bool.f k (x6.drop 1) false).bind fun t128=>(some (!t128))) else (none))
def solve_shape.l1:Nat→List (S35)→Int→List Bool→Int→List (S55)→Int→Int→List Int→Int→Int→Option (Bool)
 | 0,_,_,_,_,_,_,_,_,_,_=>none
 | k+1,x0,x5,x6,x7,x23,x24,x25,x70,x71,x72=>if x72<x71 then (if 0≤x72 then (if x72<(x70.length:Int) then (if (rd x70 x72)≤x7 then (some false) else (if (rd x70 x72)≥x5 then (some false) else (if 0≤(rd x70 x72) then (if (rd x70 x72)<(x6.length:Int) then (if rdOf false x6 (rd x70 x72)=true then (some false) else (solve_shape.l1 k x0 x5 (x6.set ((rd x70 x72):Int).toNat true) x7 x23 x24 x25 x70 x71 (wrap64 (x72+1)))) else (none)) else (none)))) else (none)) else (none)) else (solve_shape.l0 k x0 x5 x6 x23 x24 (wrap64 (x25+1)))
end
def solve_shape.f (k:Nat) (l0:List (S35)) (l1_0:List (S55)):Option (Bool):=if (l1_0.length:Int)=0 then (some false) else (if (l1_0.length:Int)>2000 then (some false) else (if 0≤(l1_0.length:Int) then (if ((l1_0.length:Int):Int).toNat≤281474976710656 then (solve_shape.l0 k l0 (l1_0.length:Int) (List.replicate ((l1_0.length:Int):Int).toNat false) l1_0 (l1_0.length:Int) 0) else (none)) else (none)))
theorem solve_shape.mono_l:∀ k,(∀ y0 y1 y2 y3 y4 y5,LeO (solve_shape.l0 k y0 y1 y2 y3 y4 y5) (solve_shape.l0 (k+1) y0 y1 y2 y3 y4 y5))∧(∀ y0 y1 y2 y3 y4 y5 y6 y7 y8 y9,LeO (solve_shape.l1 k y0 y1 y2 y3 y4 y5 y6 y7 y8 y9) (solve_shape.l1 (k+1) y0 y1 y2 y3 y4 y5 y6 y7 y8 y9))
 | 0=>⟨fun _ _ _ _ _ _ r h=>by simp [solve_shape.l0] at h,fun _ _ _ _ _ _ _ _ _ _ r h=>by simp [solve_shape.l1] at h⟩
 | k+1=>by
  obtain ⟨ih0,ih1⟩:=solve_shape.mono_l k;refine ⟨?_,?_⟩
  ·intro y0 y1 y2 y3 y4 y5
   unfold solve_shape.l0
   repeat' first
   | (with_reducible exact ih0 _ _ _ _ _ _)
   | (with_reducible exact ih1 _ _ _ _ _ _ _ _ _ _)
   | (with_reducible exact slices_Contains_bool_bool.mono _ _ _)
   | (with_reducible exact LeO.refl _)
   | (with_reducible exact LeO.none _)
   | (with_reducible refine LeO.ite ?_ ?_)
   | (with_reducible refine LeO.bind ?_ (fun _=>?_))
   | exact LeO.none _
   | refine LeO.ite ?_ ?_
   | refine LeO.bind ?_ (fun _=>?_)
  ·intro y0 y1 y2 y3 y4 y5 y6 y7 y8 y9
   unfold solve_shape.l1
   repeat' first
   | (with_reducible exact ih0 _ _ _ _ _ _)
   | (with_reducible exact ih1 _ _ _ _ _ _ _ _ _ _)
   | (with_reducible exact slices_Contains_bool_bool.mono _ _ _)
   | (with_reducible exact LeO.refl _)
   | (with_reducible exact LeO.none _)
   | (with_reducible refine LeO.ite ?_ ?_)
   | (with_reducible refine LeO.bind ?_ (fun _=>?_))
   | exact LeO.none _
   | refine LeO.ite ?_ ?_
   | refine LeO.bind ?_ (fun _=>?_)
theorem solve_shape.mono:∀ a0 a1 k,LeO (solve_shape.f k a0 a1) (solve_shape.f (k+1) a0 a1):=by
 intro a0 a1 k;obtain ⟨ih0,ih1⟩:=solve_shape.mono_l k
 unfold solve_shape.f
 repeat' first
   | (with_reducible exact ih0 _ _ _ _ _ _)
   | (with_reducible exact ih1 _ _ _ _ _ _ _ _ _ _)
   | (with_reducible exact slices_Contains_bool_bool.mono _ _ _)
   | (with_reducible exact LeO.refl _)
   | (with_reducible exact LeO.none _)
   | (with_reducible refine LeO.ite ?_ ?_)
   | (with_reducible refine LeO.bind ?_ (fun _=>?_))
   | exact LeO.none _
   | refine LeO.ite ?_ ?_
   | refine LeO.bind ?_ (fun _=>?_)
set_option maxHeartbeats 8000000 in
set_option maxRecDepth 100000 in
theorem solve_shape.calls (k:Nat) (A0:Option Addr) (c0:Nat) (l0:List (S35)) (A1_0:Option Addr) (c1_0:Nat) (l1_0:List (S55)) (r:Bool) (w:World) (hr0:Kd.C k35 w A0 l0.length l0) (hc0:l0.length≤c0) (hr1_0:Kd.C k55 w A1_0 l1_0.length l1_0) (hc1_0:l1_0.length≤c1_0) (h:solve_shape.f k l0 l1_0=some r) :
  Calls Try.prog 21 #[.slice A0 l0.length c0,.agg #[.slice A1_0 l1_0.length c1_0]] w fun e w'=>e=.returned (.bool r)∧Below w.heap.size w w':=by
 have HR0:=zA hr0;have HC0:=zA hc0;clear hr0 hc0;have HR1_0:=zA hr1_0;have HC1_0:=zA hc1_0;clear hr1_0 hc1_0;have HB:=zA (Below.refl w.heap.size w);have H:(if (l1_0.length:Int)=0 then (some false) else (if (l1_0.length:Int)>2000 then (some false) else (if 0≤(l1_0.length:Int) then (if ((l1_0.length:Int):Int).toNat≤281474976710656 then (solve_shape.l0 k l0 (l1_0.length:Int) (List.replicate ((l1_0.length:Int):Int).toNat false) l1_0 (l1_0.length:Int) 0) else (none)) else (none))))=some r:=h;clear h;have HC3:=zA H;clear H
 go_enter Try.func21,Try.ntmps21
 try go_wp2_with (first|((with_reducible refine gd 3 rfl ?_);(try (refine gate_guard (by rfl) ?_;dsimp only));refine zx #[.slice A1_0 l1_0.length c1_0] 25 ?_;intro gb74 hg w4 BK74 hb GW74 HB1;have GE74:=GW74;clear HB hb hg;have HB:=HB1;clear HB1))
 refine wp_scope_straight ?_;(try simp only [Act.put,zi,zs,zt]);have H:=HC3.out;clear HC3
 rcases ife H with ⟨c5b0,c5b1,H⟩|⟨c5,c5b0,c5b1,H⟩
 ·(first|rw [c5b0]|(simp only [i64_w,i32_w];rw [c5b0])|skip)
  (try rw [c5b1]);obtain rfl:=Option.some.inj H;have hcz6_0:=zc0 BK74;have hfz6_0:=zf BK74 0
  go_wp2
  go_ret
  exact ⟨ze,zv1 HB GE74⟩
 ·have c5b2:¬ (l1_0=[]):=fun h_=>c5 (by rw [h_];rfl)
  (first|rw [c5b0]|(simp only [i64_w,i32_w];rw [c5b0])|skip)
  (try rw [c5b1]);(try rw [c5b2])
  rcases if0 H with ⟨c7,H⟩|⟨c7,H⟩
  ·have c7b0:decide (2000<(l1_0.length:Int))=true:=decide_eq_true c7;have c7b1:decide (2000<l1_0.length)=true:=decide_eq_true (by omega);clear c7;obtain rfl:=Option.some.inj H;have hcz8_0:=zc0 BK74;have hfz8_0:=zf BK74 0
   go_wp2
   go_ret
   exact ⟨ze,zv1 HB GE74⟩
  ·have c7b0:decide (2000<(l1_0.length:Int))=false:=decide_eq_false c7;have c7b1:decide (2000<l1_0.length)=false:=decide_eq_false (by omega);clear c7;obtain ⟨c9,H⟩:=if1 H;have c9b0:=eq_true c9;have c9b1:decide (0≤(l1_0.length:Int))=true:=decide_eq_true c9;clear c9;obtain ⟨c10,H⟩:=if1 H;have c10b0:=eq_true c10;have c10b1:decide (((l1_0.length:Int):Int).toNat≤281474976710656)=true:=decide_eq_true c10;clear c10
   first|(replace H:=zyb (List.replicate ((l1_0.length:Int):Int).toNat false) H;obtain ⟨y92,Ny92,H⟩:=H)|(obtain ⟨y92,hy92⟩:=zY (List.replicate ((l1_0.length:Int):Int).toNat false);(try rw (occs:=.pos [1]) [← hy92] at H);have Ny92:=zA hy92;clear hy92)
   have HC11:=zA H;clear H;have hcz12_0:=zc0 BK74;have hfz12_0:=zf BK74 0
   try go_wp2_with (first|((with_reducible refine gate_dst (N:=21) rfl ?_);(try (refine gate_guard (by rfl) ?_;dsimp only));refine Kd.R_make Kd.bool _ 4 rfl (N:=21) rfl 67 _ _ rfl (l1_0.length:Int) rfl rfl Try.underlying67 (.bool false) 1 info4 rfl (by decide) (by omega) false (ok:=fun _=>True) (okp:=fun _=>True) rfl (fun _ hk=>hk) trivial (of_decide_eq_true zh) (Nat.le_trans (Nat.mul_le_mul_right _ (of_decide_eq_true zh:(l1_0.length:Int).toNat≤281474976710656)) (by omega)) (Below.refl _ _) (Nat.le_refl _) ?_;intro v114 w13 ho14 hb hg_ hnew_;clear hg_ hnew_;(first|rw [← Ny92.out] at ho14|(simp only [Int.reduceToNat] at ho14;rw [← Ny92.out] at ho14));have HO115:=zA (Kd.R_lower ho14 (below_size zB));replace BK74:=zw BK74 hb;replace HB:=zu hb;clear hb ho14))
   refine wp_label ?_;(try simp only [Act.put,zi,zs,zt]);have H:=HC11.out;clear HC11;have H':=zA H;clear H;have hcz15_0:=zc0 BK74;have hfz15_0:=zf BK74 0
   go_wp2
   go_loopg [25] k (fun kq v25 w'=>∃ (x6_1:List Bool) (x25_1:Int),v25=.int .i64 x25_1∧Aside0 (solve_shape.l0 kq l0 (l1_0.length:Int) x6_1 l1_0 (l1_0.length:Int) x25_1=some r)∧Aside0 (kq≤k)∧Aside0 (Kd.R Kd.bool 4 w' w.heap.size (fun _=>True) v114 x6_1)∧Aside0 (w'.heap[gb74]?=some (.cells #[(.slice A1_0 l1_0.length c1_0)] 25 (0,0)))∧Aside0 (Below w.heap.size w w'))
   case atStart=>exact ⟨(y92),(0),zT,H',⟨Nat.le_refl _⟩,⟨by refine zr ?_;exact HO115.out⟩,⟨by refine zj ?_;exact BK74.out⟩,⟨zv1 HB GE74⟩⟩
   case round=>
    clear H'
    try clear c5
    try clear c5b0
    try clear c5b1
    try clear c5b2
    try clear c7
    try clear c7b0
    try clear c7b1
    try clear c9
    try clear c9b0
    try clear c9b1
    try clear c10
    try clear c10b0
    try clear c10b1
    try clear hcz12_0
    try clear hcz15_0
    try clear hfz12_0
    try clear hfz15_0
    obtain ⟨x6_1,x25_1,rfl,HA,HK1,HO_6,BK74,HB⟩:=hrel
    cases gk with
    | zero=>exact absurd HA.out (by simp [solve_shape.l0])
    | succ k1=>
     have H:=HA.out;clear HA;simp only [solve_shape.l0] at H
     rcases ifd H with ⟨c16b0,H⟩|⟨c16b0,H⟩
     ·(first|rw [c16b0]|(simp only [i64_w,i32_w];rw [c16b0])|skip)
      obtain ⟨c17b0,H⟩:=ifd1 H;obtain ⟨c18b0,H⟩:=ifd1 H;have HC19:=zA H;clear H;obtain ⟨p82,q82,ad82,e82,hx82_0,hx82_1,hx82_2,hx82_3⟩:=zp (at_T55 HR1_0.out x25_1)
      cases e82
      replace hx82_0:=zd HB hx82_0;replace hx82_1:=zd HB hx82_1;replace hx82_2:=zd HB hx82_2;replace hx82_3:=zd HB hx82_3;replace p82:=eq_true p82;replace q82:=eq_true q82
      go_upto_if 32 with (first|((with_reducible refine gd 8 rfl ?_);(try (refine gate_guard (by rfl) ?_;dsimp only));refine zx #[.int .i64 0,.int .i64 0,.int .i64 0,.int .i64 0] 55 ?_;intro gb73 hg w20 BK73 hb GW73 HB1;have GE73:=GW73;have NB74_73:=zL hg BK74;have NB73_74:=zLs NB74_73;replace HO_6:=zA (Kd.R_below (zR HO_6) hb);replace BK74:=zw BK74 hb;clear HB hb hg;have HB:=HB1;clear HB1;have hnb21:=NB73_74.out;have hnc21:=NB74_73.out;have hcz22_0:=zc0 BK73;have hcz22_1:=zc1 BK73;have hcz22_2:=zc2 BK73;have hcz22_3:=zc3 BK73;have hfz22_0:=zf BK73))
      (try simp only [Act.put,zi,zs,zt]);have H:=HC19.out;clear HC19
      rcases ife H with ⟨c23b0,c23b1,H⟩|⟨c23,c23b0,c23b1,H⟩
      ·(first|rw [c23b0]|(simp only [i64_w,i32_w];rw [c23b0])|skip)
       (try rw [c23b1])
       rcases ife H with ⟨c24b0,c24b1,H⟩|⟨c24,c24b0,c24b1,H⟩
       ·rcases ife H with ⟨c25b0,c25b1,H⟩|⟨c25,c25b0,c25b1,H⟩
        ·rcases ifd H with ⟨c26b0,H⟩|⟨c26b0,H⟩
         ·obtain rfl:=Option.some.inj H;have hnb27:=NB73_74.out;have hnc27:=NB74_73.out;have hcz28_0:=zc0 BK73;have hcz28_1:=zc1 BK73;have hcz28_2:=zc2 BK73;have hcz28_3:=zc3 BK73;have hfz28_0:=zf BK73
          go_wp2
          go_ret
          exact ⟨ze,zv2 HB GE74 GE73⟩
         ·rcases if0 H with ⟨c29,H⟩|⟨c29,H⟩
          ·have c29b0:decide ((l0.length:Int)≤((rd_T55 l1_0 x25_1).f3))=true:=decide_eq_true c29;clear c29;obtain rfl:=Option.some.inj H;have hnb30:=NB73_74.out;have hnc30:=NB74_73.out;have hcz31_0:=zc0 BK73;have hcz31_1:=zc1 BK73;have hcz31_2:=zc2 BK73;have hcz31_3:=zc3 BK73;have hfz31_0:=zf BK73
           go_wp2
           go_ret
           exact ⟨ze,zv2 HB GE74 GE73⟩
          ·have c29b0:decide ((l0.length:Int)≤((rd_T55 l1_0 x25_1).f3))=false:=decide_eq_false c29;clear c29;have H':=zA H;clear H;have hnb32:=NB73_74.out;have hnc32:=NB74_73.out;have hcz33_0:=zc0 BK73;have hcz33_1:=zc1 BK73;have hcz33_2:=zc2 BK73;have hcz33_3:=zc3 BK73;have hfz33_0:=zf BK73
           go_wp2
           go_roundg k1
           case measure=>have:=HK1.out;omega
           case rel=>exact ⟨(x6_1),(wrap64 (x25_1+1)),zT,H',⟨by have:=HK1.out;omega⟩,⟨by refine zr ?_;exact Kd.R_mono (Kd.R_far (p:=⟨gb73,3,none⟩) (Kd.R_far (p:=⟨gb73,2,none⟩) (Kd.R_far (p:=⟨gb73,1,none⟩) (Kd.R_far (p:=⟨gb73,0,none⟩) (Kd.R_types HO_6.out BK73.out (by decide)) (fun _ hk=>hk.2) (.int .i64 ((rd_T55 l1_0 x25_1).f0))) (fun _ hk=>hk.2) (.int .i64 ((rd_T55 l1_0 x25_1).f1))) (fun _ hk=>hk.2) (.int .i64 ((rd_T55 l1_0 x25_1).f2))) (fun _ hk=>hk.2) (.int .i64 ((rd_T55 l1_0 x25_1).f3))) (fun _ hk=>trivial)⟩,⟨by refine zj ?_;refine blk_far ?_ NB74_73.out _;refine zj ?_;refine blk_far ?_ NB74_73.out _;refine zj ?_;refine blk_far ?_ NB74_73.out _;refine zj ?_;refine blk_far ?_ NB74_73.out _;refine zj ?_;exact BK74.out⟩,⟨zv2 HB GE74 GE73⟩⟩
        ·obtain rfl:=Option.some.inj H;have hnb34:=NB73_74.out;have hnc34:=NB74_73.out;have hcz35_0:=zc0 BK73;have hcz35_1:=zc1 BK73;have hcz35_2:=zc2 BK73;have hcz35_3:=zc3 BK73;have hfz35_0:=zf BK73
         go_wp2
         go_ret
         exact ⟨ze,zv2 HB GE74 GE73⟩
       ·obtain rfl:=Option.some.inj H;have hnb36:=NB73_74.out;have hnc36:=NB74_73.out;have hcz37_0:=zc0 BK73;have hcz37_1:=zc1 BK73;have hcz37_2:=zc2 BK73;have hcz37_3:=zc3 BK73;have hfz37_0:=zf BK73
        go_wp2
        go_ret
        exact ⟨ze,zv2 HB GE74 GE73⟩
      ·(first|rw [c23b0]|(simp only [i64_w,i32_w];rw [c23b0])|skip)
       (try rw [c23b1])
       rcases ifd H with ⟨c38b0,H⟩|⟨c38b0,H⟩
       ·obtain rfl:=Option.some.inj H;have hnb39:=NB73_74.out;have hnc39:=NB74_73.out;have hcz40_0:=zc0 BK73;have hcz40_1:=zc1 BK73;have hcz40_2:=zc2 BK73;have hcz40_3:=zc3 BK73;have hfz40_0:=zf BK73
        go_wp2
        go_ret
        exact ⟨ze,zv2 HB GE74 GE73⟩
       ·rcases if0 H with ⟨c41,H⟩|⟨c41,H⟩
        ·have c41b0:decide (24≤((rd_T55 l1_0 x25_1).f0))=true:=decide_eq_true c41;clear c41;obtain rfl:=Option.some.inj H;have hnb42:=NB73_74.out;have hnc42:=NB74_73.out;have hcz43_0:=zc0 BK73;have hcz43_1:=zc1 BK73;have hcz43_2:=zc2 BK73;have hcz43_3:=zc3 BK73;have hfz43_0:=zf BK73
         go_wp2
         go_ret
         exact ⟨ze,zv2 HB GE74 GE73⟩
        ·have c41b0:decide (24≤((rd_T55 l1_0 x25_1).f0))=false:=decide_eq_false c41;clear c41
         rcases ife H with ⟨c44b0,c44b1,H⟩|⟨c44,c44b0,c44b1,H⟩
         ·first|(replace H:=zyb (([(rd_T55 l1_0 x25_1).f1,(rd_T55 l1_0 x25_1).f2]:List Int)) H;obtain ⟨y80,Ny80,H⟩:=H)|(obtain ⟨y80,hy80⟩:=zY (([(rd_T55 l1_0 x25_1).f1,(rd_T55 l1_0 x25_1).f2]:List Int));(try rw (occs:=.pos [1]) [← hy80] at H);have Ny80:=zA hy80;clear hy80)
          have H':=zA H;clear H;have hnb45:=NB73_74.out;have hnc45:=NB74_73.out;have hcz46_0:=zc0 BK73;have hcz46_1:=zc1 BK73;have hcz46_2:=zc2 BK73;have hcz46_3:=zc3 BK73;have hfz46_0:=zf BK73
          go_wp2_with (first|((with_reducible refine gate_dst (N:=70) rfl ?_);(try (refine gate_guard (by rfl) ?_;dsimp only));refine Kd.R_lit (Kd.int .i64) _ 3 ?hg (N:=70) ?hd (xs:=([(rd_T55 l1_0 x25_1).f1,(rd_T55 l1_0 x25_1).f2]:List Int)) (inner:=[.int .i64 ((rd_T55 l1_0 x25_1).f1),.int .i64 ((rd_T55 l1_0 x25_1).f2)]) (ok:=fun _=>True) (okp:=fun _=>True) ?hr ?hp (fun _ hk=>hk) trivial (Below.refl _ _) (Nat.le_refl _) (by simp) ?_;(case hd=>rfl);(case hg=>rfl);(case hr=>first|(go_simp;done)|(go_simp;rfl));(case hp=>exact (Reps.one (show Kd.M (Kd.int .i64) _ _ _ ((rd_T55 l1_0 x25_1).f1) [.int .i64 ((rd_T55 l1_0 x25_1).f1)] from rfl) (Reps.one (show Kd.M (Kd.int .i64) _ _ _ ((rd_T55 l1_0 x25_1).f2) [.int .i64 ((rd_T55 l1_0 x25_1).f2)] from rfl) (Reps.none _ _))));intro v119 w47 ho48 hb hg_ hnew_;clear hg_ hnew_;(first|rw [← Ny80.out] at ho48|(simp only [Int.reduceToNat] at ho48;rw [← Ny80.out] at ho48));have HO120:=zA (Kd.R_lower ho48 (below_size zB));replace HO_6:=zA (Kd.R_below (by refine zr ?_;exact (Kd.R_mono (Kd.R_far (p:=⟨gb73,3,none⟩) (Kd.R_far (p:=⟨gb73,2,none⟩) (Kd.R_far (p:=⟨gb73,1,none⟩) (Kd.R_far (p:=⟨gb73,0,none⟩) (Kd.R_types HO_6.out BK73.out (by decide)) (fun _ hk=>hk.2) (.int .i64 ((rd_T55 l1_0 x25_1).f0))) (fun _ hk=>hk.2) (.int .i64 ((rd_T55 l1_0 x25_1).f1))) (fun _ hk=>hk.2) (.int .i64 ((rd_T55 l1_0 x25_1).f2))) (fun _ hk=>hk.2) (.int .i64 ((rd_T55 l1_0 x25_1).f3))) (fun _ h_=>h_.1))) hb);replace BK74:=zA (blk_below (g:=gb74) (o:=.cells #[.slice (some ad82) l1_0.length c1_0] 25 (0,0)) (by refine zj ?_;refine blk_far ?_ NB74_73.out _;refine zj ?_;refine blk_far ?_ NB74_73.out _;refine zj ?_;refine blk_far ?_ NB74_73.out _;refine zj ?_;refine blk_far ?_ NB74_73.out _;refine zj ?_;exact BK74.out) hb);replace BK73:=zA (blk_below (g:=gb73) (o:=.cells #[.int .i64 ((rd_T55 l1_0 x25_1).f0),.int .i64 ((rd_T55 l1_0 x25_1).f1),.int .i64 ((rd_T55 l1_0 x25_1).f2),.int .i64 ((rd_T55 l1_0 x25_1).f3)] 55 (0,0)) (by refine zj ?_;refine blk_put (cs:=#[.int .i64 ((rd_T55 l1_0 x25_1).f0),.int .i64 ((rd_T55 l1_0 x25_1).f1),.int .i64 ((rd_T55 l1_0 x25_1).f2),.int .i64 0]) ?_ 3 _ rfl;refine zj ?_;refine blk_put (cs:=#[.int .i64 ((rd_T55 l1_0 x25_1).f0),.int .i64 ((rd_T55 l1_0 x25_1).f1),.int .i64 0,.int .i64 0]) ?_ 2 _ rfl;refine zj ?_;refine blk_put (cs:=#[.int .i64 ((rd_T55 l1_0 x25_1).f0),.int .i64 0,.int .i64 0,.int .i64 0]) ?_ 1 _ rfl;refine zj ?_;refine blk_put (cs:=#[.int .i64 0,.int .i64 0,.int .i64 0,.int .i64 0]) ?_ 0 _ rfl;refine zj ?_;exact BK73.out) hb);replace HB:=zu hb;clear hb ho48;obtain ⟨Ao49,co49,eo49⟩:=Kd.R_slice HO120.out;subst eo49))
          go_loopg [72] k1 (fun kq v72 w'=>∃ (x6_2:List Bool) (x72_2:Int),v72=.int .i64 x72_2∧Aside0 (solve_shape.l1 kq l0 (l1_0.length:Int) x6_2 x25_1 l1_0 (l1_0.length:Int) x25_1 y80 (y80.length:Int) x72_2=some r)∧Aside0 (kq≤k1)∧Aside0 (Kd.R Kd.bool 4 w' w.heap.size (fun _=>True) v114 x6_2)∧Aside0 (Kd.R (Kd.int .i64) 3 w' w.heap.size (fun _=>True) (.slice Ao49 y80.length co49) y80)∧Aside0 (w'.heap[gb74]?=some (.cells #[(.slice (some ad82) l1_0.length c1_0)] 25 (0,0)))∧Aside0 (w'.heap[gb73]?=some (.cells #[.int .i64 ((rd_T55 l1_0 x25_1).f0),.int .i64 ((rd_T55 l1_0 x25_1).f1),.int .i64 ((rd_T55 l1_0 x25_1).f2),.int .i64 ((rd_T55 l1_0 x25_1).f3)] 55 (0,0)))∧Aside0 (Below w.heap.size w w'))
          case atStart=>exact ⟨(x6_1),(0),zT,H',⟨Nat.le_refl _⟩,⟨by refine zr ?_;exact HO_6.out⟩,⟨by refine zr ?_;exact HO120.out⟩,⟨by refine zj ?_;exact BK74.out⟩,⟨by refine zj ?_;exact BK73.out⟩,⟨zv2 HB GE74 GE73⟩⟩
          case round=>
           clear H'
           try clear c5
           try clear c5b0
           try clear c5b1
           try clear c5b2
           try clear c7
           try clear c7b0
           try clear c7b1
           try clear c9
           try clear c9b0
           try clear c9b1
           try clear c10
           try clear c10b0
           try clear c10b1
           try clear c16
           try clear c16b0
           try clear c17
           try clear c17b0
           try clear c18
           try clear c18b0
           try clear c23
           try clear c23b0
           try clear c23b1
           try clear c38
           try clear c38b0
           try clear c41
           try clear c41b0
           try clear c44
           try clear c44b0
           try clear c44b1
           try clear hcz12_0
           try clear hcz15_0
           try clear hcz22_0
           try clear hcz22_1
           try clear hcz22_2
           try clear hcz22_3
           try clear hcz46_0
           try clear hcz46_1
           try clear hcz46_2
           try clear hcz46_3
           try clear hfz12_0
           try clear hfz15_0
           try clear hfz22_0
           try clear hfz22_1
           try clear hfz22_2
           try clear hfz22_3
           try clear hfz46_0
           try clear hfz46_1
           try clear hfz46_2
           try clear hfz46_3
           try clear hx82_0
           try clear hx82_1
           try clear hx82_2
           try clear hx82_3
           try clear p82
           try clear q82
           obtain ⟨x6_2,x72_2,rfl,HA,HK2,HO_6,HO_70,BK74,BK73,HB⟩:=hrel
           cases gk with
           | zero=>exact absurd HA.out (by simp [solve_shape.l1])
           | succ k2=>
            have H:=HA.out;clear HA;simp only [solve_shape.l1] at H
            rcases ifd H with ⟨c50b0,H⟩|⟨c50b0,H⟩
            ·obtain ⟨c51b0,H⟩:=ifd1 H;obtain ⟨c52b0,H⟩:=ifd1 H
             rcases ifd H with ⟨c53b0,H⟩|⟨c53b0,H⟩
             ·obtain rfl:=Option.some.inj H;obtain ⟨p79,q79,ad79,e79,hx79_0⟩:=zp (Kd.at_int (Kd.R_reads' HO_70.out).2.2 x72_2)
              cases e79
              replace p79:=eq_true p79;replace q79:=eq_true q79
              go_wp2
              go_ret
              exact ⟨ze,zv2 HB GE74 GE73⟩
             ·rcases if0 H with ⟨c54,H⟩|⟨c54,H⟩
              ·have c54b0:decide ((l1_0.length:Int)≤(rd y80 x72_2))=true:=decide_eq_true c54;clear c54;obtain rfl:=Option.some.inj H;obtain ⟨p79,q79,ad79,e79,hx79_0⟩:=zp (Kd.at_int (Kd.R_reads' HO_70.out).2.2 x72_2)
               cases e79
               replace p79:=eq_true p79;replace q79:=eq_true q79
               go_wp2
               go_ret
               exact ⟨ze,zv2 HB GE74 GE73⟩
              ·have c54b0:decide ((l1_0.length:Int)≤(rd y80 x72_2))=false:=decide_eq_false c54;clear c54;obtain ⟨c55b0,H⟩:=ifd1 H;obtain ⟨c56b0,H⟩:=ifd1 H
               obtain ⟨bq57,hbq57⟩:∃ b_:Bool,b_=(rdOf false x6_2 (rd y80 x72_2)):=⟨_,rfl⟩
               replace H:(if bq57=true then (some false) else (solve_shape.l1 k2 l0 (l1_0.length:Int) (x6_2.set ((rd y80 x72_2):Int).toNat true) x25_1 l1_0 (l1_0.length:Int) x25_1 y80 (y80.length:Int) (wrap64 (x72_2+1))))=some r:=by rw [← hbq57] at H;exact H
               have Nbq57:=zA hbq57;clear hbq57
               by_cases c58:bq57=true
               ·subst c58
                have H1:(some false)=some r:=by rw [if_pos rfl] at H;exact H
                clear H;have H:=H1;clear H1;obtain rfl:=Option.some.inj H;obtain ⟨p79,q79,ad79,e79,hx79_0⟩:=zp (Kd.at_int (Kd.R_reads' HO_70.out).2.2 x72_2)
                cases e79
                replace p79:=eq_true p79;replace q79:=eq_true q79;obtain ⟨Ao59,co59,eo59⟩:=Kd.R_slice HO_6.out;subst eo59;obtain ⟨p85,q85,ad85,e85,hx85_0⟩:=zp (Kd.at_bool (Kd.R_reads' HO_6.out).2.2 (rd y80 x72_2));(try rw [← Nbq57.out] at hx85_0)
                cases e85
                replace p85:=eq_true p85;replace q85:=eq_true q85
                go_wp2
                go_ret
                exact ⟨ze,zv2 HB GE74 GE73⟩
               ·replace c58:=Bool.eq_false_iff.mpr c58;subst c58
                have H1:(solve_shape.l1 k2 l0 (l1_0.length:Int) (x6_2.set ((rd y80 x72_2):Int).toNat true) x25_1 l1_0 (l1_0.length:Int) x25_1 y80 (y80.length:Int) (wrap64 (x72_2+1)))=some r:=by rw [if_neg (show ¬ (false=true) by decide)] at H;exact H
                clear H;have H:=H1;clear H1
                first|(replace H:=zyb (x6_2.set ((rd y80 x72_2):Int).toNat true) H;obtain ⟨y93,Ny93,H⟩:=H)|(obtain ⟨y93,hy93⟩:=zY (x6_2.set ((rd y80 x72_2):Int).toNat true);(try rw (occs:=.pos [1]) [← hy93] at H);have Ny93:=zA hy93;clear hy93)
                have H':=zA H;clear H;obtain ⟨p79,q79,ad79,e79,hx79_0⟩:=zp (Kd.at_int (Kd.R_reads' HO_70.out).2.2 x72_2)
                cases e79
                replace p79:=eq_true p79;replace q79:=eq_true q79;obtain ⟨Ao61,co61,eo61⟩:=Kd.R_slice HO_6.out;subst eo61;obtain ⟨p85,q85,ad85,e85,hx85_0⟩:=zp (Kd.at_bool (Kd.R_reads' HO_6.out).2.2 (rd y80 x72_2));(try rw [← Nbq57.out] at hx85_0)
                cases e85
                replace p85:=eq_true p85;replace q85:=eq_true q85;have p60:0≤((rd y80 x72_2):Int):=of_decide_eq_true zh;have q60:((rd y80 x72_2):Int)<((x6_2.length:Int):Int):=of_decide_eq_true zh;obtain ⟨go60,co60,eo60,gb60,gl60,cl60,HG60⟩:=Kd.R_form HO_6.out (by omega)
                (first|cases eo60|(injection eo60 with ea_ en_ ec_;(first|subst ea_|(injection ea_ with ea_;subst ea_));subst ec_;clear en_))
                have GB60:=zA gb60;have GG60:=zA HG60;clear gb60 gl60 HG60
                (first|simp only [add_plain] at hx85_0|skip)
                obtain ⟨hx60_0,hf60_0⟩:=Kd.R_celln false HO_6.out ((rd y80 x72_2):Int) p60 q60;replace p60:=eq_true p60;replace q60:=eq_true q60;have HP62:=Kd.R_putg HO_6.out ((rd y80 x72_2):Int) true
                go_wp2_with (first|((with_reducible refine gate_store (t:=4) (p:=92) rfl ?_);refine store_event (t:=4) (p:=92) (v:=?vo_w63) (w1:=(wr.setCell ⟨go60,((rd y80 x72_2):Int).toNat,none⟩ (.bool true))) ?hg ?ho ?hn ?hr ?_;(case ho=>rfl);(case hg=>rfl);(case hn=>rfl);(case hr=>first|(go_simp;done)|(go_simp;rfl));intro w63 hw;have hg:wr.grownBy w63 (some go60):=(by rw [hw];exact HP62.2);have hp_:Kd.R Kd.bool 4 w63 w.heap.size (fun _=>True) (.slice (some ⟨go60,0,none⟩) x6_2.length co61) y93:=(by rw [hw,Ny93.out];exact HP62.1);clear HP62;replace HO_70:=zA (Kd.R_over' (v:=(.slice (some ⟨go60,0,none⟩) x6_2.length co61)) (zR HO_70) (Kd.R_typed HO_6.out) (by decide) hg);replace BK74:=zA (blk_grown (g:=gb74) (o:=.cells #[.slice (some ad82) l1_0.length c1_0] 25 (0,0)) (zk BK74) hg (Kd.R_ne HO_6.out BK74.out (by decide)));replace BK73:=zA (blk_grown (g:=gb73) (o:=.cells #[.int .i64 ((rd_T55 l1_0 x25_1).f0),.int .i64 ((rd_T55 l1_0 x25_1).f1),.int .i64 ((rd_T55 l1_0 x25_1).f2),.int .i64 ((rd_T55 l1_0 x25_1).f3)] 55 (0,0)) (zk BK73) hg (Kd.R_ne HO_6.out BK73.out (by decide)));replace HO_6:=zA (hp_);replace HB:=zA ((by rw [hw];exact below_set (HB.out) GB60.out:Below w.heap.size w w63));clear hg hw hp_))
                go_roundg k2
                case measure=>have:=HK1.out;have:=HK2.out;omega
                case rel=>exact ⟨(y93),(wrap64 (x72_2+1)),zT,H',⟨by have:=HK1.out;have:=HK2.out;omega⟩,⟨by refine zr ?_;exact HO_6.out⟩,⟨by refine zr ?_;exact HO_70.out⟩,⟨by refine zj ?_;exact BK74.out⟩,⟨by refine zj ?_;exact BK73.out⟩,⟨zv2 HB GE74 GE73⟩⟩
            ·have H':=zA H;clear H
             go_wp2
             go_roundg k2
             case measure=>have:=HK1.out;have:=HK2.out;omega
             case rel=>exact ⟨(x6_2),(wrap64 (x25_1+1)),zT,H',⟨by have:=HK1.out;have:=HK2.out;omega⟩,⟨by refine zr ?_;exact HO_6.out⟩,⟨by refine zj ?_;exact BK74.out⟩,⟨zv2 HB GE74 GE73⟩⟩
         ·obtain rfl:=Option.some.inj H;have hnb64:=NB73_74.out;have hnc64:=NB74_73.out;have hcz65_0:=zc0 BK73;have hcz65_1:=zc1 BK73;have hcz65_2:=zc2 BK73;have hcz65_3:=zc3 BK73;have hfz65_0:=zf BK73
          go_wp2
          go_ret
          exact ⟨ze,zv2 HB GE74 GE73⟩
     ·(first|rw [c16b0]|(simp only [i64_w,i32_w];rw [c16b0])|skip)
      obtain ⟨c66,H⟩:=if1 H;have c66b0:=eq_true c66;have c66b1:decide (1≤(x6_1.length:Int))=true:=decide_eq_true c66;clear c66
      first|(replace H:=zyb (x6_1.drop 1) H;obtain ⟨y88,Ny88,H⟩:=H)|(obtain ⟨y88,hy88⟩:=zY (x6_1.drop 1);(try rw (occs:=.pos [1]) [← hy88] at H);have Ny88:=zA hy88;clear hy88)
      obtain ⟨t128,A67,H⟩:=zo H;obtain rfl:=Option.some.inj H;obtain ⟨Ao69,co69,eo69⟩:=Kd.R_slice HO_6.out;subst eo69;have q68:(1:Int)≤((x6_1.length:Int):Int):=of_decide_eq_true zh;obtain ⟨i068,hi068,_,hsz68,_⟩:=info_parts info4;have hroom68:x6_1.length≤co69:=(Kd.R_reads' HO_6.out).2.1;have hC68:Kd.C Kd.bool _ Ao69 x6_1.length x6_1:=(Kd.R_reads' HO_6.out).2.2;have hcut68:=cut_from (P:=Try.prog) 67 4 .i64 Try.underlying67 hi068 1 hsz68 Ao69 x6_1.length co69 1 (by omega) q68;have hr68:=Kd.C_drop (m:=(1:Int).toNat) (c:=co69) hC68 (by omega) hroom68
      obtain ⟨A68,hA68⟩:∃ A1,A1=(if co69=(1:Int).toNat then Ao69 else (Ao69:Option Addr).map (·.add ((1:Int).toNat * 1))):=⟨_,rfl⟩
      obtain ⟨c68,hc68⟩:∃ c1,c1=co69 - (1:Int).toNat:=⟨_,rfl⟩
      have hy68:y88.length=x6_1.length - (1:Int).toNat:=(by rw [Ny88.out,List.length_drop] <;> omega)
      rw [show (x6_1).drop (1:Int).toNat=y88 from Ny88.out.symm] at hr68
      replace hr68:Kd.C Kd.bool _ A68 y88.length y88:=(by rw [hA68];exact hr68)
      rw [← hy68,← hA68,← hc68] at hcut68;have HR99:=zA hr68;have HC99:=zA (show y88.length≤c68 from by rw [hy68,hc68];exact Nat.sub_le_sub_right hroom68 _);clear hr68 hC68 hroom68 hi068 hsz68 hc68;have KY68:=zA hy68;have KA68:=zA hA68;clear hy68 hA68;have KL68:=zA (show 1≤x6_1.length from by omega);replace q68:=eq_true q68
      go_wp2_with (first|((with_reducible refine gate_callee (f:=34) rfl ?_);refine zgo 97 Try.func34 #[.slice A68 y88.length c68,.bool false] ?_;(with_reducible refine (slices_Contains_bool_bool.calls k1 _ _ y88 false t128 _ ?side1 HC99.out A67.out).mono ?_);(case side1=>repeat (first|exact (by repeat (first|(with_reducible exact HR99.out)|(with_reducible refine Kd.C_alloc ?_ _)|(with_reducible refine Kd.C_drewN ?_ _)|(with_reducible refine Kd.C_drew ?_)|exact HR99.out))|(with_reducible refine Kd.C_alloc ?_ _)|(with_reducible refine Kd.C_drewN ?_ _)|(with_reducible refine Kd.C_drew ?_)));rintro e w' ⟨rfl,⟨nd,rfl⟩⟩;refine ⟨_,rfl,?_⟩))
      go_ret
      exact ⟨ze,zv1 HB GE74⟩
def solve_choices_with.f (a0_0:Int) (a0_1:Int) (a1:Int) (a2:Int):Option (Int×Int):=if 0≤a1 then (some (Go.bits .or .i64 a0_0 (shl .i64 1 a1),Go.bits .or .i64 (Go.bits .andNot .i64 a0_1 (shl .i64 1 a1)) (shl .i64 a2 a1))) else (none)
def solve_choices_with.T1:Bool×List (List Nat×List Nat):=(true,[([],[]),([0],[0]),([],[]),([2],[2]),([1,3],[1,3]),([],[]),([5],[5]),([],[]),([7],[7]),([6,8],[6,8]),([],[]),([],[]),([10,11],[10,11]),([9,12],[9,12]),([4,13],[4,13]),([14,0,1,2,3,4,5,6,7,8,9,10,11,12,13,14],[14])])
def solve_choices_with.B1:List Nat:=[0,1,0,4,15,0,32,0,128,480,0,0,3072,8160,16383,32767]
theorem solve_choices_with.tab1:rtab .any (opsOf Try.f27 1)=solve_choices_with.T1:=by kernel_rfl
theorem solve_choices_with.bits1:waitsOk solve_choices_with.T1.2 solve_choices_with.B1=true:=by kernel_rfl
set_option maxHeartbeats 8000000 in
set_option maxRecDepth 100000 in
theorem solve_choices_with.calls (a0_0:Int) (a0_1:Int) (a1:Int) (a2:Int) (r1:Int) (r2:Int) (w:World) (h:solve_choices_with.f a0_0 a0_1 a1 a2=some (r1,r2)) :
  Calls Try.prog 27 #[.agg #[.int .i64 a0_0,.int .i64 a0_1],.int .i64 a1,.int .i64 a2] w fun e w'=>e=.returned (.agg #[.int .i64 r1,.int .i64 r2])∧Below w.heap.size w w':=by
 have HB:=zA (Below.refl w.heap.size w);have H:(if 0≤a1 then (some (Go.bits .or .i64 a0_0 (shl .i64 1 a1),Go.bits .or .i64 (Go.bits .andNot .i64 a0_1 (shl .i64 1 a1)) (shl .i64 a2 a1))) else (none))=some (r1,r2):=h;clear h;obtain ⟨c4,H⟩:=if1 H;have c4b0:=eq_true c4;have c4b1:decide (0≤a1)=true:=decide_eq_true c4;clear c4;obtain ⟨ji5,hji5⟩:=zZ (shl .i64 1 a1)
 first|rw [hji5] at H|simp only [hji5] at H
 have hji5_:(IntKind.i64.wrap (1 * 2 ^ min a1.toNat 64))=ji5:=hji5;have hji5z:a1≤64→(IntKind.i64.wrap (1 * 2 ^ a1.toNat))=ji5:=shl_small hji5
 have hji5u:(IntKind.i64.wrap (2 ^ min a1.toNat 64))=ji5:=by have h_:=hji5_;rw [Int.one_mul] at h_;exact h_
 have hji5v:a1≤64→(IntKind.i64.wrap (2 ^ a1.toNat))=ji5:=fun hle_=>by have h_:=hji5z hle_;rw [Int.one_mul] at h_;exact h_
 have hji5y:(wrap64 (1 * 2 ^ min a1.toNat 64))=ji5:=(i64_w _).symm.trans hji5_
 have hji5x:a1≤64→(wrap64 (1 * 2 ^ a1.toNat))=ji5:=fun h_=>(i64_w _).symm.trans (hji5z h_)
 have c6b0:=eq_true (of_decide_eq_true zh:0≤a1);have c7b0:=eq_true (of_decide_eq_true zh:0≤a1);obtain ⟨ji8,hji8⟩:=zZ (shl .i64 a2 a1)
 first|rw [hji8] at H|simp only [hji8] at H
 have hji8_:(IntKind.i64.wrap (a2 * 2 ^ min a1.toNat 64))=ji8:=hji8;have hji8z:a1≤64→(IntKind.i64.wrap (a2 * 2 ^ a1.toNat))=ji8:=shl_small hji8;have hji8y:(wrap64 (a2 * 2 ^ min a1.toNat 64))=ji8:=(i64_w _).symm.trans hji8_
 have hji8x:a1≤64→(wrap64 (a2 * 2 ^ a1.toNat))=ji8:=fun h_=>(i64_w _).symm.trans (hji8z h_)
 simp only [Option.some.injEq,Prod.mk.injEq] at H;obtain ⟨rfl,rfl⟩:=H
 go_enter Try.func27,Try.ntmps27
 try go_wp2_with (first|((with_reducible refine gd 3 rfl ?_);refine zx #[.int .i64 a0_0,.int .i64 a0_1] 48 ?_;intro gb83 hg w9 BK83 hb GW83 HB1;have GE83:=GW83;clear HB hb hg;have HB:=HB1;clear HB1)|((with_reducible refine gd 6 rfl ?_);refine zx #[.int .i64 0,.int .i64 0] 48 ?_;intro gb81 hg w10 BK81 hb GW81 HB1;have GE81:=GW81;have NB83_81:=zL hg BK83;have NB81_83:=zLs NB83_81;replace BK83:=zw BK83 hb;clear HB hb hg;have HB:=HB1;clear HB1))
 replace BK83:=zA (blk_drew BK83.out);replace BK81:=zA (blk_drew BK81.out);replace HB:=zA (below_drew1 HB.out);refine start_ (n:=16) (S:=fun w'=>w'.cell? ⟨gb83,0,none⟩=some (.int .i64 a0_0)∧w'.cell? ⟨gb83,1,none⟩=some (.int .i64 a0_1)) (ds:=[]) (bz 16 0) zK rfl rfl ⟨zc0 BK83,zc1 BK83⟩ (fun hHeld=>?_);refine with_tabW solve_choices_with.tab1 solve_choices_with.bits1 (fun HT_ HW_=>?_)
 generalize w10.drew=w11 at BK83 BK81 HB hHeld ⊢
 refine zP 0 7 (bz 16 1) HT_ ?_;refine zP 2 9 (bz 16 5) HT_ ?_;refine zP 3 10 (bz 16 13) HT_ ?_;refine zP 5 12 (bz 16 45) HT_ ?_;refine zP 7 14 (bz 16 173) HT_ ?_;refine zP 8 15 (bz 16 429) HT_ ?_;refine zP 10 17 (bz 16 1453) HT_ ?_;refine zP 11 18 (bz 16 3501) HT_ ?_;refine zP 12 19 (bz 16 7597) HT_ ?_;refine zQ 1 8 (bz 16 7599) HT_ HW_ hHeld ?_;refine zP 4 11 (bz 16 7615) HT_ ?_;refine zQ 6 13 (bz 16 7679) HT_ HW_ hHeld ?_;refine zP 9 16 (bz 16 8191) HT_ ?_;refine zP 13 20 (bz 16 16383) HT_ ?_;refine zP 14 21 (bz 16 32767) HT_ ?_;refine one_ (i:=15) (N:=none) (bz 16 65535) rfl rfl (one_of HT_.out zK) (by decide) (fun K hK=>?_);have hs12:w11.cell? ⟨gb81,0,none⟩=some (.int .i64 0):=zc0 BK81;have hfs12:=zf BK81 0;have hns12_0:=NB83_81.out;have hms12_0:=NB81_83.out;have hs13:w11.cell? ⟨gb81,1,none⟩=some (.int .i64 0):=zc1 BK81;have hfs13:=zf BK81 1;have hns13_0:=NB83_81.out;have hms13_0:=NB81_83.out;refine skip_ (w1:=?_) (by rfl) rfl ?_ ?_;rotate_left
 ·go_simp
  rfl
 refine hK.out _ _ ⟨((cell_far (p:=⟨gb81,_,none⟩) NB83_81.out _).trans (((cell_far (p:=⟨gb81,_,none⟩) NB83_81.out _).trans (hHeld.1)))),((cell_far (p:=⟨gb81,_,none⟩) NB83_81.out _).trans (((cell_far (p:=⟨gb81,_,none⟩) NB83_81.out _).trans (hHeld.2))))⟩ (fun hHeld=>?_);clear hK K;refine done_ (done_of HT_.out zK) ?_
 try go_wp2
 refine bodyPost_ret (results_cell_row rfl _ _ gb81 48 #[.int .i64 (Go.bits .or .i64 a0_0 (ji5)),.int .i64 (Go.bits .or .i64 (Go.bits .andNot .i64 a0_1 (ji5)) (ji8))] (0,0) _ rfl (by refine zj ?_;refine blk_put (cs:=#[.int .i64 (Go.bits .or .i64 a0_0 (ji5)),.int .i64 0]) ?_ 1 _ rfl;refine zj ?_;refine blk_put (cs:=#[.int .i64 0,.int .i64 0]) ?_ 0 _ rfl;refine zj ?_;exact BK81.out) Try.underlying48 rfl zK) rfl ?_;exact ⟨by first|rfl|(simp [errW_none,errW_some] <;> rfl)|(simp only [← hji5,← hji8];first|rfl|(simp [errW_none,errW_some] <;> rfl))|(simp [*,errW_none,errW_some] <;> rfl),zv2 HB GE83 GE81⟩
def solve_row.l0:Nat→Int→Int→List Int→Int→Int→Option (Int)
 | 0,_,_,_,_,_=>none
 | k+1,x1,x5,x9,x10,x11=>if x11<x10 then (if 0≤x11 then (if x11<(x9.length:Int) then (if 0≤(rd x9 x11) then (solve_row.l0 k x1 (Go.bits .or .i64 x5 (shl .i64 (Go.bits .and .i64 (shr .i64 x1 (rd x9 x11)) 1) x11)) x9 x10 (wrap64 (x11+1))) else (none)) else (none)) else (none)) else (some x5)
def solve_row.f (k:Nat) (l0_0:List Int) (l0_1:List Int) (a1:Int):Option (Int):=solve_row.l0 k a1 0 l0_0 (l0_0.length:Int) 0
theorem solve_row.mono_l:∀ k,(∀ y0 y1 y2 y3 y4,LeO (solve_row.l0 k y0 y1 y2 y3 y4) (solve_row.l0 (k+1) y0 y1 y2 y3 y4))
 | 0=>fun _ _ _ _ _ r h=>by simp [solve_row.l0] at h
 | k+1=>by
  have ih0:=solve_row.mono_l k
  ·intro y0 y1 y2 y3 y4
   unfold solve_row.l0
   repeat' first
   | (with_reducible exact ih0 _ _ _ _ _)
   | (with_reducible exact LeO.refl _)
   | (with_reducible exact LeO.none _)
   | (with_reducible refine LeO.ite ?_ ?_)
   | (with_reducible refine LeO.bind ?_ (fun _=>?_))
   | exact LeO.none _
   | refine LeO.ite ?_ ?_
   | refine LeO.bind ?_ (fun _=>?_)
theorem solve_row.mono:∀ a0 a1 a2 k,LeO (solve_row.f k a0 a1 a2) (solve_row.f (k+1) a0 a1 a2):=by
 intro a0 a1 a2 k;have ih0:=solve_row.mono_l k
 unfold solve_row.f
 repeat' first
   | (with_reducible exact ih0 _ _ _ _ _)
   | (with_reducible exact LeO.refl _)
   | (with_reducible exact LeO.none _)
   | (with_reducible refine LeO.ite ?_ ?_)
   | (with_reducible refine LeO.bind ?_ (fun _=>?_))
   | exact LeO.none _
   | refine LeO.ite ?_ ?_
   | refine LeO.bind ?_ (fun _=>?_)
set_option maxHeartbeats 8000000 in
set_option maxRecDepth 100000 in
theorem solve_row.calls (k:Nat) (A0_0:Option Addr) (c0_0:Nat) (l0_0:List Int) (A0_1:Option Addr) (c0_1:Nat) (l0_1:List Int) (a1:Int) (r:Int) (w:World) (hr0_0:Kd.C (Kd.int .i64) w A0_0 l0_0.length l0_0) (hc0_0:l0_0.length≤c0_0) (hr0_1:Kd.C (Kd.int .i64) w A0_1 l0_1.length l0_1) (hc0_1:l0_1.length≤c0_1) (h:solve_row.f k l0_0 l0_1 a1=some r) :
  Calls Try.prog 45 #[.agg #[.slice A0_0 l0_0.length c0_0,.slice A0_1 l0_1.length c0_1],.int .i64 a1] w fun e w'=>e=.returned (.int .i64 r)∧Below w.heap.size w w':=by
 have HR0_0:=zA hr0_0;have HC0_0:=zA hc0_0;clear hr0_0 hc0_0;have HR0_1:=zA hr0_1;have HC0_1:=zA hc0_1;clear hr0_1 hc0_1;have HB:=zA (Below.refl w.heap.size w);have H:(solve_row.l0 k a1 0 l0_0 (l0_0.length:Int) 0)=some r:=h;clear h;have H':=zA H;clear H
 go_enter Try.func45,Try.ntmps45
 go_wp2_with (first|((with_reducible refine gd 2 rfl ?_);refine zx #[.slice A0_0 l0_0.length c0_0,.slice A0_1 l0_1.length c0_1] 35 ?_;intro gb89 hg w3 BK89 hb GW89 HB1;have GE89:=GW89;clear HB hb hg;have HB:=HB1;clear HB1;have hcz4_0:=zc0 BK89;have hcz4_1:=zc1 BK89;have hfz4_0:=zf BK89))
 go_loopg [5,11] k (fun kq v5 v11 w'=>∃ (x5_1:Int) (x11_1:Int),v5=.int .i64 x5_1∧v11=.int .i64 x11_1∧Aside0 (solve_row.l0 kq a1 x5_1 l0_0 (l0_0.length:Int) x11_1=some r)∧Aside0 (kq≤k)∧Aside0 (w'.heap[gb89]?=some (.cells #[(.slice A0_0 l0_0.length c0_0),(.slice A0_1 l0_1.length c0_1)] 35 (0,0)))∧Aside0 (Below w.heap.size w w'))
 case atStart=>exact ⟨(0),(0),zT,zT,H',⟨Nat.le_refl _⟩,⟨by refine zj ?_;exact BK89.out⟩,⟨zv1 HB GE89⟩⟩
 case round=>
  clear H'
  try clear hcz4_0
  try clear hcz4_1
  try clear hfz4_0
  try clear hfz4_1
  obtain ⟨x5_1,x11_1,rfl,rfl,HA,HK1,BK89,HB⟩:=hrel
  cases gk with
  | zero=>exact absurd HA.out (by simp [solve_row.l0])
  | succ k1=>
   have H:=HA.out;clear HA;simp only [solve_row.l0] at H
   rcases ifd H with ⟨c5b0,H⟩|⟨c5b0,H⟩
   ·obtain ⟨c6b0,H⟩:=ifd1 H;obtain ⟨c7b0,H⟩:=ifd1 H;obtain ⟨c8,H⟩:=if1 H;have c8b0:=eq_true c8;have c8b1:decide (0≤(rd l0_0 x11_1))=true:=decide_eq_true c8;clear c8;obtain ⟨ji9,hji9⟩:=zZ (shr .i64 a1 (rd l0_0 x11_1))
    first|rw [hji9] at H|simp only [hji9] at H
    have hji9_:(a1 / 2 ^ min (rd l0_0 x11_1).toNat 64)=ji9:=hji9;have hji9z:(rd l0_0 x11_1)≤64→(a1 / 2 ^ (rd l0_0 x11_1).toNat)=ji9:=shr_small hji9;have c10b0:=eq_true (of_decide_eq_true zh:0≤x11_1);obtain ⟨ji11,hji11⟩:=zZ (shl .i64 (Go.bits .and .i64 (ji9) 1) x11_1)
    first|rw [hji11] at H|simp only [hji11] at H
    have hji11_:(IntKind.i64.wrap ((Go.bits .and .i64 (ji9) 1) * 2 ^ min x11_1.toNat 64))=ji11:=hji11;have hji11z:x11_1≤64→(IntKind.i64.wrap ((Go.bits .and .i64 (ji9) 1) * 2 ^ x11_1.toNat))=ji11:=shl_small hji11;have hji11y:(wrap64 ((Go.bits .and .i64 (ji9) 1) * 2 ^ min x11_1.toNat 64))=ji11:=(i64_w _).symm.trans hji11_
    have hji11x:x11_1≤64→(wrap64 ((Go.bits .and .i64 (ji9) 1) * 2 ^ x11_1.toNat))=ji11:=fun h_=>(i64_w _).symm.trans (hji11z h_)
    have H':=zA H;clear H;obtain ⟨p91,q91,ad91,e91,hx91_0⟩:=zp (Kd.at_int HR0_0.out x11_1)
    cases e91
    replace hx91_0:=zd HB hx91_0;replace p91:=eq_true p91;replace q91:=eq_true q91
    go_wp2
    go_roundg k1
    case measure=>have:=HK1.out;omega
    case rel=>exact ⟨(Go.bits .or .i64 x5_1 (ji11)),(wrap64 (x11_1+1)),(by first|rfl|(simp;done)|(simp only [← hji11] <;> (first|rfl|simp))|(simp [*];done)),zT,H',⟨by have:=HK1.out;omega⟩,⟨by refine zj ?_;exact BK89.out⟩,⟨zv1 HB GE89⟩⟩
   ·obtain rfl:=Option.some.inj H
    go_wp2
    go_ret
    exact ⟨ze,zv1 HB GE89⟩
def solve_choices_fails_1_v1.f (a0:Int) (a1_0:Int) (a2_0:Int):Option (Bool):=some ((Go.bits .and .i64 a0 a1_0) == a2_0)
set_option maxHeartbeats 8000000 in
set_option maxRecDepth 100000 in
theorem solve_choices_fails_1_v1.calls (a0:Int) (gp1_0:Nat) (a1_0:Int) (gp2_0:Nat) (a2_0:Int) (r:Bool) (w:World) (hb_gp1_0:w.heap[gp1_0]?=some (.cells #[.int .i64 a1_0] 3 (0,0))) (hb_gp2_0:w.heap[gp2_0]?=some (.cells #[.int .i64 a2_0] 3 (0,0))) (h:solve_choices_fails_1_v1.f a0 a1_0 a2_0=some r) :
  Calls Try.prog 47 #[.int .i64 a0,.pointer (some ⟨gp1_0,0,none⟩),.pointer (some ⟨gp2_0,0,none⟩)] w fun e w'=>e=.returned (.bool r)∧Drawn0 w w':=by
 have BK133:=zA hb_gp1_0;clear hb_gp1_0;have BK134:=zA hb_gp2_0;clear hb_gp2_0;have H:(some ((Go.bits .and .i64 a0 a1_0) == a2_0))=some r:=h;clear h;obtain rfl:=Option.some.inj H;have hcz4_0:w.cell? ⟨gp1_0,0,none⟩=some (.int .i64 a1_0):=zc0 BK133;have hfz4_0:=zf BK133 0;have hcz5_0:w.cell? ⟨gp2_0,0,none⟩=some (.int .i64 a2_0):=zc0 BK134;have hfz5_0:=zf BK134 0
 go_enter Try.func47,Try.ntmps47
 go_wp2
 go_ret
 exact ⟨by first|rfl|(simp;done)|(simp [*];done),by repeat (first|exact Drawn0.refl _|apply Drawn0.step)⟩
end Go.Proofs.Ytkaalbbbpebpdaa.T
