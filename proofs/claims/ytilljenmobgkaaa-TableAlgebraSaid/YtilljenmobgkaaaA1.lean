import Derived.Test.YtilljenmobgkaaaA0
namespace Go.Proofs.Ytilljenmobgkaaa.A
open Go.RowKit Go.Proofs.YtilljenmobgkaaaW.PrintWords Go.Proofs.YtilljenmobgkaaaW.PrintLast Go.Proofs.YtilljenmobgkaaaW.PrintMore
attribute [local go_sem] max2_int min2_int max_two min_two max_three min_three max_four min_four Try.underlying27 Try.underlying29 Try.underlying3 Try.underlying42
set_option linter.unusedVariables false
set_option linter.unusedSimpArgs false
def table_ascending.l0:Nat→List Int→List Int→Int→Int→Option (Int)
 | 0,_,_,_,_=>none
 | k+1,x0,x8,x9,x10=>if x10<x9 then (if 0≤x10 then (if x10<(x8.length:Int) then (if (rd x8 x10)<0 then (some 6) else (if (rd x8 x10)≥24 then (some 6) else (if x10>0 then (if 0≤(wrap64 (x10 - 1)) then (if (wrap64 (x10 - 1))<(x0.length:Int) then (if (rd x0 (wrap64 (x10 - 1)))≥(rd x8 x10) then (some 18) else (table_ascending.l0 k x0 x8 x9 (wrap64 (x10+1)))) else (none)) else (none)) else (table_ascending.l0 k x0 x8 x9 (wrap64 (x10+1)))))) else (none)) else (none)) else (some 0)
def table_ascending.f (k:Nat) (l0:List Int):Option (Int):=if (l0.length:Int)>10 then (some 3) else (table_ascending.l0 k l0 l0 (l0.length:Int) 0)
set_option maxHeartbeats 8000000 in
set_option maxRecDepth 100000 in
theorem table_ascending.calls (k:Nat) (A0:Option Addr) (c0:Nat) (l0:List Int) (r:Int) (w:World) (hr0:Kd.C (Kd.int .i64) w A0 l0.length l0) (hc0:l0.length≤c0) (h:table_ascending.f k l0=some r) :
  Calls Try.prog 23 #[.slice A0 l0.length c0] w fun e w'=>e=.returned (.int .i64 r)∧Drawn0 w w':=by
 have HR0:=zA hr0;have HC0:=zA hc0;clear hr0 hc0;have H:(if (l0.length:Int)>10 then (some 3) else (table_ascending.l0 k l0 l0 (l0.length:Int) 0))=some r:=h;clear h
 rcases if0 H with ⟨c2,H⟩|⟨c2,H⟩
 ·have c2b0:decide (10<(l0.length:Int))=true:=decide_eq_true c2;have c2b1:decide (10<l0.length)=true:=decide_eq_true (by omega);clear c2;obtain rfl:=Option.some.inj H
  go_enter Try.func23,Try.ntmps23
  go_wp2
  go_ret
  exact ⟨by first|rfl|(simp;done)|(simp [*];done),by repeat (first|exact Drawn0.refl _|apply Drawn0.step)⟩
 ·have c2b0:decide (10<(l0.length:Int))=false:=decide_eq_false c2;have c2b1:decide (10<l0.length)=false:=decide_eq_false (by omega);clear c2;have H':=zA H;clear H
  go_enter Try.func23,Try.ntmps23
  go_wp2
  go_loopg [10] k (fun kq v10 w'=>∃ (x10_1:Int),v10=.int .i64 x10_1∧Aside0 (table_ascending.l0 kq l0 l0 (l0.length:Int) x10_1=some r)∧Aside0 (kq≤k)∧Drawn0 w w')
  case atStart=>exact ⟨(0),zT,H',⟨Nat.le_refl _⟩,by repeat (first|exact Drawn0.refl _|apply Drawn0.step)⟩
  case round=>
   clear H'
   try clear c2
   try clear c2b0
   try clear c2b1
   obtain ⟨x10_1,rfl,HA,HK1,⟨m1,rfl⟩⟩:=hrel
   cases gk with
   | zero=>exact absurd HA.out (by simp [table_ascending.l0])
   | succ k1=>
    have H:=HA.out;clear HA;simp only [table_ascending.l0] at H
    rcases ifd H with ⟨c3b0,H⟩|⟨c3b0,H⟩
    ·obtain ⟨c4b0,H⟩:=ifd1 H;obtain ⟨c5b0,H⟩:=ifd1 H
     rcases ifd H with ⟨c6b0,H⟩|⟨c6b0,H⟩
     ·obtain rfl:=Option.some.inj H;obtain ⟨p35,q35,ad35,e35,hx35_0⟩:=zp (Kd.at_int HR0.out x10_1)
      cases e35
      replace p35:=eq_true p35;replace q35:=eq_true q35
      go_wp2
      go_ret
      exact ⟨by first|rfl|(simp;done)|(simp [*];done),by repeat (first|exact Drawn0.refl _|apply Drawn0.step)⟩
     ·rcases if0 H with ⟨c7,H⟩|⟨c7,H⟩
      ·have c7b0:decide (24≤(rd l0 x10_1))=true:=decide_eq_true c7;clear c7;obtain rfl:=Option.some.inj H;obtain ⟨p35,q35,ad35,e35,hx35_0⟩:=zp (Kd.at_int HR0.out x10_1)
       cases e35
       replace p35:=eq_true p35;replace q35:=eq_true q35
       go_wp2
       go_ret
       exact ⟨by first|rfl|(simp;done)|(simp [*];done),by repeat (first|exact Drawn0.refl _|apply Drawn0.step)⟩
      ·have c7b0:decide (24≤(rd l0 x10_1))=false:=decide_eq_false c7;clear c7
       rcases if0 H with ⟨c8,H⟩|⟨c8,H⟩
       ·have c8b0:decide (0<x10_1)=true:=decide_eq_true c8;clear c8;obtain ⟨ji9,hji9⟩:=zZ (wrap64 (x10_1 - 1))
        first|rw [hji9] at H|simp only [hji9] at H
        have hji9w:(IntKind.i64.wrap (x10_1 - 1))=ji9:=(i64_w _).trans hji9;obtain ⟨c10b0,H⟩:=ifd1 H;obtain ⟨c11b0,H⟩:=ifd1 H
        rcases if0 H with ⟨c12,H⟩|⟨c12,H⟩
        ·have c12b0:decide ((rd l0 x10_1)≤(rd l0 (ji9)))=true:=decide_eq_true c12;clear c12;obtain rfl:=Option.some.inj H;obtain ⟨p35,q35,ad35,e35,hx35_0⟩:=zp (Kd.at_int HR0.out x10_1)
         cases e35
         replace p35:=eq_true p35;replace q35:=eq_true q35;obtain ⟨p45,q45,ad45,e45,hx45_0⟩:=zp (Kd.at_int HR0.out (ji9))
         obtain rfl:ad35=ad45:=(by injection e45)
         replace p45:=eq_true p45;replace q45:=eq_true q45
         go_wp2
         go_ret
         exact ⟨by first|rfl|(simp;done)|(simp only [← hji9] <;> (first|rfl|simp))|(simp [*];done),by repeat (first|exact Drawn0.refl _|apply Drawn0.step)⟩
        ·have c12b0:decide ((rd l0 x10_1)≤(rd l0 (ji9)))=false:=decide_eq_false c12;clear c12;have H':=zA H;clear H;obtain ⟨p35,q35,ad35,e35,hx35_0⟩:=zp (Kd.at_int HR0.out x10_1)
         cases e35
         replace p35:=eq_true p35;replace q35:=eq_true q35;obtain ⟨p45,q45,ad45,e45,hx45_0⟩:=zp (Kd.at_int HR0.out (ji9))
         obtain rfl:ad35=ad45:=(by injection e45)
         replace p45:=eq_true p45;replace q45:=eq_true q45
         go_wp2
         go_roundg k1
         case measure=>have:=HK1.out;omega
         case rel=>exact ⟨(wrap64 (x10_1+1)),zT,H',⟨by have:=HK1.out;omega⟩,by repeat (first|exact Drawn0.refl _|apply Drawn0.step)⟩
       ·have c8b0:decide (0<x10_1)=false:=decide_eq_false c8;clear c8;have H':=zA H;clear H;obtain ⟨p35,q35,ad35,e35,hx35_0⟩:=zp (Kd.at_int HR0.out x10_1)
        cases e35
        replace p35:=eq_true p35;replace q35:=eq_true q35
        go_wp2
        go_roundg k1
        case measure=>have:=HK1.out;omega
        case rel=>exact ⟨(wrap64 (x10_1+1)),zT,H',⟨by have:=HK1.out;omega⟩,by repeat (first|exact Drawn0.refl _|apply Drawn0.step)⟩
    ·obtain rfl:=Option.some.inj H
     go_wp2
     go_ret
     exact ⟨by first|rfl|(simp;done)|(simp [*];done),by repeat (first|exact Drawn0.refl _|apply Drawn0.step)⟩
def table_Valid.l0:Nat→List Int→Int→Int→List Int→List Int→Option (Int)
 | 0,_,_,_,_,_=>none
 | k+1,x13,x14,x15,x65,x57=>if x15<x14 then (if 0≤x15 then (if x15<(x13.length:Int) then (if (rd x13 x15)<0 then (some 6) else (if (rd x13 x15)≥(shl .i64 1 (x65.length:Int)) then (some 6) else (if x15>0 then (if 0≤(wrap64 (x15 - 1)) then (if (wrap64 (x15 - 1))<(x57.length:Int) then (if (rd x57 (wrap64 (x15 - 1)))≥(rd x13 x15) then (some 18) else (table_Valid.l0 k x13 x14 (wrap64 (x15+1)) x65 x57)) else (none)) else (none)) else (table_Valid.l0 k x13 x14 (wrap64 (x15+1)) x65 x57)))) else (none)) else (none)) else (some 0)
def table_Valid.f (k:Nat) (l0_0:List Int) (l0_1:List Int):Option (Int):=(table_ascending.f k l0_0).bind fun t66=>(if t66=0 then (table_Valid.l0 k l0_1 (l0_1.length:Int) 0 l0_0 l0_1) else (some t66))
set_option maxHeartbeats 8000000 in
set_option maxRecDepth 100000 in
theorem table_Valid.calls (k:Nat) (A0_0:Option Addr) (c0_0:Nat) (l0_0:List Int) (A0_1:Option Addr) (c0_1:Nat) (l0_1:List Int) (r:Int) (w:World) (hr0_0:Kd.C (Kd.int .i64) w A0_0 l0_0.length l0_0) (hc0_0:l0_0.length≤c0_0) (hr0_1:Kd.C (Kd.int .i64) w A0_1 l0_1.length l0_1) (hc0_1:l0_1.length≤c0_1) (h:table_Valid.f k l0_0 l0_1=some r) :
  Calls Try.prog 17 #[.agg #[.slice A0_0 l0_0.length c0_0,.slice A0_1 l0_1.length c0_1]] w fun e w'=>e=.returned (.int .i64 r)∧Below w.heap.size w w':=by
 have HR0_0:=zA hr0_0;have HC0_0:=zA hc0_0;clear hr0_0 hc0_0;have HR0_1:=zA hr0_1;have HC0_1:=zA hc0_1;clear hr0_1 hc0_1;have HB:=zA (Below.refl w.heap.size w);have H:((table_ascending.f k l0_0).bind fun t66=>(if t66=0 then (table_Valid.l0 k l0_1 (l0_1.length:Int) 0 l0_0 l0_1) else (some t66)))=some r:=h;clear h;obtain ⟨t66,A2,H⟩:=zo H;have HC3:=zA H;clear H
 go_enter Try.func17,Try.ntmps17
 go_upto_if 10 with (first|((with_reducible refine gd 1 rfl ?_);(try (refine gate_guard (by rfl) ?_;dsimp only));refine zx #[.slice A0_0 l0_0.length c0_0,.slice A0_1 l0_1.length c0_1] 29 ?_;intro gb36 hg w4 BK36 hb GW36 HB1;have GE36:=GW36;clear HB hb hg;have HB:=HB1;clear HB1;have hcz5_0:=zc0 BK36;have hcz5_1:=zc1 BK36;have hfz5_0:=zf BK36)|((with_reducible refine gate_callee (f:=23) rfl ?_);refine zgo 8 Try.func23 #[.slice A0_0 l0_0.length c0_0] ?_;(with_reducible refine (table_ascending.calls k _ _ l0_0 t66 _ (zD HR0_0 HB) HC0_0.out A2.out).mono ?_);rintro e w' ⟨rfl,⟨nd,rfl⟩⟩;refine ⟨_,rfl,?_⟩))
 (try simp only [Act.put,zi,zs,zt]);have H:=HC3.out;clear HC3
 rcases ife H with ⟨c6b0,c6b1,H⟩|⟨c6,c6b0,c6b1,H⟩
 ·(first|rw [c6b0]|(simp only [i64_w,i32_w];rw [c6b0])|skip)
  (try rw [c6b1]);have H':=zA H;clear H;have hcz7_0:=zc0 BK36;have hcz7_1:=zc1 BK36;have hfz7_0:=zf BK36
  go_wp2
  go_loopg [15] k (fun kq v15 w'=>∃ (x15_1:Int),v15=.int .i64 x15_1∧Aside0 (table_Valid.l0 kq l0_1 (l0_1.length:Int) x15_1 l0_0 l0_1=some r)∧Aside0 (kq≤k)∧Aside0 (w'.heap[gb36]?=some (.cells #[(.slice A0_0 l0_0.length c0_0),(.slice A0_1 l0_1.length c0_1)] 29 (0,0)))∧Aside0 (Below w.heap.size w w'))
  case atStart=>exact ⟨(0),zT,H',⟨Nat.le_refl _⟩,⟨by refine zj ?_;exact BK36.out⟩,⟨zv1 HB GE36⟩⟩
  case round=>
   clear H'
   try clear c6
   try clear c6b0
   try clear c6b1
   try clear hcz5_0
   try clear hcz5_1
   try clear hcz7_0
   try clear hcz7_1
   try clear hfz5_0
   try clear hfz5_1
   try clear hfz7_0
   try clear hfz7_1
   obtain ⟨x15_1,rfl,HA,HK1,BK36,HB⟩:=hrel
   cases gk with
   | zero=>exact absurd HA.out (by simp [table_Valid.l0])
   | succ k1=>
    have H:=HA.out;clear HA;simp only [table_Valid.l0] at H
    rcases ifd H with ⟨c8b0,H⟩|⟨c8b0,H⟩
    ·obtain ⟨c9b0,H⟩:=ifd1 H;obtain ⟨c10b0,H⟩:=ifd1 H
     rcases ifd H with ⟨c11b0,H⟩|⟨c11b0,H⟩
     ·obtain rfl:=Option.some.inj H;obtain ⟨p24,q24,ad24,e24,hx24_0⟩:=zp (Kd.at_int HR0_1.out x15_1)
      cases e24
      replace hx24_0:=zd HB hx24_0;replace p24:=eq_true p24;replace q24:=eq_true q24
      go_wp2
      go_ret
      exact ⟨ze,zv1 HB GE36⟩
     ·obtain ⟨ji12,hji12⟩:=zZ (shl .i64 1 (l0_0.length:Int))
      first|rw [hji12] at H|simp only [hji12] at H
      have hji12_:(IntKind.i64.wrap (1 * 2 ^ min (l0_0.length:Int).toNat 64))=ji12:=hji12;have hji12z:(l0_0.length:Int)≤64→(IntKind.i64.wrap (1 * 2 ^ (l0_0.length:Int).toNat))=ji12:=shl_small hji12;have hji12p:(IntKind.i64.wrap (1 * 2 ^ min l0_0.length 64))=ji12:=hji12_;have hji12q:(l0_0.length:Int)≤64→(IntKind.i64.wrap (1 * 2 ^ l0_0.length))=ji12:=hji12z
      have hji12r:(IntKind.i64.wrap (2 ^ min l0_0.length 64))=ji12:=by have h_:=hji12p;rw [Int.one_mul] at h_;exact h_
      have hji12s:(l0_0.length:Int)≤64→(IntKind.i64.wrap (2 ^ l0_0.length))=ji12:=fun hle_=>by have h_:=hji12q hle_;rw [Int.one_mul] at h_;exact h_
      have hji12u:(IntKind.i64.wrap (2 ^ min (l0_0.length:Int).toNat 64))=ji12:=by have h_:=hji12_;rw [Int.one_mul] at h_;exact h_
      have hji12v:(l0_0.length:Int)≤64→(IntKind.i64.wrap (2 ^ (l0_0.length:Int).toNat))=ji12:=fun hle_=>by have h_:=hji12z hle_;rw [Int.one_mul] at h_;exact h_
      have hji12y:(wrap64 (1 * 2 ^ min (l0_0.length:Int).toNat 64))=ji12:=(i64_w _).symm.trans hji12_
      have hji12x:(l0_0.length:Int)≤64→(wrap64 (1 * 2 ^ (l0_0.length:Int).toNat))=ji12:=fun h_=>(i64_w _).symm.trans (hji12z h_)
      rcases if0 H with ⟨c13,H⟩|⟨c13,H⟩
      ·have c13b0:decide ((ji12)≤(rd l0_1 x15_1))=true:=decide_eq_true c13;clear c13;obtain rfl:=Option.some.inj H;obtain ⟨p24,q24,ad24,e24,hx24_0⟩:=zp (Kd.at_int HR0_1.out x15_1)
       cases e24
       replace hx24_0:=zd HB hx24_0;replace p24:=eq_true p24;replace q24:=eq_true q24;have hcz14_0:=zc0 BK36;have hcz14_1:=zc1 BK36;have hfz14_0:=zf BK36
       go_wp2
       go_ret
       exact ⟨by first|rfl|(simp [errW_none,errW_some] <;> rfl)|(simp only [← hji12];first|rfl|(simp [errW_none,errW_some] <;> rfl))|(simp [*,errW_none,errW_some] <;> rfl),zv1 HB GE36⟩
      ·have c13b0:decide ((ji12)≤(rd l0_1 x15_1))=false:=decide_eq_false c13;clear c13
       rcases if0 H with ⟨c15,H⟩|⟨c15,H⟩
       ·have c15b0:decide (0<x15_1)=true:=decide_eq_true c15;clear c15;obtain ⟨ji16,hji16⟩:=zZ (wrap64 (x15_1 - 1))
        first|rw [hji16] at H|simp only [hji16] at H
        have hji16w:(IntKind.i64.wrap (x15_1 - 1))=ji16:=(i64_w _).trans hji16;obtain ⟨c17b0,H⟩:=ifd1 H;obtain ⟨c18b0,H⟩:=ifd1 H
        rcases if0 H with ⟨c19,H⟩|⟨c19,H⟩
        ·have c19b0:decide ((rd l0_1 x15_1)≤(rd l0_1 (ji16)))=true:=decide_eq_true c19;clear c19;obtain rfl:=Option.some.inj H;obtain ⟨p24,q24,ad24,e24,hx24_0⟩:=zp (Kd.at_int HR0_1.out x15_1)
         cases e24
         replace hx24_0:=zd HB hx24_0;replace p24:=eq_true p24;replace q24:=eq_true q24;have hcz20_0:=zc0 BK36;have hcz20_1:=zc1 BK36;have hfz20_0:=zf BK36;obtain ⟨p43,q43,ad43,e43,hx43_0⟩:=zp (Kd.at_int HR0_1.out (ji16))
         obtain rfl:ad24=ad43:=(by injection e43)
         replace hx43_0:=zd HB hx43_0;replace p43:=eq_true p43;replace q43:=eq_true q43
         go_wp2
         go_ret
         exact ⟨by first|rfl|(simp [errW_none,errW_some] <;> rfl)|(simp only [← hji12,← hji16];first|rfl|(simp [errW_none,errW_some] <;> rfl))|(simp [*,errW_none,errW_some] <;> rfl),zv1 HB GE36⟩
        ·have c19b0:decide ((rd l0_1 x15_1)≤(rd l0_1 (ji16)))=false:=decide_eq_false c19;clear c19;have H':=zA H;clear H;obtain ⟨p24,q24,ad24,e24,hx24_0⟩:=zp (Kd.at_int HR0_1.out x15_1)
         cases e24
         replace hx24_0:=zd HB hx24_0;replace p24:=eq_true p24;replace q24:=eq_true q24;have hcz21_0:=zc0 BK36;have hcz21_1:=zc1 BK36;have hfz21_0:=zf BK36;obtain ⟨p43,q43,ad43,e43,hx43_0⟩:=zp (Kd.at_int HR0_1.out (ji16))
         obtain rfl:ad24=ad43:=(by injection e43)
         replace hx43_0:=zd HB hx43_0;replace p43:=eq_true p43;replace q43:=eq_true q43
         go_wp2
         go_roundg k1
         case measure=>have:=HK1.out;omega
         case rel=>exact ⟨(wrap64 (x15_1+1)),zT,H',⟨by have:=HK1.out;omega⟩,⟨by refine zj ?_;exact BK36.out⟩,⟨zv1 HB GE36⟩⟩
       ·have c15b0:decide (0<x15_1)=false:=decide_eq_false c15;clear c15;have H':=zA H;clear H;obtain ⟨p24,q24,ad24,e24,hx24_0⟩:=zp (Kd.at_int HR0_1.out x15_1)
        cases e24
        replace hx24_0:=zd HB hx24_0;replace p24:=eq_true p24;replace q24:=eq_true q24;have hcz22_0:=zc0 BK36;have hcz22_1:=zc1 BK36;have hfz22_0:=zf BK36
        go_wp2
        go_roundg k1
        case measure=>have:=HK1.out;omega
        case rel=>exact ⟨(wrap64 (x15_1+1)),zT,H',⟨by have:=HK1.out;omega⟩,⟨by refine zj ?_;exact BK36.out⟩,⟨zv1 HB GE36⟩⟩
    ·obtain rfl:=Option.some.inj H
     go_wp2
     go_ret
     exact ⟨ze,zv1 HB GE36⟩
 ·(first|rw [c6b0]|(simp only [i64_w,i32_w];rw [c6b0])|skip)
  (try rw [c6b1]);obtain rfl:=Option.some.inj H
  go_wp2
  go_ret
  exact ⟨ze,zv1 HB GE36⟩
section
open Go.Sort Go.Shelf
def slices_Grow_int_int.f (l0:List Int) (a1:Int):Option (List Int):=if 0≤a1 then (if l0.length+(a1:Int).toNat≤17592186044416 then some l0 else none) else none
theorem slices_Grow_int_int.calls (P0_:Nat→Prop) (u54_:Value) (l0:List Int) (a1:Int) (r:List Int) (w0 w:World) (hB:Below w0.heap.size w0 w) (ho0:Kd.R (Kd.int .i64) 3 w w0.heap.size P0_ u54_ l0) (h:slices_Grow_int_int.f l0 a1=some r) :
 Calls Try.prog 37 #[u54_,.int .i64 a1] w fun e w'=>∃ v0_:Value,e=.returned (v0_)∧Kd.R (Kd.int .i64) 3 w' w0.heap.size (fun k_=>(P0_ k_∨w.heap.size≤k_)) v0_ r∧Below w0.heap.size w0 w'∧Kept w w' (fun k_=>P0_ k_):=by
 unfold slices_Grow_int_int.f at h
 by_cases h0:0≤a1
 ·rw [if_pos h0] at h
  by_cases h1:l0.length+(a1:Int).toNat≤17592186044416
  ·rw [if_pos h1] at h;obtain rfl:=Option.some.inj h
   obtain ⟨n,rfl⟩:∃ n:Nat,a1=(n:Int):=⟨a1.toNat,by omega⟩
   rw [Int.toNat_natCast] at h1;obtain ⟨A,c,rfl⟩:=Kd.R_slice ho0;have ho:=Kd.own_of_R (enc:=Value.int .i64) (h1:=fun _=>rfl) ho0
   have hlc:l0.length≤c∧c≤maxLen:=by
    rcases ho.2 with ⟨e1,e2⟩|⟨g,cap,cur,e1,_,_,e2,e3,_⟩
    ·injection e1 with _ _ e3
     subst e3;exact ⟨by omega,by unfold maxLen;omega⟩
    ·injection e1 with _ _ e4
     subst e4;exact ⟨e2,e3⟩
   have hm:=hlc.2
   unfold maxLen at hm
   by_cases hroom:l0.length+n≤c
   ·refine (Any8.slices_Grow_room laysGrow A l0.length c n w hlc.1 (by omega) (by omega) hroom).mono ?_;rintro e w' ⟨rfl,rfl⟩;exact ⟨_,rfl,Kd.R_mono ho0 (fun k hk=>.inl hk),hB,Kept.refl _ _⟩
   ·obtain ⟨cs,hcl,hnil,hcs,htk⟩:∃ cs:List Value,cs.length=c∧(A=none→c=0)∧(∀ a,A=some a→∀ j v,cs[j]?=some v→w.cell? (a.add j)=some v)∧cs.take l0.length=l0.map (Value.int .i64):=by
     rcases ho.2 with ⟨e1,e2⟩|⟨g,cap,cur,e1,_,hg,e2,e3,e4,e5⟩
     ·injection e1 with e1 e4 e3
      subst e1 e3;have hl:l0=[]:=List.eq_nil_of_length_eq_zero e2;subst hl;exact ⟨[],rfl,fun _=>rfl,fun a ha=>by simp at ha,rfl⟩
     ·injection e1 with e1 _ e6
      subst e1 e6;refine ⟨cur.toList,by simpa using e4,fun h=>by simp at h,fun a ha j v hv=>?_,by simpa [encs] using e5⟩;obtain rfl:=Option.some.inj ha
      have hadd:(⟨g,0,none⟩:Addr).add j=⟨g,j,none⟩:=by
       unfold Addr.add
       split
       ·rename_i hj;rw [hj]
       ·simp
      rw [hadd];exact (blk_cell hg j).trans (by simpa using hv)
    have hi0:=info3;obtain ⟨i0,hi,hz,hs,hby⟩:=info_parts hi0;refine (Any8.slices_Grow_grow laysGrow i0 (.int .i64 0) hi hz (by omega) A l0.length c n cs w hlc.1 (by omega) (by rw [hby];omega) (by omega) (by rw [hcl,hs,Nat.mul_one]) hnil hcs).mono ?_;rintro e w' ⟨rfl,rfl⟩;have hgc:=grownCap_ge w (l0.length+n) c (laysGrow_ren.t 25);have hgm:=grownCap_le_maxLen w (l0.length+n) c (laysGrow_ren.t 25) (by unfold maxLen;omega)
    have hlt:l0.length≤cs.length:=by omega
    refine ⟨_,rfl,Kd.R_of_own (enc:=Value.int .i64) (h1:=fun _=>rfl) ⟨by simp [encs],.inr ⟨w.heap.size,_,_,rfl,hB.size,blk_new w.drew _,by omega,hgm,?_,?_⟩⟩ (fun k hk=>?_),(hB.drew).alloc hB.size _,((Kept.refl w _).drew).alloc _⟩
    ·simp only [Array.size_append,List.size_toArray,size_zeroCells]
     show cs.length+(l0.length+n - c) * 1+(grownCap w (l0.length+n) c (laysGrow_ren.t 25) - (l0.length+n)) * 1=_
     omega
    ·simp only [Array.toList_append,Nat.mul_one];rw [List.append_assoc,List.take_append_of_le_length hlt,htk];rfl
    ·simp [Value.ownBlock] at hk
     exact .inr (by omega)
  ·rw [if_neg h1] at h;exact absurd h (by simp)
 ·rw [if_neg h0] at h;exact absurd h (by simp)
end
mutual
def slices_Concat_int_int.l0:Nat→List (List Int)→Int→List (List Int)→Int→Int→Option (List Int)
 | 0,_,_,_,_,_=>none
 | k+1,x0,x3,x9,x10,x11=>if x11<x10 then (if 0≤x11 then (if x11<(x9.length:Int) then (if (wrap64 (x3+((rd_L1 x9 x11).length:Int)))<0 then (none) else (slices_Concat_int_int.l0 k x0 (wrap64 (x3+((rd_L1 x9 x11).length:Int))) x9 x10 (wrap64 (x11+1)))) else (none)) else (none)) else ((slices_Grow_int_int.f ([]:List Int) x3).bind fun t77=>(slices_Concat_int_int.l1 k t77 x0 (x0.length:Int) 0))
def slices_Concat_int_int.l1:Nat→List Int→List (List Int)→Int→Int→Option (List Int)
 | 0,_,_,_,_=>none
 | k+1,x6,x25,x26,x27=>if x27<x26 then (if 0≤x27 then (if x27<(x25.length:Int) then (if x6.length+(rd_L1 x25 x27).length<17592186044416 then (slices_Concat_int_int.l1 k (x6++(rd_L1 x25 x27)) x25 x26 (wrap64 (x27+1))) else (none)) else (none)) else (none)) else (some x6)
end
def slices_Concat_int_int.f (k:Nat) (l0:List (List Int)):Option (List Int):=slices_Concat_int_int.l0 k l0 0 l0 (l0.length:Int) 0
set_option maxHeartbeats 8000000 in
set_option maxRecDepth 100000 in
theorem slices_Concat_int_int.calls (k:Nat) (A0:Option Addr) (c0:Nat) (l0:List (List Int)) (r:List Int) (w:World) (hr0:Kd.C (Kd.slice 3 (Kd.int .i64)) w A0 l0.length l0) (hc0:l0.length≤c0) (h:slices_Concat_int_int.f k l0=some r) :
  Calls Try.prog 29 #[.slice A0 l0.length c0] w fun e w'=>∃ v0_:Value,e=.returned (v0_)∧Kd.R (Kd.int .i64) 3 w' w.heap.size (fun _=>True) v0_ r∧Below w.heap.size w w':=by
 have HR0:=zA hr0;have HC0:=zA hc0;clear hr0 hc0;have HB:=zA (Below.refl w.heap.size w);have H:(slices_Concat_int_int.l0 k l0 0 l0 (l0.length:Int) 0)=some r:=h;clear h;have H':=zA H;clear H
 go_enter Try.func29,Try.ntmps29
 go_wp2
 go_loopg [3,11] k (fun kq v3 v11 w'=>∃ (x3_1:Int) (x11_1:Int),v3=.int .i64 x3_1∧v11=.int .i64 x11_1∧Aside0 (slices_Concat_int_int.l0 kq l0 x3_1 l0 (l0.length:Int) x11_1=some r)∧Aside0 (kq≤k)∧Aside0 (Below w.heap.size w w'))
 case atStart=>exact ⟨(0),(0),zT,zT,H',⟨Nat.le_refl _⟩,⟨zv0 HB⟩⟩
 case round=>
  clear H';obtain ⟨x3_1,x11_1,rfl,rfl,HA,HK1,HB⟩:=hrel
  cases gk with
  | zero=>exact absurd HA.out (by simp [slices_Concat_int_int.l0])
  | succ k1=>
   have H:=HA.out;clear HA;simp only [slices_Concat_int_int.l0] at H
   rcases ifd H with ⟨c2b0,H⟩|⟨c2b0,H⟩
   ·obtain ⟨c3b0,H⟩:=ifd1 H;obtain ⟨c4b0,H⟩:=ifd1 H;obtain ⟨c5b0,H⟩:=ifd2 H;have H':=zA H;clear H;obtain ⟨p46,q46,ad46,A46_0,c46_0,e46,hx46_0,hl46_0,hi46_0⟩:=zp (at_L1 HR0.out x11_1)
    cases e46
    replace hx46_0:=zd HB hx46_0;have HR46_0:=zA hi46_0;have HC46_0:=zA hl46_0;clear hi46_0 hl46_0;replace p46:=eq_true p46;replace q46:=eq_true q46
    go_wp2
    go_roundg k1
    case measure=>have:=HK1.out;omega
    case rel=>exact ⟨(wrap64 (x3_1+((rd_L1 l0 x11_1).length:Int))),(wrap64 (x11_1+1)),zT,zT,H',⟨by have:=HK1.out;omega⟩,⟨zv0 HB⟩⟩
   ·obtain ⟨t77,A6,H⟩:=zo H;have H':=zA H;clear H
    go_wp2_with (first|((with_reducible refine gate_callee (f:=37) rfl ?_);refine zgo 24 Try.func37 #[.slice none 0 0,.int .i64 x3_1] ?_;(refine (slices_Grow_int_int.calls (fun k_=>some k_=(.slice none 0 0:Value).ownBlock) (.slice none 0 0) ([]:List Int) x3_1 t77 w _ ?side1 ?side2 A6.out).mono ?_);(case side1=>repeat (first|(with_reducible first|exact HB.out|apply below_alloc|apply pw_below_drewN|apply below_drew1)|exact HB.out));(case side2=>exact Kd.R_nil _ _ _ _ _);rintro e w7 ⟨v88,rfl,ho0,hb,hkp⟩;refine ⟨_,rfl,?_⟩;have HO83:=zA (Kd.R_mono (ok':=fun k_=>True) ho0 (fun k_ hk_=>trivial));replace HB:=zA (hb);(try clear hb);(try clear hkp);(try clear ho0)))
    go_loopg [6,27] k1 (fun kq v6 v27 w'=>∃ (x6_2:List Int) (x27_2:Int),v27=.int .i64 x27_2∧Aside0 (slices_Concat_int_int.l1 kq x6_2 l0 (l0.length:Int) x27_2=some r)∧Aside0 (kq≤k1)∧Aside0 (Kd.R (Kd.int .i64) 3 w' w.heap.size (fun _=>True) v6 x6_2)∧Aside0 (Below w.heap.size w w'))
    case atStart=>exact ⟨(t77),(0),zT,H',⟨Nat.le_refl _⟩,⟨by refine zr ?_;exact HO83.out⟩,⟨zv0 HB⟩⟩
    case round=>
     clear H'
     try clear c2
     try clear c2b0
     obtain ⟨x6_2,x27_2,rfl,HA,HK2,HO_6,HB⟩:=hrel
     cases gk with
     | zero=>exact absurd HA.out (by simp [slices_Concat_int_int.l1])
     | succ k2=>
      have H:=HA.out;clear HA;simp only [slices_Concat_int_int.l1] at H
      rcases ifd H with ⟨c8b0,H⟩|⟨c8b0,H⟩
      ·obtain ⟨c9b0,H⟩:=ifd1 H;obtain ⟨c10b0,H⟩:=ifd1 H;obtain ⟨c11,H⟩:=if1 H;have LMc11:=zA c11;clear c11
       first|(replace H:=zyb (x6_2++(rd_L1 l0 x27_2)) H;obtain ⟨y58,Ny58,H⟩:=H)|(obtain ⟨y58,hy58⟩:=zY (x6_2++(rd_L1 l0 x27_2));(try rw (occs:=.pos [1]) [← hy58] at H);have Ny58:=zA hy58;clear hy58)
       have H':=zA H;clear H;obtain ⟨p44,q44,ad44,A44_0,c44_0,e44,hx44_0,hl44_0,hi44_0⟩:=zp (at_L1 HR0.out x27_2)
       cases e44
       replace hx44_0:=zd HB hx44_0;have HR44_0:=zA hi44_0;have HC44_0:=zA hl44_0;clear hi44_0 hl44_0;replace p44:=eq_true p44;replace q44:=eq_true q44
       go_wp2_with (first|((with_reducible refine gate_builtin (b:=.append) (xs:=#[.tmp 31,.tmp 32]) rfl ?_);at_builtin;refine Kd.R_append_rows (Kd.int .i64) (w0:=w) w.heap.size rfl (.tmp 31) (.tmp 32) 27 3 (.int .i64 0) 8 rfl Try.underlying27 info3 rfl (by decide) (by omega) u6 x6_2 (rd_L1 l0 x27_2) _ _ _ (fun _=>True) (fun _=>False) rfl rfl ?aO ?aR (fun _ _ h=>h) (fun _ h=>h.elim) ?aF ?aB ?aS ?aL ?_;(case aR=>exact zC (Kd.C_below HR44_0.out HB.out));(case aB=>exact zB);(case aF=>exact (fun _ _=>trivial));(case aO=>exact (zR HO_6));(case aS=>exact (below_size zB));(case aL=>have:=LMc11.out;omega);intro v89 w12 ho hb hg hat;rw [← Ny58.out] at ho;have HO84:=zA (ho);replace HB:=zA (hb);clear HO_6;clear ho hb hg hat))
       go_roundg k2
       case measure=>have:=HK1.out;have:=HK2.out;omega
       case rel=>exact ⟨(y58),(wrap64 (x27_2+1)),zT,H',⟨by have:=HK1.out;have:=HK2.out;omega⟩,⟨by refine zr ?_;exact HO84.out⟩,⟨zv0 HB⟩⟩
      ·obtain rfl:=Option.some.inj H
       go_wp2
       go_ret
       exact ⟨_,ze,by refine zr ?_;exact HO_6.out,zv0 HB⟩
def cmp_isNaN_int.f (a0:Int):Option (Bool):=some (a0 != a0)
set_option maxHeartbeats 8000000 in
set_option maxRecDepth 100000 in
theorem cmp_isNaN_int.calls (a0:Int) (r:Bool) (w:World) (h:cmp_isNaN_int.f a0=some r) :
  Calls Try.prog 53 #[.int .i64 a0] w fun e w'=>e=.returned (.bool r)∧Drawn0 w w':=by
 have H:(some (a0 != a0))=some r:=h;clear h;obtain rfl:=Option.some.inj H
 go_enter Try.func53,Try.ntmps53
 go_wp2
 go_ret
 exact ⟨by first|rfl|(simp;done)|(simp [*];done),by repeat (first|exact Drawn0.refl _|apply Drawn0.step)⟩
def cmp_Less_int.f (a0:Int) (a1:Int):Option (Bool):=(cmp_isNaN_int.f a0).bind fun t73=>(if t73=true then ((cmp_isNaN_int.f a1).bind fun t67=>(if t67=true then (some (decide (a0<a1))) else (some true))) else (some (decide (a0<a1))))
set_option maxHeartbeats 8000000 in
set_option maxRecDepth 100000 in
theorem cmp_Less_int.calls (a0:Int) (a1:Int) (r:Bool) (w:World) (h:cmp_Less_int.f a0 a1=some r) :
  Calls Try.prog 40 #[.int .i64 a0,.int .i64 a1] w fun e w'=>e=.returned (.bool r)∧Drawn0 w w':=by
 have H:((cmp_isNaN_int.f a0).bind fun t73=>(if t73=true then ((cmp_isNaN_int.f a1).bind fun t67=>(if t67=true then (some (decide (a0<a1))) else (some true))) else (some (decide (a0<a1)))))=some r:=h;clear h;obtain ⟨t73,A3,H⟩:=zo H
 by_cases c4:t73=true
 ·subst c4
  have H1:((cmp_isNaN_int.f a1).bind fun t67=>(if t67=true then (some (decide (a0<a1))) else (some true)))=some r:=by rw [if_pos rfl] at H;exact H
  clear H;have H:=H1;clear H1;obtain ⟨t67,A5,H⟩:=zo H
  by_cases c6:t67=true
  ·subst c6
   have H1:(some (decide (a0<a1)))=some r:=by rw [if_pos rfl] at H;exact H
   clear H;have H:=H1;clear H1;obtain rfl:=Option.some.inj H
   go_enter Try.func40,Try.ntmps40
   go_wp2_with (first|((with_reducible refine gate_callee (f:=53) rfl ?_);refine zgo 6 Try.func53 #[.int .i64 a0] ?_;(with_reducible refine (cmp_isNaN_int.calls a0 true _ A3.out).mono ?_);rintro e w' ⟨rfl,⟨nd,rfl⟩⟩;refine ⟨_,rfl,?_⟩)|(go_at_call 53;(with_reducible refine (cmp_isNaN_int.calls a1 true _ A5.out).mono ?_);rintro e w' ⟨rfl,⟨nd,rfl⟩⟩))
   go_ret
   exact ⟨by first|rfl|(simp;done)|(simp [*];done),by repeat (first|exact Drawn0.refl _|apply Drawn0.step)⟩
  ·replace c6:=Bool.eq_false_iff.mpr c6;subst c6
   have H1:(some true)=some r:=by rw [if_neg (show ¬ (false=true) by decide)] at H;exact H
   clear H;have H:=H1;clear H1;obtain rfl:=Option.some.inj H
   go_enter Try.func40,Try.ntmps40
   go_wp2_with (first|((with_reducible refine gate_callee (f:=53) rfl ?_);refine zgo 6 Try.func53 #[.int .i64 a0] ?_;(with_reducible refine (cmp_isNaN_int.calls a0 true _ A3.out).mono ?_);rintro e w' ⟨rfl,⟨nd,rfl⟩⟩;refine ⟨_,rfl,?_⟩)|(go_at_call 53;(with_reducible refine (cmp_isNaN_int.calls a1 false _ A5.out).mono ?_);rintro e w' ⟨rfl,⟨nd,rfl⟩⟩))
   go_ret
   exact ⟨by first|rfl|(simp;done)|(simp [*];done),by repeat (first|exact Drawn0.refl _|apply Drawn0.step)⟩
 ·replace c4:=Bool.eq_false_iff.mpr c4;subst c4
  have H1:(some (decide (a0<a1)))=some r:=by rw [if_neg (show ¬ (false=true) by decide)] at H;exact H
  clear H;have H:=H1;clear H1;obtain rfl:=Option.some.inj H
  go_enter Try.func40,Try.ntmps40
  go_wp2_with (first|((with_reducible refine gate_callee (f:=53) rfl ?_);refine zgo 6 Try.func53 #[.int .i64 a0] ?_;(with_reducible refine (cmp_isNaN_int.calls a0 false _ A3.out).mono ?_);rintro e w' ⟨rfl,⟨nd,rfl⟩⟩;refine ⟨_,rfl,?_⟩))
  go_ret
  exact ⟨by first|rfl|(simp;done)|(simp [*];done),by repeat (first|exact Drawn0.refl _|apply Drawn0.step)⟩
section
open Go.Sort Go.Shelf
def slices_Sort_int_int.f (l0:List Int):Option (List Int):=if l0.length<4611686018427387904 then some (l0.mergeSort fun x y=>decide (x≤y)) else none
theorem slices_Sort_int_int.calls (P0_:Nat→Prop) (u54_:Value) (l0:List Int) (r:List Int) (w0 w:World) (hB:Below w0.heap.size w0 w) (ho0:Kd.R (Kd.int .i64) 3 w w0.heap.size P0_ u54_ l0) (h:slices_Sort_int_int.f l0=some r) :
 Calls Try.prog 30 #[u54_] w fun e w'=>e=.returned (.tuple #[])∧Kd.R (Kd.int .i64) 3 w' w0.heap.size (fun k_=>(P0_ k_∨w.heap.size≤k_)) u54_ r∧Below w0.heap.size w0 w'∧Kept w w' (fun k_=>P0_ k_):=by
 unfold slices_Sort_int_int.f at h
 by_cases hsz:l0.length<4611686018427387904
 case neg=>rw [if_neg hsz] at h;exact absurd h (by simp)
 rw [if_pos hsz] at h;obtain rfl:=Option.some.inj h;obtain ⟨A,c,rfl⟩:=Kd.R_slice ho0
 rcases A with _|ad
 ·have hl:l0=[]:=by
   rcases l0 with _|⟨x,xs⟩
   ·rfl
   ·have ho:=Kd.own_of_R (enc:=Value.int .i64) (h1:=fun _=>rfl) ho0
    rcases ho.2 with ⟨_,h0⟩|⟨_,_,_,h0,_⟩
    ·simp at h0
    ·simp at h0
  subst hl;refine (Any.slices_Sort_int_none laysSort none c w).mono ?_;rintro e w' ⟨rfl,rfl⟩;exact ⟨rfl,by rw [List.mergeSort_nil];exact Kd.R_mono ho0 (fun k hk=>.inl hk),hB,Kept.refl _ _⟩
 ·have had:∃ g,ad=⟨g,0,none⟩:=by
   have ho:=Kd.own_of_R (enc:=Value.int .i64) (h1:=fun _=>rfl) ho0
   rcases ho.2 with ⟨h0,_⟩|⟨g,_,_,h0,_⟩
   ·simp at h0
   ·injection h0 with h0;injection h0 with h0;exact ⟨g,h0⟩
  obtain ⟨g,rfl⟩:=had;obtain ⟨h1,h2,h3,h4,h5,h6,h7⟩:=int_row ho0;refine (Any.slices_Sort_int laysSort g 0 c l0 w h7 h3 hsz).mono ?_;rintro e w' ⟨rfl,n,os,rfl⟩;have hl:(l0.mergeSort fun x y=>decide (x≤y)).length=l0.length:=List.length_mergeSort l0;have hr:=int_row_put (ok':=fun k_=>(P0_ k_∨w.heap.size≤k_)) ho0 n os hl (Nat.le_refl _) (.inl h1);rw [List.take_of_length_le (by omega)] at hr;exact ⟨rfl,hr,put_below hB h2 n os _,put_kept (ok:=fun k_=>P0_ k_) n os _ h1⟩
end
section
open Go.Sort Go.Shelf
def slices_Compact_int_int.f (l0:List Int):Option (List Int):=some (Lib.compact l0)
theorem slices_Compact_int_int.calls (P0_:Nat→Prop) (u54_:Value) (l0:List Int) (r:List Int) (w0 w:World) (hB:Below w0.heap.size w0 w) (ho0:Kd.R (Kd.int .i64) 3 w w0.heap.size P0_ u54_ l0) (h:slices_Compact_int_int.f l0=some r) :
 Calls Try.prog 31 #[u54_] w fun e w'=>∃ v0_:Value,e=.returned (v0_)∧Kd.R (Kd.int .i64) 3 w' w0.heap.size (fun k_=>(P0_ k_∨w.heap.size≤k_)) v0_ r∧Below w0.heap.size w0 w'∧Kept w w' (fun k_=>P0_ k_):=by
 obtain rfl:=Option.some.inj h;obtain ⟨A,c,rfl⟩:=Kd.R_slice ho0
 rcases A with _|ad
 ·have hl:l0=[]:=by
   rcases l0 with _|⟨x,xs⟩
   ·rfl
   ·have ho:=Kd.own_of_R (enc:=Value.int .i64) (h1:=fun _=>rfl) ho0
    rcases ho.2 with ⟨_,h0⟩|⟨_,_,_,h0,_⟩
    ·simp at h0
    ·simp at h0
  subst hl;refine (Any.slices_Compact_int_empty laysCompact none c w).mono ?_;rintro e w' ⟨rfl,rfl⟩;exact ⟨_,rfl,Kd.R_mono ho0 (fun k hk=>.inl hk),hB,Kept.refl _ _⟩
 ·have had:∃ g,ad=⟨g,0,none⟩:=by
   have ho:=Kd.own_of_R (enc:=Value.int .i64) (h1:=fun _=>rfl) ho0
   rcases ho.2 with ⟨h0,_⟩|⟨g,_,_,h0,_⟩
   ·simp at h0
   ·injection h0 with h0;injection h0 with h0;exact ⟨g,h0⟩
  obtain ⟨g,rfl⟩:=had;obtain ⟨h1,h2,h3,h4,h5,h6,h7⟩:=int_row ho0;have hle:=Lib.compact_length_le l0;refine (Any.slices_Compact_int laysCompact g 0 c l0 w h7 (by unfold maxLen at h6;omega) h5).mono ?_;rintro e w' ⟨rfl,q,rfl⟩;have hr:=int_row_put (ok':=fun k_=>(P0_ k_∨w.heap.size≤k_)) (ys:=Lib.compact l0++List.replicate (l0.length - (Lib.compact l0).length) 0) ho0 q #[] (by simp;omega) hle (.inl h1);rw [List.take_left,grow_empty] at hr;have hb:=put_below hB h2 q #[] (Lib.compact l0++List.replicate (l0.length - (Lib.compact l0).length) 0).toArray;have hk:=put_kept (ok:=fun k_=>P0_ k_) (w:=w) q #[] (Lib.compact l0++List.replicate (l0.length - (Lib.compact l0).length) 0).toArray h1;rw [grow_empty] at hb hk;exact ⟨_,rfl,hr,hb,hk⟩
end
def table_all.f (k:Nat) (l0:List Int) (l1:List Int):Option (List Int):=(slices_Concat_int_int.f k (([l0,l1]:List (List Int)))).bind fun t49=>((slices_Sort_int_int.f t49).bind fun t72=>((slices_Compact_int_int.f t72).bind fun t74=>(some t74)))
set_option maxHeartbeats 8000000 in
set_option maxRecDepth 100000 in
theorem table_all.calls (k:Nat) (P0_:Nat→Prop) (A0:Option Addr) (c0:Nat) (l0:List Int) (P1_:Nat→Prop) (A1:Option Addr) (c1:Nat) (l1:List Int) (r:List Int) (w:World) (hs0:Kd.V (Kd.int .i64) 3 w w.heap.size (fun k_=>P0_ k_) (.slice A0 l0.length c0) l0) (hs1:Kd.V (Kd.int .i64) 3 w w.heap.size (fun k_=>P1_ k_) (.slice A1 l1.length c1) l1) (h:table_all.f k l0 l1=some r) :
  Calls Try.prog 19 #[.slice A0 l0.length c0,.slice A1 l1.length c1] w fun e w'=>∃ v0_:Value,e=.returned (v0_)∧Kd.R (Kd.int .i64) 3 w' w.heap.size (fun k_=>(w.heap.size≤k_)) v0_ r∧Below w.heap.size w w':=by
 have HO0:=zA (show Kd.V (Kd.int .i64) 3 w w.heap.size (fun k_=>((P0_ k_∨P1_ k_)∨w.heap.size≤k_)) (.slice A0 l0.length c0) l0 from Kd.V_mono hs0 (fun k_ hk=>.inl (.inl hk)));have HO1:=zA (show Kd.V (Kd.int .i64) 3 w w.heap.size (fun k_=>((P0_ k_∨P1_ k_)∨w.heap.size≤k_)) (.slice A1 l1.length c1) l1 from Kd.V_mono hs1 (fun k_ hk=>.inl (.inr hk)));have HB:=zA (Below.refl w.heap.size w);have H:((slices_Concat_int_int.f k (([l0,l1]:List (List Int)))).bind fun t49=>((slices_Sort_int_int.f t49).bind fun t72=>((slices_Compact_int_int.f t72).bind fun t74=>(some t74))))=some r:=h;clear h
 first|(replace H:=zyb (([l0,l1]:List (List Int))) H;obtain ⟨y50,Ny50,H⟩:=H)|(obtain ⟨y50,hy50⟩:=zY (([l0,l1]:List (List Int)));(try rw (occs:=.pos [1]) [← hy50] at H);have Ny50:=zA hy50;clear hy50)
 obtain ⟨t49,A3,H⟩:=zo H;obtain ⟨t72,A4,H⟩:=zo H;obtain ⟨t74,A5,H⟩:=zo H;obtain rfl:=Option.some.inj H
 go_enter Try.func19,Try.ntmps19
 go_wp2_with (first|((with_reducible refine gate_dst (N:=8) rfl ?_);refine Kd.N_lit (Kd.slice 3 (Kd.int .i64)) _ 27 ?hg (N':=8) ?hd (xs:=([l0,l1]:List (List Int))) (inner:=[.slice A0 l0.length c0,.slice A1 l1.length c1]) (ok:=(fun k_=>((P0_ k_∨P1_ k_)∨w.heap.size≤k_))) (okp:=(fun k_=>((P0_ k_∨P1_ k_)∨w.heap.size≤k_))) ?hr ?hp (fun _ hk=>hk) ((show ∀ k_,w.heap.size≤k_→(fun k_=>((P0_ k_∨P1_ k_)∨w.heap.size≤k_)) k_ from fun k_ hk=>(.inr (Nat.le_trans (below_size zB) hk))) _ (Nat.le_refl _)) (Below.refl _ _) (Nat.le_refl _) (by simp) ?_;(case hd=>rfl);(case hg=>rfl);(case hr=>first|(go_simp;done)|(go_simp;rfl));(case hp=>exact (Reps.one (show Kd.FK (Kd.slice 3 (Kd.int .i64)) _ _ l0 [.slice A0 l0.length c0] from (Kd.FK_slice_mk (Kd.V_reads' (Kd.V_mono (ok':=(fun k_=>((P0_ k_∨P1_ k_)∨w.heap.size≤k_))) (HO0.out) (fun k_ hk=>hk))).2.1 (Kd.V_F (Kd.V_mono (ok':=(fun k_=>((P0_ k_∨P1_ k_)∨w.heap.size≤k_))) (HO0.out) (fun k_ hk=>hk))))) (Reps.one (show Kd.FK (Kd.slice 3 (Kd.int .i64)) _ _ l1 [.slice A1 l1.length c1] from (Kd.FK_slice_mk (Kd.V_reads' (Kd.V_mono (ok':=(fun k_=>((P0_ k_∨P1_ k_)∨w.heap.size≤k_))) (HO1.out) (fun k_ hk=>hk))).2.1 (Kd.V_F (Kd.V_mono (ok':=(fun k_=>((P0_ k_∨P1_ k_)∨w.heap.size≤k_))) (HO1.out) (fun k_ hk=>hk))))) (Reps.none _ _))));intro v90 w6 ho7 hb hg_ hnew_;clear hg_ hnew_;(first|rw [← Ny50.out] at ho7|(simp only [Int.reduceToNat] at ho7;rw [← Ny50.out] at ho7));have HO59:=zA (Kd.N_lower ho7 (below_size zB));replace HO0:=zA (Kd.V_elder' (zV HO0) (Kd.N_base ho7) hb);replace HO1:=zA (Kd.V_elder' (zV HO1) (Kd.N_base ho7) hb);replace HB:=zu hb;clear hb ho7;obtain ⟨Ao8,co8,eo8⟩:=Kd.N_slice HO59.out;subst eo8)|((with_reducible refine gate_callee (f:=29) rfl ?_);refine zgo 9 Try.func29 #[.slice Ao8 y50.length co8] ?_;(with_reducible refine (slices_Concat_int_int.calls k _ _ y50 t49 _ ?side1 ?side2 A3.out).mono ?_);(case side1=>exact zC (Kd.N_reads' HO59.out).2.2);(case side2=>exact (Kd.N_reads' HO59.out).2.1);rintro e w9 ⟨v91,rfl,ho0,hb⟩;refine ⟨_,rfl,?_⟩;have HO68:=zA (Kd.R_lower (Kd.R_newM (M:=fun k_=>(w.heap.size≤k_)) ho0 (below_size zB) (fun k_ h_=>h_)) (below_size zB));replace HO0:=zA (Kd.V_elder' (zV HO0) (Kd.R_base ho0) hb);replace HO1:=zA (Kd.V_elder' (zV HO1) (Kd.R_base ho0) hb);replace HO59:=zA (Kd.N_elder' (zN HO59) (Kd.R_base ho0) hb);replace HB:=zu hb;clear hb;(try clear ho0);obtain ⟨Ao10,co10,eo10⟩:=Kd.R_slice HO68.out;subst eo10)|((with_reducible refine gate_callee (f:=30) rfl ?_);refine zgo 11 Try.func30 #[.slice Ao10 t49.length co10] ?_;(with_reducible refine (slices_Sort_int_int.calls (fun k_=>some k_=(.slice Ao10 t49.length co10:Value).ownBlock) (.slice Ao10 t49.length co10) t49 t72 w _ ?side1 ?side2 A4.out).mono ?_);(case side1=>repeat (first|(with_reducible first|exact HB.out|apply below_alloc|apply pw_below_drewN|apply below_drew1)|exact HB.out));(case side2=>exact Kd.R_tight rfl HO68.out);rintro e w11 ⟨rfl,hy0,hb,hkp⟩;refine ⟨_,rfl,?_⟩;replace HO0:=zA (Kd.V_mono (ok':=fun k_=>((P0_ k_∨P1_ k_)∨w.heap.size≤k_)∧some k_≠(.slice Ao8 y50.length co8:Value).ownBlock∧some k_≠(.slice Ao10 t49.length co10:Value).ownBlock) (Kd.V_keptB (HO0.out) hkp (fun k_ hk_ hs_=>(hk_.2) hs_)) (fun k_ hk_=>⟨hk_.1.1.1,hk_.1.1.2,hk_.1.2⟩));replace HO1:=zA (Kd.V_mono (ok':=fun k_=>((P0_ k_∨P1_ k_)∨w.heap.size≤k_)∧some k_≠(.slice Ao8 y50.length co8:Value).ownBlock∧some k_≠(.slice Ao10 t49.length co10:Value).ownBlock) (Kd.V_keptB (HO1.out) hkp (fun k_ hk_ hs_=>(hk_.2) hs_)) (fun k_ hk_=>⟨hk_.1.1.1,hk_.1.1.2,hk_.1.2⟩));replace HO59:=zA (Kd.N_mono (ok':=fun k_=>((P0_ k_∨P1_ k_)∨w.heap.size≤k_)∧some k_≠(.slice Ao10 t49.length co10:Value).ownBlock) (Kd.N_keptB (HO59.out) hkp (fun k_ hk_ hs_=>(hk_.2) hs_)) (fun k_ hk_=>⟨hk_.1.1,hk_.1.2⟩));replace HO68:=zA (Kd.R_reok rfl hy0 (fun k_ e_=>HO68.out.1 k_ e_));replace HB:=zA (hb);(try clear hb);(try clear hkp);(try clear hy0))|((with_reducible refine gate_callee (f:=31) rfl ?_);refine zgo 13 Try.func31 #[.slice Ao10 t49.length co10] ?_;(with_reducible refine (slices_Compact_int_int.calls (fun k_=>some k_=(.slice Ao10 t49.length co10:Value).ownBlock) (.slice Ao10 t49.length co10) t72 t74 w _ ?side1 ?side2 A5.out).mono ?_);(case side1=>repeat (first|(with_reducible first|exact HB.out|apply below_alloc|apply pw_below_drewN|apply below_drew1)|exact HB.out));(case side2=>exact Kd.R_tight rfl HO68.out);rintro e w12 ⟨v79,rfl,ho0,hb,hkp⟩;refine ⟨_,rfl,?_⟩;have HO85:=zA (Kd.R_mono (ok':=fun k_=>(w.heap.size≤k_)) ho0 (fun k_ hk_=>Or.elim hk_ (fun hs_=>(HO68.out.1 k_ (hs_).symm).1) (fun hn_=>(Nat.le_trans (below_size zB) hn_))));replace HO0:=zA (Kd.V_mono (ok':=fun k_=>((P0_ k_∨P1_ k_)∨w.heap.size≤k_)∧some k_≠(.slice Ao8 y50.length co8:Value).ownBlock∧some k_≠(v79:Value).ownBlock) (Kd.V_keptB (HO0.out) hkp (fun k_ hk_ hs_=>(hk_.2.2) hs_)) (fun k_ hk_=>⟨hk_.1.1,hk_.1.2.1,fun e_=>Or.elim (ho0.1 k_ e_.symm) (fun hs_=>hk_.2.1 hs_) (fun hn_=>Nat.not_le.2 hk_.2.2 hn_)⟩));replace HO1:=zA (Kd.V_mono (ok':=fun k_=>((P0_ k_∨P1_ k_)∨w.heap.size≤k_)∧some k_≠(.slice Ao8 y50.length co8:Value).ownBlock∧some k_≠(v79:Value).ownBlock) (Kd.V_keptB (HO1.out) hkp (fun k_ hk_ hs_=>(hk_.2.2) hs_)) (fun k_ hk_=>⟨hk_.1.1,hk_.1.2.1,fun e_=>Or.elim (ho0.1 k_ e_.symm) (fun hs_=>hk_.2.1 hs_) (fun hn_=>Nat.not_le.2 hk_.2.2 hn_)⟩));replace HO59:=zA (Kd.N_mono (ok':=fun k_=>((P0_ k_∨P1_ k_)∨w.heap.size≤k_)∧some k_≠(v79:Value).ownBlock) (Kd.N_keptB (HO59.out) hkp (fun k_ hk_ hs_=>(hk_.2) hs_)) (fun k_ hk_=>⟨hk_.1.1,fun e_=>Or.elim (ho0.1 k_ e_.symm) (fun hs_=>hk_.2.1 hs_) (fun hn_=>Nat.not_le.2 hk_.2.2 hn_)⟩));replace HB:=zA (hb);clear HO68;(try clear hb);(try clear hkp);(try clear ho0)))
 go_ret
 exact ⟨_,ze,by refine zr ?_;exact HO85.out,zv0 HB⟩
def slices_Clone_int_int.f (l0:List Int):Option (List Int):=(some (([]:List Int):List Int)).bind fun y48=>(if y48.length+l0.length<17592186044416 then (some (y48++l0)) else (none))
set_option maxHeartbeats 8000000 in
set_option maxRecDepth 100000 in
theorem slices_Clone_int_int.calls (A0:Option Addr) (c0:Nat) (l0:List Int) (r:List Int) (w:World) (hr0:Kd.C (Kd.int .i64) w A0 l0.length l0) (hc0:l0.length≤c0) (h:slices_Clone_int_int.f l0=some r) :
  Calls Try.prog 28 #[.slice A0 l0.length c0] w fun e w'=>∃ v0_:Value,e=.returned (v0_)∧Kd.R (Kd.int .i64) 3 w' w.heap.size (fun _=>True) v0_ r∧Below w.heap.size w w':=by
 have HR0:=zA hr0;have HC0:=zA hc0;clear hr0 hc0;have HB:=zA (Below.refl w.heap.size w);have H:((some (([]:List Int):List Int)).bind fun y48=>(if y48.length+l0.length<17592186044416 then (some (y48++l0)) else (none)))=some r:=h;clear h
 have hnq_:∀ (w:World) (a:Option Addr) (n c n' c':Nat),(binOp .eql 27 (.slice a n c) (.slice none n' c')).run Try.prog w=.ok (.bool a.isNone) w:=fun w a n c n' c'=>Lib.run_eql_slice_nil w _ _ a n c n' c' Try.underlying27
 rcases A0 with _|adn0
 ·obtain rfl:l0=[]:=(by rcases l0 with _|⟨x_,xs_⟩;(· rfl);(· obtain ⟨_,_,e_,_⟩:=Kd.C_get HR0.out 0 0 (by omega) (by simp);cases e_))
  simp only [List.length_nil,List.nil_append] at H
  (first|rw [if_pos (by omega)] at H|simp at H)
  try simp only [Option.some.injEq] at H
  subst H
  go_enter Try.func28,Try.ntmps28
  go_wp2
  go_ret
  first|exact ⟨_,rfl,Kd.R_nil _ _ _ _ _,Below.refl _ _⟩|exact ⟨_,rfl,Kd.S_nil _ _ _ _ _,Below.refl _ _⟩|exact ⟨_,rfl,Kd.V_nil _ _ _ _ _,Below.refl _ _⟩|exact ⟨_,rfl,Kd.N_nil _ _ _ _ _,Below.refl _ _⟩
 ·replace H:=H
  first|(replace H:=zyb (([]:List Int)) H;obtain ⟨y48,Ny48,H⟩:=H)|(obtain ⟨y48,hy48⟩:=zY (([]:List Int));(try rw (occs:=.pos [1]) [← hy48] at H);have Ny48:=zA hy48;clear hy48)
  obtain ⟨c2,H⟩:=if1 H;have LMc2:=zA c2;clear c2
  first|(replace H:=zyb (y48++l0) H;obtain ⟨y63,Ny63,H⟩:=H)|(obtain ⟨y63,hy63⟩:=zY (y48++l0);(try rw (occs:=.pos [1]) [← hy63] at H);have Ny63:=zA hy63;clear hy63)
  obtain rfl:=Option.some.inj H
  go_enter Try.func28,Try.ntmps28
  go_wp2_with (first|((with_reducible refine gate_dst (N:=5) rfl ?_);refine Kd.R_lit (Kd.int .i64) _ 3 ?hg (N:=5) ?hd (xs:=([]:List Int)) (inner:=[]) (ok:=fun _=>True) (okp:=fun _=>True) ?hr ?hp (fun _ hk=>hk) trivial (Below.refl _ _) (Nat.le_refl _) (by simp) ?_;(case hd=>rfl);(case hg=>rfl);(case hr=>first|(go_simp;done)|(go_simp;rfl));(case hp=>exact (Reps.none _ _));intro v86 w3 ho4 hb hg_ hnew_;clear hg_ hnew_;(first|rw [← Ny48.out] at ho4|(simp only [Int.reduceToNat] at ho4;rw [← Ny48.out] at ho4));have HO82:=zA (Kd.R_lower ho4 (below_size zB));replace HB:=zu hb;clear hb ho4)|((with_reducible refine gate_builtin (b:=.append) (xs:=#[.tmp 5,.tmp 6]) rfl ?_);at_builtin;refine Kd.R_append_rows (Kd.int .i64) (w0:=w) w.heap.size rfl (.tmp 5) (.tmp 6) 27 3 (.int .i64 0) 8 rfl Try.underlying27 info3 rfl (by decide) (by omega) v86 y48 l0 _ _ _ (fun _=>True) (fun _=>False) rfl rfl ?aO ?aR (fun _ _ h=>h) (fun _ h=>h.elim) ?aF ?aB ?aS ?aL ?_;(case aR=>exact zC (Kd.C_below HR0.out HB.out));(case aB=>exact zB);(case aF=>exact (fun _ _=>trivial));(case aO=>exact (zR HO82));(case aS=>exact (below_size zB));(case aL=>have:=LMc2.out;omega);intro v92 w5 ho hb hg hat;rw [← Ny63.out] at ho;have HO87:=zA (ho);replace HB:=zA (hb);clear HO82;clear ho hb hg hat))
  go_ret
  exact ⟨_,ze,by refine zr ?_;exact HO87.out,zv0 HB⟩
def table_assignment.l0:Nat→Int→Int→List Int→Int→Int→Option (Int)
 | 0,_,_,_,_,_=>none
 | k+1,x1,x5,x8,x9,x10=>if x10<x9 then (if 0≤x10 then (if x10<(x8.length:Int) then (if 0≤(rd x8 x10) then (table_assignment.l0 k x1 (Go.bits .or .i64 x5 (shl .i64 (Go.bits .and .i64 (shr .i64 x1 x10) 1) (rd x8 x10))) x8 x9 (wrap64 (x10+1))) else (none)) else (none)) else (none)) else (some x5)
def table_assignment.f (k:Nat) (l0:List Int) (a1:Int):Option (Int):=table_assignment.l0 k a1 0 l0 (l0.length:Int) 0
set_option maxHeartbeats 8000000 in
set_option maxRecDepth 100000 in
theorem table_assignment.calls (k:Nat) (A0:Option Addr) (c0:Nat) (l0:List Int) (a1:Int) (r:Int) (w:World) (hr0:Kd.C (Kd.int .i64) w A0 l0.length l0) (hc0:l0.length≤c0) (h:table_assignment.f k l0 a1=some r) :
  Calls Try.prog 32 #[.slice A0 l0.length c0,.int .i64 a1] w fun e w'=>e=.returned (.int .i64 r)∧Drawn0 w w':=by
 have HR0:=zA hr0;have HC0:=zA hc0;clear hr0 hc0;have H:(table_assignment.l0 k a1 0 l0 (l0.length:Int) 0)=some r:=h;clear h;have H':=zA H;clear H
 go_enter Try.func32,Try.ntmps32
 go_wp2
 go_loopg [5,10] k (fun kq v5 v10 w'=>∃ (x5_1:Int) (x10_1:Int),v5=.int .i64 x5_1∧v10=.int .i64 x10_1∧Aside0 (table_assignment.l0 kq a1 x5_1 l0 (l0.length:Int) x10_1=some r)∧Aside0 (kq≤k)∧Drawn0 w w')
 case atStart=>exact ⟨(0),(0),zT,zT,H',⟨Nat.le_refl _⟩,by repeat (first|exact Drawn0.refl _|apply Drawn0.step)⟩
 case round=>
  clear H';obtain ⟨x5_1,x10_1,rfl,rfl,HA,HK1,⟨m1,rfl⟩⟩:=hrel
  cases gk with
  | zero=>exact absurd HA.out (by simp [table_assignment.l0])
  | succ k1=>
   have H:=HA.out;clear HA;simp only [table_assignment.l0] at H
   rcases ifd H with ⟨c3b0,H⟩|⟨c3b0,H⟩
   ·obtain ⟨c4b0,H⟩:=ifd1 H;obtain ⟨c5b0,H⟩:=ifd1 H;have c6b0:=eq_true (of_decide_eq_true zh:0≤x10_1);obtain ⟨ji7,hji7⟩:=zZ (shr .i64 a1 x10_1)
    first|rw [hji7] at H|simp only [hji7] at H
    have hji7_:(a1 / 2 ^ min x10_1.toNat 64)=ji7:=hji7;have hji7z:x10_1≤64→(a1 / 2 ^ x10_1.toNat)=ji7:=shr_small hji7;obtain ⟨c8,H⟩:=if1 H;have c8b0:=eq_true c8;have c8b1:decide (0≤(rd l0 x10_1))=true:=decide_eq_true c8;clear c8;obtain ⟨ji9,hji9⟩:=zZ (shl .i64 (Go.bits .and .i64 (ji7) 1) (rd l0 x10_1))
    first|rw [hji9] at H|simp only [hji9] at H
    have hji9_:(IntKind.i64.wrap ((Go.bits .and .i64 (ji7) 1) * 2 ^ min (rd l0 x10_1).toNat 64))=ji9:=hji9;have hji9z:(rd l0 x10_1)≤64→(IntKind.i64.wrap ((Go.bits .and .i64 (ji7) 1) * 2 ^ (rd l0 x10_1).toNat))=ji9:=shl_small hji9;have hji9y:(wrap64 ((Go.bits .and .i64 (ji7) 1) * 2 ^ min (rd l0 x10_1).toNat 64))=ji9:=(i64_w _).symm.trans hji9_
    have hji9x:(rd l0 x10_1)≤64→(wrap64 ((Go.bits .and .i64 (ji7) 1) * 2 ^ (rd l0 x10_1).toNat))=ji9:=fun h_=>(i64_w _).symm.trans (hji9z h_)
    have H':=zA H;clear H;obtain ⟨p60,q60,ad60,e60,hx60_0⟩:=zp (Kd.at_int HR0.out x10_1)
    cases e60
    replace p60:=eq_true p60;replace q60:=eq_true q60
    go_wp2
    go_roundg k1
    case measure=>have:=HK1.out;omega
    case rel=>exact ⟨(Go.bits .or .i64 x5_1 (ji9)),(wrap64 (x10_1+1)),(by first|rfl|(simp;done)|(simp only [← hji9] <;> (first|rfl|simp))|(simp [*];done)),zT,H',⟨by have:=HK1.out;omega⟩,by repeat (first|exact Drawn0.refl _|apply Drawn0.step)⟩
   ·obtain rfl:=Option.some.inj H
    go_wp2
    go_ret
    exact ⟨by first|rfl|(simp;done)|(simp [*];done),by repeat (first|exact Drawn0.refl _|apply Drawn0.step)⟩
def slices_isNaN_int.f (a0:Int):Option (Bool):=some (a0 != a0)
set_option maxHeartbeats 8000000 in
set_option maxRecDepth 100000 in
theorem slices_isNaN_int.calls (a0:Int) (r:Bool) (w:World) (h:slices_isNaN_int.f a0=some r) :
  Calls Try.prog 41 #[.int .i64 a0] w fun e w'=>e=.returned (.bool r)∧Drawn0 w w':=by
 have H:(some (a0 != a0))=some r:=h;clear h;obtain rfl:=Option.some.inj H
 go_enter Try.func41,Try.ntmps41
 go_wp2
 go_ret
 exact ⟨by first|rfl|(simp;done)|(simp [*];done),by repeat (first|exact Drawn0.refl _|apply Drawn0.step)⟩
def slices_BinarySearch_int_int.l0:Nat→List Int→Int→Int→Int→Int→Option (Int×Bool)
 | 0,_,_,_,_,_=>none
 | k+1,x0,x1,x6,x7,x8=>if x7<x8 then (if 0≤(wrap64 ((IntKind.u64.wrap (wrap64 (x7+x8))) / 2)) then (if (wrap64 ((IntKind.u64.wrap (wrap64 (x7+x8))) / 2))<(x0.length:Int) then ((cmp_Less_int.f (rd x0 (wrap64 ((IntKind.u64.wrap (wrap64 (x7+x8))) / 2))) x1).bind fun t78=>(if t78=true then (slices_BinarySearch_int_int.l0 k x0 x1 x6 (wrap64 ((wrap64 ((IntKind.u64.wrap (wrap64 (x7+x8))) / 2))+1)) x8) else (slices_BinarySearch_int_int.l0 k x0 x1 x6 x7 (wrap64 ((IntKind.u64.wrap (wrap64 (x7+x8))) / 2))))) else (none)) else (none)) else (if x7<x6 then (if 0≤x7 then (if x7<(x0.length:Int) then (if (rd x0 x7)=x1 then (some (x7,true)) else ((slices_isNaN_int.f (rd x0 x7)).bind fun t80=>(if t80=true then ((slices_isNaN_int.f x1).bind fun t75=>(some (x7,t75))) else (some (x7,false))))) else (none)) else (none)) else (some (x7,false)))
def slices_BinarySearch_int_int.f (k:Nat) (l0:List Int) (a1:Int):Option (Int×Bool):=slices_BinarySearch_int_int.l0 k l0 a1 (l0.length:Int) 0 (l0.length:Int)
set_option maxHeartbeats 8000000 in
set_option maxRecDepth 100000 in
theorem slices_BinarySearch_int_int.calls (k:Nat) (A0:Option Addr) (c0:Nat) (l0:List Int) (a1:Int) (r1:Int) (r2:Bool) (w:World) (hr0:Kd.C (Kd.int .i64) w A0 l0.length l0) (hc0:l0.length≤c0) (h:slices_BinarySearch_int_int.f k l0 a1=some (r1,r2)) :
  Calls Try.prog 33 #[.slice A0 l0.length c0,.int .i64 a1] w fun e w'=>e=.returned (.tuple #[.int .i64 r1,.bool r2])∧Drawn0 w w':=by
 have HR0:=zA hr0;have HC0:=zA hc0;clear hr0 hc0;have H:(slices_BinarySearch_int_int.l0 k l0 a1 (l0.length:Int) 0 (l0.length:Int))=some (r1,r2):=h;clear h;have H':=zA H;clear H
 go_enter Try.func33,Try.ntmps33
 go_wp2
 go_loopg [7,8] k (fun kq v7 v8 w'=>∃ (x7_1:Int) (x8_1:Int),v7=.int .i64 x7_1∧v8=.int .i64 x8_1∧Aside0 (slices_BinarySearch_int_int.l0 kq l0 a1 (l0.length:Int) x7_1 x8_1=some (r1,r2))∧Aside0 (kq≤k)∧Drawn0 w w')
 case atStart=>exact ⟨(0),((l0.length:Int)),zT,zT,H',⟨Nat.le_refl _⟩,by repeat (first|exact Drawn0.refl _|apply Drawn0.step)⟩
 case round=>
  clear H';obtain ⟨x7_1,x8_1,rfl,rfl,HA,HK1,⟨m1,rfl⟩⟩:=hrel
  cases gk with
  | zero=>exact absurd HA.out (by simp [slices_BinarySearch_int_int.l0])
  | succ k1=>
   have H:=HA.out;clear HA;simp only [slices_BinarySearch_int_int.l0] at H
   rcases ifd H with ⟨c3b0,H⟩|⟨c3b0,H⟩
   ·obtain ⟨ji4,hji4⟩:=zZ (wrap64 ((IntKind.u64.wrap (wrap64 (x7_1+x8_1))) / 2))
    first|rw [hji4] at H|simp only [hji4] at H
    have hji4w:(IntKind.i64.wrap ((IntKind.u64.wrap (wrap64 (x7_1+x8_1))) / 2))=ji4:=(i64_w _).trans hji4;obtain ⟨c5b0,H⟩:=ifd1 H;obtain ⟨c6b0,H⟩:=ifd1 H;obtain ⟨t78,A7,H⟩:=zo H;have HC8:=zA H;clear H;obtain ⟨p61,q61,ad61,e61,hx61_0⟩:=zp (Kd.at_int HR0.out (ji4))
    cases e61
    replace p61:=eq_true p61;replace q61:=eq_true q61
    go_upto_if 27 with (first|((with_reducible refine gate_callee (f:=40) rfl ?_);refine goesL_ (some 27) rfl rfl Try.func40 zK rfl #[.int .i64 (rd l0 (ji4)),.int .i64 a1] rfl (by (try simp only [List.map_toArray,List.map_cons,List.map_nil]);first|done|(simp only [hji4];rfl)|rfl|(simp only [List.length_drop,List.length_take];rfl)) ?_;(with_reducible refine (cmp_Less_int.calls (rd l0 (ji4)) a1 t78 _ A7.out).mono ?_);rintro e w' ⟨rfl,⟨nd,rfl⟩⟩;refine ⟨_,rfl,?_⟩))
    (try simp only [Act.put,zi,zs,zt]);have H:=HC8.out;clear HC8
    by_cases c9:t78=true
    ·subst c9
     have H1:(slices_BinarySearch_int_int.l0 k1 l0 a1 (l0.length:Int) (wrap64 ((ji4)+1)) x8_1)=some (r1,r2):=by rw [if_pos rfl] at H;exact H
     clear H;have H:=H1;clear H1;have H':=zA H;clear H
     go_wp2
     go_roundg k1
     case measure=>have:=HK1.out;omega
     case rel=>exact ⟨(wrap64 ((ji4)+1)),(x8_1),(by first|rfl|(simp;done)|(simp only [← hji4] <;> (first|rfl|simp))|(simp [*];done)),zT,H',⟨by have:=HK1.out;omega⟩,by repeat (first|exact Drawn0.refl _|apply Drawn0.step)⟩
    ·replace c9:=Bool.eq_false_iff.mpr c9;subst c9
     have H1:(slices_BinarySearch_int_int.l0 k1 l0 a1 (l0.length:Int) x7_1 ji4)=some (r1,r2):=by rw [if_neg (show ¬ (false=true) by decide)] at H;exact H
     clear H;have H:=H1;clear H1;have H':=zA H;clear H
     go_wp2
     go_roundg k1
     case measure=>have:=HK1.out;omega
     case rel=>exact ⟨(x7_1),(ji4),zT,(by first|rfl|(simp;done)|(simp only [← hji4] <;> (first|rfl|simp))|(simp [*];done)),H',⟨by have:=HK1.out;omega⟩,by repeat (first|exact Drawn0.refl _|apply Drawn0.step)⟩
   ·rcases ifd H with ⟨c10b0,H⟩|⟨c10b0,H⟩
    ·obtain ⟨c11b0,H⟩:=ifd1 H;obtain ⟨c12b0,H⟩:=ifd1 H
     rcases ife H with ⟨c13b0,c13b1,H⟩|⟨c13,c13b0,c13b1,H⟩
     ·simp only [Option.some.injEq,Prod.mk.injEq] at H;obtain ⟨rfl,rfl⟩:=H;obtain ⟨p38,q38,ad38,e38,hx38_0⟩:=zp (Kd.at_int HR0.out x7_1)
      cases e38
      replace p38:=eq_true p38;replace q38:=eq_true q38
      go_wp2
      go_ret2
      exact ⟨by first|rfl|(simp;done)|(simp [*];done),by repeat (first|exact Drawn0.refl _|apply Drawn0.step)⟩
     ·obtain ⟨t80,A14,H⟩:=zo H
      by_cases c15:t80=true
      ·subst c15
       have H1:((slices_isNaN_int.f a1).bind fun t75=>(some (x7_1,t75)))=some (r1,r2):=by rw [if_pos rfl] at H;exact H
       clear H;have H:=H1;clear H1;obtain ⟨t75,A16,H⟩:=zo H;simp only [Option.some.injEq,Prod.mk.injEq] at H;obtain ⟨rfl,rfl⟩:=H;obtain ⟨p38,q38,ad38,e38,hx38_0⟩:=zp (Kd.at_int HR0.out x7_1)
       cases e38
       replace p38:=eq_true p38;replace q38:=eq_true q38;obtain ⟨p47,q47,ad47,e47,hx47_0⟩:=zp (Kd.at_int HR0.out x7_1)
       obtain rfl:ad38=ad47:=(by injection e47)
       replace p47:=eq_true p47;replace q47:=eq_true q47
       go_wp2_with (first|(go_at_call 41;(with_reducible refine (slices_isNaN_int.calls (rd l0 x7_1) true _ A14.out).mono ?_);rintro e w' ⟨rfl,⟨nd,rfl⟩⟩)|(go_at_call 41;(with_reducible refine (slices_isNaN_int.calls a1 t75 _ A16.out).mono ?_);rintro e w' ⟨rfl,⟨nd,rfl⟩⟩))
       go_ret2
       exact ⟨by first|rfl|(simp;done)|(simp [*];done),by repeat (first|exact Drawn0.refl _|apply Drawn0.step)⟩
      ·replace c15:=Bool.eq_false_iff.mpr c15;subst c15
       have H1:(some (x7_1,false))=some (r1,r2):=by rw [if_neg (show ¬ (false=true) by decide)] at H;exact H
       clear H;have H:=H1;clear H1;simp only [Option.some.injEq,Prod.mk.injEq] at H;obtain ⟨rfl,rfl⟩:=H;obtain ⟨p38,q38,ad38,e38,hx38_0⟩:=zp (Kd.at_int HR0.out x7_1)
       cases e38
       replace p38:=eq_true p38;replace q38:=eq_true q38;obtain ⟨p47,q47,ad47,e47,hx47_0⟩:=zp (Kd.at_int HR0.out x7_1)
       obtain rfl:ad38=ad47:=(by injection e47)
       replace p47:=eq_true p47;replace q47:=eq_true q47
       go_wp2_with (first|(go_at_call 41;(with_reducible refine (slices_isNaN_int.calls (rd l0 x7_1) false _ A14.out).mono ?_);rintro e w' ⟨rfl,⟨nd,rfl⟩⟩))
       go_ret2
       exact ⟨by first|rfl|(simp;done)|(simp [*];done),by repeat (first|exact Drawn0.refl _|apply Drawn0.step)⟩
    ·simp only [Option.some.injEq,Prod.mk.injEq] at H;obtain ⟨rfl,rfl⟩:=H
     go_wp2
     go_ret2
     exact ⟨by first|rfl|(simp;done)|(simp [*];done),by repeat (first|exact Drawn0.refl _|apply Drawn0.step)⟩
def table_row.l0:Nat→Int→Int→List Int→Int→Int→Option (Int)
 | 0,_,_,_,_,_=>none
 | k+1,x1,x5,x8,x9,x10=>if x10<x9 then (if 0≤x10 then (if x10<(x8.length:Int) then (if 0≤(rd x8 x10) then (table_row.l0 k x1 (Go.bits .or .i64 x5 (shl .i64 (Go.bits .and .i64 (shr .i64 x1 (rd x8 x10)) 1) x10)) x8 x9 (wrap64 (x10+1))) else (none)) else (none)) else (none)) else (some x5)
def table_row.f (k:Nat) (l0:List Int) (a1:Int):Option (Int):=table_row.l0 k a1 0 l0 (l0.length:Int) 0
set_option maxHeartbeats 8000000 in
set_option maxRecDepth 100000 in
theorem table_row.calls (k:Nat) (A0:Option Addr) (c0:Nat) (l0:List Int) (a1:Int) (r:Int) (w:World) (hr0:Kd.C (Kd.int .i64) w A0 l0.length l0) (hc0:l0.length≤c0) (h:table_row.f k l0 a1=some r) :
  Calls Try.prog 34 #[.slice A0 l0.length c0,.int .i64 a1] w fun e w'=>e=.returned (.int .i64 r)∧Drawn0 w w':=by
 have HR0:=zA hr0;have HC0:=zA hc0;clear hr0 hc0;have H:(table_row.l0 k a1 0 l0 (l0.length:Int) 0)=some r:=h;clear h;have H':=zA H;clear H
 go_enter Try.func34,Try.ntmps34
 go_wp2
 go_loopg [5,10] k (fun kq v5 v10 w'=>∃ (x5_1:Int) (x10_1:Int),v5=.int .i64 x5_1∧v10=.int .i64 x10_1∧Aside0 (table_row.l0 kq a1 x5_1 l0 (l0.length:Int) x10_1=some r)∧Aside0 (kq≤k)∧Drawn0 w w')
 case atStart=>exact ⟨(0),(0),zT,zT,H',⟨Nat.le_refl _⟩,by repeat (first|exact Drawn0.refl _|apply Drawn0.step)⟩
 case round=>
  clear H';obtain ⟨x5_1,x10_1,rfl,rfl,HA,HK1,⟨m1,rfl⟩⟩:=hrel
  cases gk with
  | zero=>exact absurd HA.out (by simp [table_row.l0])
  | succ k1=>
   have H:=HA.out;clear HA;simp only [table_row.l0] at H
   rcases ifd H with ⟨c3b0,H⟩|⟨c3b0,H⟩
   ·obtain ⟨c4b0,H⟩:=ifd1 H;obtain ⟨c5b0,H⟩:=ifd1 H;obtain ⟨c6,H⟩:=if1 H;have c6b0:=eq_true c6;have c6b1:decide (0≤(rd l0 x10_1))=true:=decide_eq_true c6;clear c6;obtain ⟨ji7,hji7⟩:=zZ (shr .i64 a1 (rd l0 x10_1))
    first|rw [hji7] at H|simp only [hji7] at H
    have hji7_:(a1 / 2 ^ min (rd l0 x10_1).toNat 64)=ji7:=hji7;have hji7z:(rd l0 x10_1)≤64→(a1 / 2 ^ (rd l0 x10_1).toNat)=ji7:=shr_small hji7;have c8b0:=eq_true (of_decide_eq_true zh:0≤x10_1);obtain ⟨ji9,hji9⟩:=zZ (shl .i64 (Go.bits .and .i64 (ji7) 1) x10_1)
    first|rw [hji9] at H|simp only [hji9] at H
    have hji9_:(IntKind.i64.wrap ((Go.bits .and .i64 (ji7) 1) * 2 ^ min x10_1.toNat 64))=ji9:=hji9;have hji9z:x10_1≤64→(IntKind.i64.wrap ((Go.bits .and .i64 (ji7) 1) * 2 ^ x10_1.toNat))=ji9:=shl_small hji9;have hji9y:(wrap64 ((Go.bits .and .i64 (ji7) 1) * 2 ^ min x10_1.toNat 64))=ji9:=(i64_w _).symm.trans hji9_
    have hji9x:x10_1≤64→(wrap64 ((Go.bits .and .i64 (ji7) 1) * 2 ^ x10_1.toNat))=ji9:=fun h_=>(i64_w _).symm.trans (hji9z h_)
    have H':=zA H;clear H;obtain ⟨p62,q62,ad62,e62,hx62_0⟩:=zp (Kd.at_int HR0.out x10_1)
    cases e62
    replace p62:=eq_true p62;replace q62:=eq_true q62
    go_wp2
    go_roundg k1
    case measure=>have:=HK1.out;omega
    case rel=>exact ⟨(Go.bits .or .i64 x5_1 (ji9)),(wrap64 (x10_1+1)),(by first|rfl|(simp;done)|(simp only [← hji9] <;> (first|rfl|simp))|(simp [*];done)),zT,H',⟨by have:=HK1.out;omega⟩,by repeat (first|exact Drawn0.refl _|apply Drawn0.step)⟩
   ·obtain rfl:=Option.some.inj H
    go_wp2
    go_ret
    exact ⟨by first|rfl|(simp;done)|(simp [*];done),by repeat (first|exact Drawn0.refl _|apply Drawn0.step)⟩
def table_has.f (k:Nat) (l0_0:List Int) (l0_1:List Int) (a1:Int):Option (Bool):=(table_row.f k l0_0 a1).bind fun t56=>((slices_BinarySearch_int_int.f k l0_1 t56).bind fun bt69=>(some bt69.2))
set_option maxHeartbeats 8000000 in
set_option maxRecDepth 100000 in
theorem table_has.calls (k:Nat) (A0_0:Option Addr) (c0_0:Nat) (l0_0:List Int) (A0_1:Option Addr) (c0_1:Nat) (l0_1:List Int) (a1:Int) (r:Bool) (w:World) (hr0_0:Kd.C (Kd.int .i64) w A0_0 l0_0.length l0_0) (hc0_0:l0_0.length≤c0_0) (hr0_1:Kd.C (Kd.int .i64) w A0_1 l0_1.length l0_1) (hc0_1:l0_1.length≤c0_1) (h:table_has.f k l0_0 l0_1 a1=some r) :
  Calls Try.prog 22 #[.agg #[.slice A0_0 l0_0.length c0_0,.slice A0_1 l0_1.length c0_1],.int .i64 a1] w fun e w'=>e=.returned (.bool r)∧Below w.heap.size w w':=by
 have HR0_0:=zA hr0_0;have HC0_0:=zA hc0_0;clear hr0_0 hc0_0;have HR0_1:=zA hr0_1;have HC0_1:=zA hc0_1;clear hr0_1 hc0_1;have HB:=zA (Below.refl w.heap.size w);have H:((table_row.f k l0_0 a1).bind fun t56=>((slices_BinarySearch_int_int.f k l0_1 t56).bind fun bt69=>(some bt69.2)))=some r:=h;clear h;obtain ⟨t56,A3,H⟩:=zo H;obtain ⟨t69,t81,A4,H⟩:=zO H
 dsimp only at H
 obtain rfl:=Option.some.inj H
 go_enter Try.func22,Try.ntmps22
 go_wp2_with (first|((with_reducible refine gd 2 rfl ?_);refine zx #[.slice A0_0 l0_0.length c0_0,.slice A0_1 l0_1.length c0_1] 29 ?_;intro gb39 hg w5 BK39 hb GW39 HB1;have GE39:=GW39;clear HB hb hg;have HB:=HB1;clear HB1;have hcz6_0:=zc0 BK39;have hcz6_1:=zc1 BK39;have hfz6_0:=zf BK39)|(go_at_call 34;(with_reducible refine (table_row.calls k _ _ l0_0 a1 t56 _ (zD HR0_0 HB) HC0_0.out A3.out).mono ?_);rintro e w' ⟨rfl,⟨nd,rfl⟩⟩;(try first|exact ⟨rfl,_,World.drewN_drewN _ _ _⟩|exact ⟨rfl,_,Eq.trans (World.drewN_drewN _ _ _) (congrArg (World.drewN _) (Nat.add_assoc _ _ _))⟩))|(go_at_call 33;(with_reducible refine (slices_BinarySearch_int_int.calls k _ _ l0_1 t56 t69 t81 _ ?side1 HC0_1.out A4.out).mono ?_);(case side1=>repeat (first|exact (Kd.C_below HR0_1.out zB)|(with_reducible refine Kd.C_alloc ?_ _)|(with_reducible refine Kd.C_drewN ?_ _)|(with_reducible refine Kd.C_drew ?_)));rintro e w' ⟨rfl,⟨nd,rfl⟩⟩;(try first|exact ⟨rfl,_,World.drewN_drewN _ _ _⟩|exact ⟨rfl,_,Eq.trans (World.drewN_drewN _ _ _) (congrArg (World.drewN _) (Nat.add_assoc _ _ _))⟩)))
 repeat (go_quiet (first|((with_reducible refine gd 2 rfl ?_);refine zx #[.slice A0_0 l0_0.length c0_0,.slice A0_1 l0_1.length c0_1] 29 ?_;intro gb39 hg w5 BK39 hb GW39 HB1;have GE39:=GW39;clear HB hb hg;have HB:=HB1;clear HB1;have hcz6_0:=zc0 BK39;have hcz6_1:=zc1 BK39;have hfz6_0:=zf BK39)|(go_at_call 34;(with_reducible refine (table_row.calls k _ _ l0_0 a1 t56 _ (zD HR0_0 HB) HC0_0.out A3.out).mono ?_);rintro e w' ⟨rfl,⟨nd,rfl⟩⟩;(try first|exact ⟨rfl,_,World.drewN_drewN _ _ _⟩|exact ⟨rfl,_,Eq.trans (World.drewN_drewN _ _ _) (congrArg (World.drewN _) (Nat.add_assoc _ _ _))⟩))|(go_at_call 33;(with_reducible refine (slices_BinarySearch_int_int.calls k _ _ l0_1 t56 t69 t81 _ ?side1 HC0_1.out A4.out).mono ?_);(case side1=>repeat (first|exact (Kd.C_below HR0_1.out zB)|(with_reducible refine Kd.C_alloc ?_ _)|(with_reducible refine Kd.C_drewN ?_ _)|(with_reducible refine Kd.C_drew ?_)));rintro e w' ⟨rfl,⟨nd,rfl⟩⟩;(try first|exact ⟨rfl,_,World.drewN_drewN _ _ _⟩|exact ⟨rfl,_,Eq.trans (World.drewN_drewN _ _ _) (congrArg (World.drewN _) (Nat.add_assoc _ _ _))⟩)));try go_wp2_with (first|((with_reducible refine gd 2 rfl ?_);refine zx #[.slice A0_0 l0_0.length c0_0,.slice A0_1 l0_1.length c0_1] 29 ?_;intro gb39 hg w5 BK39 hb GW39 HB1;have GE39:=GW39;clear HB hb hg;have HB:=HB1;clear HB1;have hcz6_0:=zc0 BK39;have hcz6_1:=zc1 BK39;have hfz6_0:=zf BK39)|(go_at_call 34;(with_reducible refine (table_row.calls k _ _ l0_0 a1 t56 _ (zD HR0_0 HB) HC0_0.out A3.out).mono ?_);rintro e w' ⟨rfl,⟨nd,rfl⟩⟩;(try first|exact ⟨rfl,_,World.drewN_drewN _ _ _⟩|exact ⟨rfl,_,Eq.trans (World.drewN_drewN _ _ _) (congrArg (World.drewN _) (Nat.add_assoc _ _ _))⟩))|(go_at_call 33;(with_reducible refine (slices_BinarySearch_int_int.calls k _ _ l0_1 t56 t69 t81 _ ?side1 HC0_1.out A4.out).mono ?_);(case side1=>repeat (first|exact (Kd.C_below HR0_1.out zB)|(with_reducible refine Kd.C_alloc ?_ _)|(with_reducible refine Kd.C_drewN ?_ _)|(with_reducible refine Kd.C_drew ?_)));rintro e w' ⟨rfl,⟨nd,rfl⟩⟩;(try first|exact ⟨rfl,_,World.drewN_drewN _ _ _⟩|exact ⟨rfl,_,Eq.trans (World.drewN_drewN _ _ _) (congrArg (World.drewN _) (Nat.add_assoc _ _ _))⟩))))
 go_ret
 exact ⟨ze,zv1 HB GE39⟩
def table_Join_1.f (a0:Bool) (a1:Bool):Option (Bool):=if a0=true then (some a1) else (some false)
set_option maxHeartbeats 8000000 in
set_option maxRecDepth 100000 in
theorem table_Join_1.calls (a0:Bool) (a1:Bool) (r:Bool) (w:World) (h:table_Join_1.f a0 a1=some r) :
  Calls Try.prog 14 #[.bool a0,.bool a1] w fun e w'=>e=.returned (.bool r)∧Drawn0 w w':=by
 have H:(if a0=true then (some a1) else (some false))=some r:=h;clear h
 by_cases c3:a0=true
 ·subst c3
  have H1:(some a1)=some r:=by rw [if_pos rfl] at H;exact H
  clear H;have H:=H1;clear H1;obtain rfl:=Option.some.inj H
  go_enter Try.func14,Try.ntmps14
  go_wp2
  go_ret
  exact ⟨by first|rfl|(simp;done)|(simp [*];done),by repeat (first|exact Drawn0.refl _|apply Drawn0.step)⟩
 ·replace c3:=Bool.eq_false_iff.mpr c3;subst c3
  have H1:(some false)=some r:=by rw [if_neg (show ¬ (false=true) by decide)] at H;exact H
  clear H;have H:=H1;clear H1;obtain rfl:=Option.some.inj H
  go_enter Try.func14,Try.ntmps14
  go_wp2
  go_ret
  exact ⟨by first|rfl|(simp;done)|(simp [*];done),by repeat (first|exact Drawn0.refl _|apply Drawn0.step)⟩
def table_combine_1_table_Join_1.f (k:Nat) (a0:Int)  (l2_0:List Int) (l2_1:List Int) (l3_0:List Int) (l3_1:List Int):Option (Bool):=(table_has.f k l2_0 l2_1 a0).bind fun t70=>((table_has.f k l3_0 l3_1 a0).bind fun t71=>((table_Join_1.f t70 t71).bind fun t76=>(some t76)))
def table_combine_1_table_Join_1.T1:Bool×List (List Nat×List Nat):=(true,[([],[]),([],[]),([],[]),([1,2],[1,2]),([],[]),([],[]),([4,5,3],[4,5]),([0,3,6,6],[0,3,6]),([7,7,0,1,2,3,4,5,6,7],[7])])
def table_combine_1_table_Join_1.B1:List Nat:=[0,0,0,6,0,0,62,127,255]
theorem table_combine_1_table_Join_1.tab1:rtab .any (opsOf Try.f21 1)=table_combine_1_table_Join_1.T1:=by kernel_rfl
theorem table_combine_1_table_Join_1.bits1:waitsOk table_combine_1_table_Join_1.T1.2 table_combine_1_table_Join_1.B1=true:=by kernel_rfl
set_option maxHeartbeats 8000000 in
set_option maxRecDepth 100000 in
theorem table_combine_1_table_Join_1.calls (k:Nat) (a0:Int) (gp1_0:Nat)  (gp2_0:Nat) (A2_0:Option Addr) (c2_0:Nat) (l2_0:List Int) (A2_1:Option Addr) (c2_1:Nat) (l2_1:List Int) (gp3_0:Nat) (A3_0:Option Addr) (c3_0:Nat) (l3_0:List Int) (A3_1:Option Addr) (c3_1:Nat) (l3_1:List Int) (r:Bool) (w:World) (hb_gp1_0:w.heap[gp1_0]?=some (.cells #[.func (.func 14) #[] #[]] 42 (0,0))) (hr2_0:Kd.C (Kd.int .i64) w A2_0 l2_0.length l2_0) (hc2_0:l2_0.length≤c2_0) (hr2_1:Kd.C (Kd.int .i64) w A2_1 l2_1.length l2_1) (hc2_1:l2_1.length≤c2_1) (hb_gp2_0:w.heap[gp2_0]?=some (.cells #[.slice A2_0 l2_0.length c2_0,.slice A2_1 l2_1.length c2_1] 29 (0,0))) (hr3_0:Kd.C (Kd.int .i64) w A3_0 l3_0.length l3_0) (hc3_0:l3_0.length≤c3_0) (hr3_1:Kd.C (Kd.int .i64) w A3_1 l3_1.length l3_1) (hc3_1:l3_1.length≤c3_1) (hb_gp3_0:w.heap[gp3_0]?=some (.cells #[.slice A3_0 l3_0.length c3_0,.slice A3_1 l3_1.length c3_1] 29 (0,0))) (h:table_combine_1_table_Join_1.f k a0 l2_0 l2_1 l3_0 l3_1=some r) :
  Calls Try.prog 21 #[.int .i64 a0,.pointer (some ⟨gp1_0,0,none⟩),.pointer (some ⟨gp2_0,0,none⟩),.pointer (some ⟨gp3_0,0,none⟩)] w fun e w'=>e=.returned (.bool r)∧Below w.heap.size w w':=by
 have HR2_0:=zA hr2_0;have HC2_0:=zA hc2_0;clear hr2_0 hc2_0;have HR2_1:=zA hr2_1;have HC2_1:=zA hc2_1;clear hr2_1 hc2_1;have HR3_0:=zA hr3_0;have HC3_0:=zA hc3_0;clear hr3_0 hc3_0;have HR3_1:=zA hr3_1;have HC3_1:=zA hc3_1;clear hr3_1 hc3_1;have BK55:=zA hb_gp1_0;clear hb_gp1_0;have BK51:=zA hb_gp2_0;clear hb_gp2_0;have BK52:=zA hb_gp3_0;clear hb_gp3_0;have HB:=zA (Below.refl w.heap.size w);have H:((table_has.f k l2_0 l2_1 a0).bind fun t70=>((table_has.f k l3_0 l3_1 a0).bind fun t71=>((table_Join_1.f t70 t71).bind fun t76=>(some t76))))=some r:=h;clear h;obtain ⟨t70,A5,H⟩:=zo H;obtain ⟨t71,A6,H⟩:=zo H;obtain ⟨t76,A7,H⟩:=zo H;obtain rfl:=Option.some.inj H
 go_enter Try.func21,Try.ntmps21
 try go_wp2
 replace BK55:=zA (blk_drew BK55.out);replace BK51:=zA (blk_drew BK51.out);replace BK52:=zA (blk_drew BK52.out);replace HB:=zA (below_drew1 HB.out);refine start_ (n:=9) (S:=fun w'=>w'.cell? ⟨gp1_0,0,none⟩=some (.func (.func 14) #[] #[])∧w'.cell? ⟨gp2_0,0,none⟩=some (.slice A2_0 l2_0.length c2_0)∧w'.cell? ⟨gp2_0,1,none⟩=some (.slice A2_1 l2_1.length c2_1)∧w'.cell? ⟨gp3_0,0,none⟩=some (.slice A3_0 l3_0.length c3_0)∧w'.cell? ⟨gp3_0,1,none⟩=some (.slice A3_1 l3_1.length c3_1)) (ds:=[]) (bz 9 0) zK rfl rfl ⟨zc0 BK55,zc0 BK51,zc1 BK51,zc0 BK52,zc1 BK52⟩ (fun hHeld=>?_);refine with_tabW table_combine_1_table_Join_1.tab1 table_combine_1_table_Join_1.bits1 (fun HT_ HW_=>?_)
 generalize w.drew=w8 at BK55 BK51 BK52 HB hHeld ⊢
 refine zP 2 8 (bz 9 4) HT_ ?_;refine zP 5 11 (bz 9 36) HT_ ?_;refine zQ 0 6 (bz 9 37) HT_ HW_ hHeld ?_;refine zQ 1 7 (bz 9 39) HT_ HW_ hHeld ?_;refine zQ 4 10 (bz 9 55) HT_ HW_ hHeld ?_;refine one_ (i:=3) (N:=some 9) (bz 9 63) rfl rfl (one_of HT_.out zK) (by decide) (fun K hK=>?_);refine goes_ Try.func22 zK rfl #[.agg #[.slice A2_0 l2_0.length c2_0,.slice A2_1 l2_1.length c2_1],.int .i64 a0] (by rfl) rfl rfl zM ?_
 with_reducible refine (table_has.calls k _ _ l2_0 _ _ l2_1 a0 t70 _ ?side1 ?side2 ?side3 ?side4 A5.out).mono ?_
 (case side1=>exact zC (Kd.C_below HR2_0.out HB.out));(case side2=>exact HC2_0.out);(case side3=>exact zC (Kd.C_below HR2_1.out HB.out));(case side4=>exact HC2_1.out);rintro e w9 ⟨rfl,hb⟩;refine ⟨_,rfl,?_⟩;replace BK55:=zw BK55 hb;replace BK51:=zw BK51 hb;replace BK52:=zw BK52 hb;replace HB:=zu hb;(try clear hb);(try clear hb2);(try clear hk);(try clear hi);refine hK.out _ _ ⟨zc0 BK55,zc0 BK51,zc1 BK51,zc0 BK52,zc1 BK52⟩ (fun hHeld=>?_);clear hK K;refine norm_ (a':=?_) ?_ ?_;rotate_left
 ·show Act.put _ (some 9) _=_
  simp only [Act.put,zi,zs,zt,i64_w,i32_w];rfl
 refine one_ (i:=6) (N:=some 12) (bz 9 127) rfl rfl (one_of HT_.out zK) (by decide) (fun K hK=>?_);refine goes_ Try.func22 zK rfl #[.agg #[.slice A3_0 l3_0.length c3_0,.slice A3_1 l3_1.length c3_1],.int .i64 a0] (by rfl) rfl rfl zM ?_
 with_reducible refine (table_has.calls k _ _ l3_0 _ _ l3_1 a0 t71 _ ?side1 ?side2 ?side3 ?side4 A6.out).mono ?_
 (case side1=>exact zC (Kd.C_below HR3_0.out HB.out));(case side2=>exact HC3_0.out);(case side3=>exact zC (Kd.C_below HR3_1.out HB.out));(case side4=>exact HC3_1.out);rintro e w10 ⟨rfl,hb⟩;refine ⟨_,rfl,?_⟩;replace BK55:=zw BK55 hb;replace BK51:=zw BK51 hb;replace BK52:=zw BK52 hb;replace HB:=zu hb;(try clear hb);(try clear hb2);(try clear hk);(try clear hi);refine hK.out _ _ ⟨zc0 BK55,zc0 BK51,zc1 BK51,zc0 BK52,zc1 BK52⟩ (fun hHeld=>?_);clear hK K;refine norm_ (a':=?_) ?_ ?_;rotate_left
 ·show Act.put _ (some 12) _=_
  simp only [Act.put,zi,zs,zt,i64_w,i32_w];rfl
 refine one_ (i:=7) (N:=some 13) (bz 9 255) rfl rfl (one_of HT_.out zK) (by decide) (fun K hK=>?_);refine goesV_ Try.func14 zK rfl #[.bool t70,.bool t71] #[] (by rfl) rfl rfl (by rfl) zM ?_
 with_reducible refine (table_Join_1.calls t70 t71 t76 _ A7.out).mono ?_
 rintro e w' ⟨rfl,⟨nd,rfl⟩⟩;refine ⟨_,rfl,?_⟩;refine hK.out _ _ ⟨zc0 BK55,zc0 BK51,zc1 BK51,zc0 BK52,zc1 BK52⟩ (fun hHeld=>?_);clear hK K;refine norm_ (a':=?_) ?_ ?_;rotate_left
 ·show Act.put _ (some 13) _=_
  simp only [Act.put,zi,zs,zt,i64_w,i32_w];rfl
 refine zP 8 5 (bz 9 511) HT_ ?_;refine done_ (done_of HT_.out zK) ?_
 try go_wp2
 go_ret
 exact ⟨ze,zv0 HB⟩
end Go.Proofs.Ytilljenmobgkaaa.A
