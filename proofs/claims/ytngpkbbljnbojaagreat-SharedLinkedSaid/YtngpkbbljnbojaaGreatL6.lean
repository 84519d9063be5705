import Derived.Test.YtngpkbbljnbojaaGreatL0
import Derived.Test.YtngpkbbljnbojaaGreatL2
namespace Go.Proofs.YtngpkbbljnbojaaGreat.L
open Go.RowKit Go.Proofs.YtngpkbbljnbojaaGreatW.PrintWords Go.Proofs.YtngpkbbljnbojaaGreatW.PrintLast Go.Proofs.YtngpkbbljnbojaaGreatW.PrintMore
attribute [local go_sem] max2_int min2_int max_two min_two max_three min_three max_four min_four Tryz.underlying103 Tryz.underlying3 Tryz.underlying38 Tryz.underlying4 Tryz.underlying40 Tryz.underlying43 Tryz.underlying63
set_option linter.unusedVariables false
set_option linter.unusedSimpArgs false
def slices_Equal_int_int.l0:Nat→List Int→List Int→Int→Int→Option (Bool)
 | 0,_,_,_,_=>none
 | k+1,x0,x1,x12,x13=>if x13<x12 then (if 0≤x13 then (if x13<(x0.length:Int) then (if x13<(x1.length:Int) then (if (rd x0 x13)=(rd x1 x13) then (slices_Equal_int_int.l0 k x0 x1 x12 (wrap64 (x13+1))) else (some false)) else (none)) else (none)) else (none)) else (some true)
def slices_Equal_int_int.f (k:Nat) (l0:List Int) (l1:List Int):Option (Bool):=if (l0.length:Int)=(l1.length:Int) then (slices_Equal_int_int.l0 k l0 l1 (l0.length:Int) 0) else (some false)
set_option maxHeartbeats 8000000 in
set_option maxRecDepth 100000 in
theorem slices_Equal_int_int.calls (k:Nat) (A0:Option Addr) (c0:Nat) (l0:List Int) (A1:Option Addr) (c1:Nat) (l1:List Int) (r:Bool) (w:World) (hr0:Kd.C (Kd.int .i64) w A0 l0.length l0) (hc0:l0.length≤c0) (hr1:Kd.C (Kd.int .i64) w A1 l1.length l1) (hc1:l1.length≤c1) (h:slices_Equal_int_int.f k l0 l1=some r) :
  Calls Tryz.prog 26 #[.slice A0 l0.length c0,.slice A1 l1.length c1] w fun e w'=>e=.returned (.bool r)∧Drawn0 w w':=by
 have HR0:=zA hr0;have HC0:=zA hc0;clear hr0 hc0;have HR1:=zA hr1;have HC1:=zA hc1;clear hr1 hc1;have H:(if (l0.length:Int)=(l1.length:Int) then (slices_Equal_int_int.l0 k l0 l1 (l0.length:Int) 0) else (some false))=some r:=h;clear h
 rcases if0 H with ⟨c3,H⟩|⟨c3,H⟩
 ·have c3b0:((l0.length:Int) == (l1.length:Int))=true:=beq_iff_eq.mpr c3;have c3b1:((l0.length:Int) != (l1.length:Int))=false:=bne_eq_false_iff_eq.mpr c3
  have c3b2:(l0.length == l1.length)=true:=by first|simpa using c3|(simp at c3 ⊢;omega)
  clear c3;have H':=zA H;clear H
  go_enter Tryz.func26,Tryz.ntmps26
  go_wp2
  repeat (go_quiet (fail);try go_wp2)
  go_loopg [13] k (fun kq v13 w'=>∃ (x13_1:Int),v13=.int .i64 x13_1∧Aside0 (slices_Equal_int_int.l0 kq l0 l1 (l0.length:Int) x13_1=some r)∧Aside0 (kq≤k)∧Drawn0 w w')
  case atStart=>exact ⟨(0),zT,H',⟨Nat.le_refl _⟩,by repeat (first|exact Drawn0.refl _|apply Drawn0.step)⟩
  case round=>
   clear H'
   try clear c3
   try clear c3b0
   try clear c3b1
   try clear c3b2
   obtain ⟨x13_1,rfl,HA,HK1,⟨m1,rfl⟩⟩:=hrel
   cases gk with
   | zero=>exact absurd HA.out (by simp [slices_Equal_int_int.l0])
   | succ k1=>
    have H:=HA.out;clear HA;simp only [slices_Equal_int_int.l0] at H
    rcases ifd H with ⟨c4b0,H⟩|⟨c4b0,H⟩
    ·obtain ⟨c5b0,H⟩:=ifd1 H;obtain ⟨c6b0,H⟩:=ifd1 H;obtain ⟨c7b0,H⟩:=ifd1 H
     rcases ife H with ⟨c8b0,c8b1,H⟩|⟨c8,c8b0,c8b1,H⟩
     ·have H':=zA H;clear H;obtain ⟨p84,q84,ad84,e84,hx84_0⟩:=zp (Kd.at_int HR0.out x13_1)
      cases e84
      replace p84:=eq_true p84;replace q84:=eq_true q84;obtain ⟨p85,q85,ad85,e85,hx85_0⟩:=zp (Kd.at_int HR1.out x13_1)
      cases e85
      replace p85:=eq_true p85;replace q85:=eq_true q85
      go_wp2
      repeat (go_quiet (fail);try go_wp2)
      go_roundg k1
      case measure=>have:=HK1.out;omega
      case rel=>exact ⟨(wrap64 (x13_1+1)),zT,H',⟨by have:=HK1.out;omega⟩,by repeat (first|exact Drawn0.refl _|apply Drawn0.step)⟩
     ·obtain rfl:=Option.some.inj H;obtain ⟨p84,q84,ad84,e84,hx84_0⟩:=zp (Kd.at_int HR0.out x13_1)
      cases e84
      replace p84:=eq_true p84;replace q84:=eq_true q84;obtain ⟨p85,q85,ad85,e85,hx85_0⟩:=zp (Kd.at_int HR1.out x13_1)
      cases e85
      replace p85:=eq_true p85;replace q85:=eq_true q85
      go_wp2
      repeat (go_quiet (fail);try go_wp2)
      go_ret
      exact ⟨by first|rfl|(simp;done)|(simp [*];done),by repeat (first|exact Drawn0.refl _|apply Drawn0.step)⟩
    ·obtain rfl:=Option.some.inj H
     go_wp2
     repeat (go_quiet (fail);try go_wp2)
     go_ret
     exact ⟨by first|rfl|(simp;done)|(simp [*];done),by repeat (first|exact Drawn0.refl _|apply Drawn0.step)⟩
 ·have c3b0:((l0.length:Int) == (l1.length:Int))=false:=beq_eq_false_iff_ne.mpr c3;have c3b1:((l0.length:Int) != (l1.length:Int))=true:=bne_iff_ne.mpr c3
  have c3b2:(l0.length == l1.length)=false:=by first|simpa using c3|(simp at c3 ⊢;omega)
  obtain rfl:=Option.some.inj H
  go_enter Tryz.func26,Tryz.ntmps26
  go_wp2
  repeat (go_quiet (fail);try go_wp2)
  go_ret
  exact ⟨by first|rfl|(simp;done)|(simp [*];done),by repeat (first|exact Drawn0.refl _|apply Drawn0.step)⟩
def slices_Index_int_int.l0:Nat→List Int→Int→Int→Int→Option (Int)
 | 0,_,_,_,_=>none
 | k+1,x0,x1,x7,x8=>if x8<x7 then (if 0≤x8 then (if x8<(x0.length:Int) then (if x1=(rd x0 x8) then (some x8) else (slices_Index_int_int.l0 k x0 x1 x7 (wrap64 (x8+1)))) else (none)) else (none)) else (some (-1))
def slices_Index_int_int.f (k:Nat) (l0:List Int) (a1:Int):Option (Int):=slices_Index_int_int.l0 k l0 a1 (l0.length:Int) 0
set_option maxHeartbeats 8000000 in
set_option maxRecDepth 100000 in
theorem slices_Index_int_int.calls (k:Nat) (A0:Option Addr) (c0:Nat) (l0:List Int) (a1:Int) (r:Int) (w:World) (hr0:Kd.C (Kd.int .i64) w A0 l0.length l0) (hc0:l0.length≤c0) (h:slices_Index_int_int.f k l0 a1=some r) :
  Calls Tryz.prog 55 #[.slice A0 l0.length c0,.int .i64 a1] w fun e w'=>e=.returned (.int .i64 r)∧Drawn0 w w':=by
 have HR0:=zA hr0;have HC0:=zA hc0;clear hr0 hc0;have H:(slices_Index_int_int.l0 k l0 a1 (l0.length:Int) 0)=some r:=h;clear h;have H':=zA H;clear H
 go_enter Tryz.func55,Tryz.ntmps55
 go_wp2
 go_loopg [8] k (fun kq v8 w'=>∃ (x8_1:Int),v8=.int .i64 x8_1∧Aside0 (slices_Index_int_int.l0 kq l0 a1 (l0.length:Int) x8_1=some r)∧Aside0 (kq≤k)∧Drawn0 w w')
 case atStart=>exact ⟨(0),zT,H',⟨Nat.le_refl _⟩,by repeat (first|exact Drawn0.refl _|apply Drawn0.step)⟩
 case round=>
  clear H';obtain ⟨x8_1,rfl,HA,HK1,⟨m1,rfl⟩⟩:=hrel
  cases gk with
  | zero=>exact absurd HA.out (by simp [slices_Index_int_int.l0])
  | succ k1=>
   have H:=HA.out;clear HA;simp only [slices_Index_int_int.l0] at H
   rcases ifd H with ⟨c3b0,H⟩|⟨c3b0,H⟩
   ·obtain ⟨c4b0,H⟩:=ifd1 H;obtain ⟨c5b0,H⟩:=ifd1 H
    rcases ife H with ⟨c6b0,c6b1,H⟩|⟨c6,c6b0,c6b1,H⟩
    ·obtain rfl:=Option.some.inj H;obtain ⟨p86,q86,ad86,e86,hx86_0⟩:=zp (Kd.at_int HR0.out x8_1)
     cases e86
     replace p86:=eq_true p86;replace q86:=eq_true q86
     go_wp2
     go_ret
     exact ⟨by first|rfl|(simp;done)|(simp [*];done),by repeat (first|exact Drawn0.refl _|apply Drawn0.step)⟩
    ·have H':=zA H;clear H;obtain ⟨p86,q86,ad86,e86,hx86_0⟩:=zp (Kd.at_int HR0.out x8_1)
     cases e86
     replace p86:=eq_true p86;replace q86:=eq_true q86
     go_wp2
     go_roundg k1
     case measure=>have:=HK1.out;omega
     case rel=>exact ⟨(wrap64 (x8_1+1)),zT,H',⟨by have:=HK1.out;omega⟩,by repeat (first|exact Drawn0.refl _|apply Drawn0.step)⟩
   ·obtain rfl:=Option.some.inj H
    go_wp2
    go_ret
    exact ⟨by first|rfl|(simp;done)|(simp [*];done),by repeat (first|exact Drawn0.refl _|apply Drawn0.step)⟩
def slices_Contains_int_int.f (k:Nat) (l0:List Int) (a1:Int):Option (Bool):=(slices_Index_int_int.f k l0 a1).bind fun t98=>(some (decide (t98≥0)))
set_option maxHeartbeats 8000000 in
set_option maxRecDepth 100000 in
theorem slices_Contains_int_int.calls (k:Nat) (A0:Option Addr) (c0:Nat) (l0:List Int) (a1:Int) (r:Bool) (w:World) (hr0:Kd.C (Kd.int .i64) w A0 l0.length l0) (hc0:l0.length≤c0) (h:slices_Contains_int_int.f k l0 a1=some r) :
  Calls Tryz.prog 20 #[.slice A0 l0.length c0,.int .i64 a1] w fun e w'=>e=.returned (.bool r)∧Drawn0 w w':=by
 have HR0:=zA hr0;have HC0:=zA hc0;clear hr0 hc0;have H:((slices_Index_int_int.f k l0 a1).bind fun t98=>(some (decide (t98≥0))))=some r:=h;clear h;obtain ⟨t98,A3,H⟩:=zo H;obtain rfl:=Option.some.inj H
 go_enter Tryz.func20,Tryz.ntmps20
 go_wp2_with (first|((with_reducible refine gate_callee (f:=55) rfl ?_);refine zgo 7 Tryz.func55 #[.slice A0 l0.length c0,.int .i64 a1] ?_;(with_reducible refine (slices_Index_int_int.calls k _ _ l0 a1 t98 _ ?side1 HC0.out A3.out).mono ?_);(case side1=>repeat (first|exact HR0.out|(with_reducible refine Kd.C_alloc ?_ _)|(with_reducible refine Kd.C_drewN ?_ _)|(with_reducible refine Kd.C_drew ?_)));rintro e w' ⟨rfl,⟨nd,rfl⟩⟩;refine ⟨_,rfl,?_⟩))
 go_ret
 exact ⟨by first|rfl|(simp;done)|(simp [*];done),by repeat (first|exact Drawn0.refl _|apply Drawn0.step)⟩
def solve_Holds_1_v1.f (k:Nat) (l0_0:List Int) (l0_1:List Int) (a1_0:Int):Option (Bool):=(solve_row.f k l0_0 l0_1 a1_0).bind fun t94=>((slices_Contains_int_int.f k l0_1 t94).bind fun t99=>(some (!t99)))
def solve_Holds_1_v1.T1:Bool×List (List Nat×List Nat):=(true,[([],[]),([0],[0]),([],[]),([],[]),([2,3],[2,3]),([1,4,4],[1,4]),([5],[5]),([6,5,0,1,2,3,4,5,6],[6])])
def solve_Holds_1_v1.B1:List Nat:=[0,1,0,0,12,31,63,127]
theorem solve_Holds_1_v1.tab1:rtab .any (opsOf Tryz.f106 1)=solve_Holds_1_v1.T1:=by kernel_rfl
theorem solve_Holds_1_v1.bits1:waitsOk solve_Holds_1_v1.T1.2 solve_Holds_1_v1.B1=true:=by kernel_rfl
set_option maxHeartbeats 8000000 in
set_option maxRecDepth 100000 in
theorem solve_Holds_1_v1.calls (k:Nat) (A0_0:Option Addr) (c0_0:Nat) (l0_0:List Int) (A0_1:Option Addr) (c0_1:Nat) (l0_1:List Int) (gp1_0:Nat) (a1_0:Int) (r:Bool) (w:World) (hr0_0:Kd.C (Kd.int .i64) w A0_0 l0_0.length l0_0) (hc0_0:l0_0.length≤c0_0) (hr0_1:Kd.C (Kd.int .i64) w A0_1 l0_1.length l0_1) (hc0_1:l0_1.length≤c0_1) (hb_gp1_0:w.heap[gp1_0]?=some (.cells #[.int .i64 a1_0] 3 (0,0))) (h:solve_Holds_1_v1.f k l0_0 l0_1 a1_0=some r) :
  Calls Tryz.prog 106 #[.agg #[.slice A0_0 l0_0.length c0_0,.slice A0_1 l0_1.length c0_1],.pointer (some ⟨gp1_0,0,none⟩)] w fun e w'=>e=.returned (.bool r)∧Below w.heap.size w w':=by
 have HR0_0:=zA hr0_0;have HC0_0:=zA hc0_0;clear hr0_0 hc0_0;have HR0_1:=zA hr0_1;have HC0_1:=zA hc0_1;clear hr0_1 hc0_1;have BK90:=zA hb_gp1_0;clear hb_gp1_0;have HB:=zA (Below.refl w.heap.size w);have H:((solve_row.f k l0_0 l0_1 a1_0).bind fun t94=>((slices_Contains_int_int.f k l0_1 t94).bind fun t99=>(some (!t99))))=some r:=h;clear h;obtain ⟨t94,A3,H⟩:=zo H;obtain ⟨t99,A4,H⟩:=zo H;obtain rfl:=Option.some.inj H
 go_enter Tryz.func106,Tryz.ntmps106
 try go_wp2_with (first|((with_reducible refine gd 2 rfl ?_);refine zx #[.slice A0_0 l0_0.length c0_0,.slice A0_1 l0_1.length c0_1] 63 ?_;intro gb83 hg w5 BK83 hb GW83 HB1;have GE83:=GW83;have NB90_83:=zL hg BK90;have NB83_90:=zLs NB90_83;replace BK90:=zw BK90 hb;clear HB hb hg;have HB:=HB1;clear HB1))
 replace BK90:=zA (blk_drew BK90.out);replace BK83:=zA (blk_drew BK83.out);replace HB:=zA (below_drew1 HB.out);refine start_ (n:=8) (S:=fun w'=>w'.cell? ⟨gb83,0,none⟩=some (.slice A0_0 l0_0.length c0_0)∧w'.cell? ⟨gb83,1,none⟩=some (.slice A0_1 l0_1.length c0_1)∧w'.cell? ⟨gp1_0,0,none⟩=some (.int .i64 a1_0)) (ds:=[]) (bz 8 0) zK rfl rfl ⟨zc0 BK83,zc1 BK83,zc0 BK90⟩ (fun hHeld=>?_);refine with_tabW solve_Holds_1_v1.tab1 solve_Holds_1_v1.bits1 (fun HT_ HW_=>?_)
 generalize w5.drew=w6 at BK90 BK83 HB hHeld ⊢
 refine zP 0 4 (bz 8 1) HT_ ?_;refine zQ 1 5 (bz 8 3) HT_ HW_ hHeld ?_;refine zQ 2 6 (bz 8 7) HT_ HW_ hHeld ?_;refine zQ 3 7 (bz 8 15) HT_ HW_ hHeld ?_;refine one_ (i:=4) (N:=some 8) (bz 8 31) rfl rfl (one_of HT_.out zK) (by decide) (fun K hK=>?_);refine goes_ Tryz.func107 zK rfl #[.agg #[.slice A0_0 l0_0.length c0_0,.slice A0_1 l0_1.length c0_1],.int .i64 a1_0] (by rfl) rfl rfl zM ?_
 with_reducible refine (solve_row.calls k _ _ l0_0 _ _ l0_1 a1_0 t94 _ ?side1 ?side2 ?side3 ?side4 A3.out).mono ?_
 (case side1=>exact zC (Kd.C_below HR0_0.out HB.out));(case side2=>exact HC0_0.out);(case side3=>exact zC (Kd.C_below HR0_1.out HB.out));(case side4=>exact HC0_1.out);rintro e w7 ⟨rfl,hb⟩;refine ⟨_,rfl,?_⟩;replace BK90:=zw BK90 hb;replace BK83:=zw BK83 hb;replace HB:=zu hb;(try clear hb);(try clear hb2);(try clear hk);(try clear hi);refine hK.out _ _ ⟨zc0 BK83,zc1 BK83,zc0 BK90⟩ (fun hHeld=>?_);clear hK K;refine norm_ (a':=?_) ?_ ?_;rotate_left
 ·show Act.put _ (some 8) _=_
  simp only [Act.put,zi,zs,zt,i64_w,i32_w];rfl
 refine one_ (i:=5) (N:=some 9) (bz 8 63) rfl rfl (one_of HT_.out zK) (by decide) (fun K hK=>?_);refine goes_ Tryz.func20 zK rfl #[.slice A0_1 l0_1.length c0_1,.int .i64 t94] (by rfl) rfl rfl zM ?_
 with_reducible refine (slices_Contains_int_int.calls k _ _ l0_1 t94 t99 _ ?side1 ?side2 A4.out).mono ?_
 (case side1=>exact zC (Kd.C_below HR0_1.out HB.out));(case side2=>exact HC0_1.out);rintro e w' ⟨rfl,⟨nd,rfl⟩⟩;refine ⟨_,rfl,?_⟩;refine hK.out _ _ ⟨zc0 BK83,zc1 BK83,zc0 BK90⟩ (fun hHeld=>?_);clear hK K;refine norm_ (a':=?_) ?_ ?_;rotate_left
 ·show Act.put _ (some 9) _=_
  simp only [Act.put,zi,zs,zt,i64_w,i32_w];rfl
 refine zP 6 10 (bz 8 127) HT_ ?_;refine zP 7 3 (bz 8 255) HT_ ?_;refine done_ (done_of HT_.out zK) ?_
 try go_wp2
 go_ret
 exact ⟨ze,zv1 HB GE83⟩
def api_Table_solve_Holds_1_v2.l0:Nat→List (S63)→Int→Int→Int→Option (Int)
 | 0,_,_,_,_=>none
 | k+1,x0,x7,x8,x100=>if x8<x7 then (if 0≤x8 then (if x8<(x0.length:Int) then ((solve_Holds_1_v1.f k ((rd_T63 x0 x8).f0) ((rd_T63 x0 x8).f1) x100).bind fun t376=>(if t376=true then (some x8) else (api_Table_solve_Holds_1_v2.l0 k x0 x7 (wrap64 (x8+1)) x100))) else (none)) else (none)) else (some (-1))
def api_Table_solve_Holds_1_v2.f (k:Nat) (l0:List (S63)) (a1_0:Int):Option (Int):=api_Table_solve_Holds_1_v2.l0 k l0 (l0.length:Int) 0 a1_0
set_option maxHeartbeats 8000000 in
set_option maxRecDepth 100000 in
theorem api_Table_solve_Holds_1_v2.calls (k:Nat) (A0:Option Addr) (c0:Nat) (l0:List (S63)) (gp1_0:Nat) (a1_0:Int) (r:Int) (w:World) (hr0:Kd.C k63 w A0 l0.length l0) (hc0:l0.length≤c0) (hb_gp1_0:w.heap[gp1_0]?=some (.cells #[.int .i64 a1_0] 3 (0,0))) (h:api_Table_solve_Holds_1_v2.f k l0 a1_0=some r) :
  Calls Tryz.prog 123 #[.slice A0 l0.length c0,.func (.func 106) #[] #[.pointer (some ⟨gp1_0,0,none⟩)]] w fun e w'=>e=.returned (.int .i64 r)∧Below w.heap.size w w':=by
 have HR0:=zA hr0;have HC0:=zA hc0;clear hr0 hc0;have BK97:=zA hb_gp1_0;clear hb_gp1_0;have HB:=zA (Below.refl w.heap.size w);have H:(api_Table_solve_Holds_1_v2.l0 k l0 (l0.length:Int) 0 a1_0)=some r:=h;clear h;have H':=zA H;clear H
 go_enter Tryz.func123,Tryz.ntmps123
 go_wp2
 go_loopg [8] k (fun kq v8 w'=>∃ (x8_1:Int),v8=.int .i64 x8_1∧Aside0 (api_Table_solve_Holds_1_v2.l0 kq l0 (l0.length:Int) x8_1 a1_0=some r)∧Aside0 (kq≤k)∧Aside0 (w'.heap[gp1_0]?=some (.cells #[.int .i64 a1_0] 3 (0,0)))∧Aside0 (Below w.heap.size w w'))
 case atStart=>exact ⟨(0),zT,H',⟨Nat.le_refl _⟩,⟨by refine zj ?_;exact BK97.out⟩,⟨zv0 HB⟩⟩
 case round=>
  clear H';obtain ⟨x8_1,rfl,HA,HK1,BK97,HB⟩:=hrel
  cases gk with
  | zero=>exact absurd HA.out (by simp [api_Table_solve_Holds_1_v2.l0])
  | succ k1=>
   have H:=HA.out;clear HA;simp only [api_Table_solve_Holds_1_v2.l0] at H
   rcases ifd H with ⟨c3b0,H⟩|⟨c3b0,H⟩
   ·obtain ⟨c4b0,H⟩:=ifd1 H;obtain ⟨c5b0,H⟩:=ifd1 H;obtain ⟨t376,A6,H⟩:=zo H;have HC7:=zA H;clear H;obtain ⟨p76,q76,ad76,A76_0,c76_0,A76_1,c76_1,e76,hx76_0,hx76_1,hl76_0,hi76_0,hl76_1,hi76_1⟩:=zp (at_T63 HR0.out x8_1)
    cases e76
    replace hx76_0:=zd HB hx76_0;replace hx76_1:=zd HB hx76_1;have HR76_0:=zA hi76_0;have HC76_0:=zA hl76_0;clear hi76_0 hl76_0;have HR76_1:=zA hi76_1;have HC76_1:=zA hl76_1;clear hi76_1 hl76_1;replace p76:=eq_true p76;replace q76:=eq_true q76
    go_upto_if 16 with (first|(go_at_call 106;(with_reducible refine (solve_Holds_1_v1.calls k1 _ _ ((rd_T63 l0 x8_1).f0) _ _ ((rd_T63 l0 x8_1).f1) gp1_0 a1_0 t376 _ (zD HR76_0 HB) HC76_0.out (zD HR76_1 HB) HC76_1.out ?side5 A6.out).mono ?_);(case side5=>refine zj ?_;exact BK97.out);rintro e w8 ⟨rfl,hb⟩;replace BK97:=zw BK97 hb;replace HB:=zu hb;clear hb))
    (try simp only [Act.put,zi,zs,zt]);have H:=HC7.out;clear HC7
    by_cases c9:t376=true
    ·subst c9
     have H1:(some x8_1)=some r:=by rw [if_pos rfl] at H;exact H
     clear H;have H:=H1;clear H1;obtain rfl:=Option.some.inj H
     go_wp2
     go_ret
     exact ⟨ze,zv0 HB⟩
    ·replace c9:=Bool.eq_false_iff.mpr c9;subst c9
     have H1:(api_Table_solve_Holds_1_v2.l0 k1 l0 (l0.length:Int) (wrap64 (x8_1+1)) a1_0)=some r:=by rw [if_neg (show ¬ (false=true) by decide)] at H;exact H
     clear H;have H:=H1;clear H1;have H':=zA H;clear H
     go_wp2
     go_roundg k1
     case measure=>have:=HK1.out;omega
     case rel=>exact ⟨(wrap64 (x8_1+1)),zT,H',⟨by have:=HK1.out;omega⟩,⟨by refine zj ?_;exact BK97.out⟩,⟨zv0 HB⟩⟩
   ·obtain rfl:=Option.some.inj H
    go_wp2
    go_ret
    exact ⟨ze,zv0 HB⟩
def api_Table_solve_Holds_1.f (k:Nat) (l0:List (S63)) (a1_0:Int):Option (Bool):=(api_Table_solve_Holds_1_v2.f k l0 a1_0).bind fun t378=>(some (decide (t378≥0)))
set_option maxHeartbeats 8000000 in
set_option maxRecDepth 100000 in
theorem api_Table_solve_Holds_1.calls (k:Nat) (A0:Option Addr) (c0:Nat) (l0:List (S63)) (gp1_0:Nat) (a1_0:Int) (r:Bool) (w:World) (hr0:Kd.C k63 w A0 l0.length l0) (hc0:l0.length≤c0) (hb_gp1_0:w.heap[gp1_0]?=some (.cells #[.int .i64 a1_0] 3 (0,0))) (h:api_Table_solve_Holds_1.f k l0 a1_0=some r) :
  Calls Tryz.prog 105 #[.slice A0 l0.length c0,.func (.func 106) #[] #[.pointer (some ⟨gp1_0,0,none⟩)]] w fun e w'=>e=.returned (.bool r)∧Below w.heap.size w w':=by
 have HR0:=zA hr0;have HC0:=zA hc0;clear hr0 hc0;have BK377:=zA hb_gp1_0;clear hb_gp1_0;have HB:=zA (Below.refl w.heap.size w);have H:((api_Table_solve_Holds_1_v2.f k l0 a1_0).bind fun t378=>(some (decide (t378≥0))))=some r:=h;clear h;obtain ⟨t378,A3,H⟩:=zo H;obtain rfl:=Option.some.inj H
 go_enter Tryz.func105,Tryz.ntmps105
 go_wp2_with (first|((with_reducible refine gate_callee (f:=123) rfl ?_);refine zgo 7 Tryz.func123 #[.slice A0 l0.length c0,.func (.func 106) #[] #[.pointer (some ⟨gp1_0,0,none⟩)]] ?_;(with_reducible refine (api_Table_solve_Holds_1_v2.calls k _ _ l0 gp1_0 a1_0 t378 _ ?side1 HC0.out ?side3 A3.out).mono ?_);(case side1=>repeat (first|exact HR0.out|(with_reducible refine Kd.C_alloc ?_ _)|(with_reducible refine Kd.C_drewN ?_ _)|(with_reducible refine Kd.C_drew ?_)));(case side3=>refine zj ?_;exact BK377.out);rintro e w4 ⟨rfl,hb⟩;refine ⟨_,rfl,?_⟩;replace BK377:=zw BK377 hb;replace HB:=zu hb;clear hb))
 go_ret
 exact ⟨ze,zv0 HB⟩
def solve_Holds.l0:Nat→List (S63)→Int→List Int→Int→Int→Int→Option (Bool)
 | 0,_,_,_,_,_,_=>none
 | k+1,x0,x5,x20,x21,x22,x95=>if x22<x21 then (if 0≤x22 then (if x22<(x20.length:Int) then (if 0≤(rd x20 x22) then (solve_Holds.l0 k x0 (Go.bits .or .i64 x5 (shl .i64 1 (rd x20 x22))) x20 x21 (wrap64 (x22+1)) x95) else (none)) else (none)) else (none)) else (if (Go.bits .andNot .i64 x95 x5)=0 then ((api_Table_solve_Holds_1.f k x0 x95).bind fun t385=>(some (!t385))) else (some false))
def solve_Holds.f (k:Nat) (l0:List (S63)) (a1:Int):Option (Bool):=(solve_valid.f k l0).bind fun t96=>(if t96=0 then (if a1<0 then (some false) else (if a1≥16777216 then (some false) else ((solve_occurring.f k l0).bind fun t81=>(solve_Holds.l0 k l0 0 t81 (t81.length:Int) 0 a1)))) else (some false))
set_option maxHeartbeats 8000000 in
set_option maxRecDepth 100000 in
theorem solve_Holds.calls (k:Nat) (A0:Option Addr) (c0:Nat) (l0:List (S63)) (a1:Int) (r:Bool) (w:World) (hr0:Kd.C k63 w A0 l0.length l0) (hc0:l0.length≤c0) (h:solve_Holds.f k l0 a1=some r) :
  Calls Tryz.prog 80 #[.slice A0 l0.length c0,.int .i64 a1] w fun e w'=>e=.returned (.bool r)∧Below w.heap.size w w':=by
 have HR0:=zA hr0;have HC0:=zA hc0;clear hr0 hc0;have HB:=zA (Below.refl w.heap.size w);have H:((solve_valid.f k l0).bind fun t96=>(if t96=0 then (if a1<0 then (some false) else (if a1≥16777216 then (some false) else ((solve_occurring.f k l0).bind fun t81=>(solve_Holds.l0 k l0 0 t81 (t81.length:Int) 0 a1)))) else (some false)))=some r:=h;clear h;have HC3:=zA H;clear H
 go_enter Tryz.func80,Tryz.ntmps80
 go_upto_region 1 with (first|((with_reducible refine gd 3 rfl ?_);refine zx #[.int .i64 a1] 3 ?_;intro gb77 hg w4 BK77 hb GW77 HB1;have GE77:=GW77;clear HB hb hg;have HB:=HB1;clear HB1))
 (try simp only [Act.put,zi,zs,zt]);have H:=HC3.out;clear HC3;obtain ⟨t96,A5,H⟩:=zo H
 rcases ife H with ⟨c6b0,c6b1,H⟩|⟨c6,c6b0,c6b1,H⟩
 ·(first|rw [c6b0]|(simp only [i64_w,i32_w];rw [c6b0])|skip)
  (try rw [c6b1])
  rcases ifd H with ⟨c7b0,H⟩|⟨c7b0,H⟩
  ·obtain rfl:=Option.some.inj H
   go_wp2_with (first|((with_reducible refine gate_callee (f:=69) rfl ?_);refine zgo 9 Tryz.func69 #[.slice A0 l0.length c0] ?_;(with_reducible refine (solve_valid.calls k _ _ l0 t96 _ (zD HR0 HB) HC0.out A5.out).mono ?_);rintro e w8 ⟨rfl,hb⟩;refine ⟨_,rfl,?_⟩;replace BK77:=zw BK77 hb;replace HB:=zu hb;clear hb;have hcz9_0:=zc0 BK77;have hfz9_0:=zf BK77 0))
   go_ret
   exact ⟨ze,zv1 HB GE77⟩
  ·have HC10:=zA H;clear H
   go_upto_if 18 with (first|((with_reducible refine gate_callee (f:=69) rfl ?_);refine zgo 9 Tryz.func69 #[.slice A0 l0.length c0] ?_;(with_reducible refine (solve_valid.calls k _ _ l0 t96 _ (zD HR0 HB) HC0.out A5.out).mono ?_);rintro e w11 ⟨rfl,hb⟩;refine ⟨_,rfl,?_⟩;replace BK77:=zw BK77 hb;replace HB:=zu hb;clear hb;have hcz12_0:=zc0 BK77;have hfz12_0:=zf BK77 0))
   (try simp only [Act.put,zi,zs,zt]);have H:=HC10.out;clear HC10
   rcases if0 H with ⟨c13,H⟩|⟨c13,H⟩
   ·have c13b0:decide (16777216≤a1)=true:=decide_eq_true c13;clear c13
    (first|rw [c13b0]|(simp only [i64_w,i32_w];rw [c13b0])|skip)
    obtain rfl:=Option.some.inj H
    go_wp2
    go_ret
    exact ⟨ze,zv1 HB GE77⟩
   ·have c13b0:decide (16777216≤a1)=false:=decide_eq_false c13;clear c13
    (first|rw [c13b0]|(simp only [i64_w,i32_w];rw [c13b0])|skip)
    obtain ⟨t81,A14,H⟩:=zo H;have H':=zA H;clear H
    go_wp2_with (first|((with_reducible refine gate_callee (f:=70) rfl ?_);refine zgo 20 Tryz.func70 #[.slice A0 l0.length c0] ?_;(with_reducible refine (solve_occurring.calls k _ _ l0 t81 _ (zD HR0 HB) HC0.out A14.out).mono ?_);rintro e w15 ⟨v382,rfl,ho0,hb⟩;refine ⟨_,rfl,?_⟩;have HO383:=zA (Kd.R_lower (Kd.R_newB ho0 (g:=gb77) (o:=.cells #[.int .i64 a1] 3 (0,0)) (zk BK77)) (below_size zB));replace BK77:=zw BK77 hb;replace HB:=zu hb;clear hb;(try clear ho0);obtain ⟨Ao16,co16,eo16⟩:=Kd.R_slice HO383.out;subst eo16))
    go_loopg [5,22] k (fun kq v5 v22 w'=>∃ (x5_1:Int) (x22_1:Int),v5=.int .i64 x5_1∧v22=.int .i64 x22_1∧Aside0 (solve_Holds.l0 kq l0 x5_1 t81 (t81.length:Int) x22_1 a1=some r)∧Aside0 (kq≤k)∧Aside0 (Kd.R (Kd.int .i64) 3 w' w.heap.size (fun k_=>k_≠gb77) (.slice Ao16 t81.length co16) t81)∧Aside0 (w'.heap[gb77]?=some (.cells #[.int .i64 a1] 3 (0,0)))∧Aside0 (Below w.heap.size w w'))
    case atStart=>exact ⟨(0),(0),zT,zT,H',⟨Nat.le_refl _⟩,⟨by refine zr ?_;exact Kd.R_mono HO383.out (fun _ hk=>hk.2)⟩,⟨by refine zj ?_;exact BK77.out⟩,⟨zv1 HB GE77⟩⟩
    case round=>
     clear H'
     try clear c6
     try clear c6b0
     try clear c6b1
     try clear c7
     try clear c7b0
     try clear c13
     try clear c13b0
     try clear hcz12_0
     try clear hfz12_0
     obtain ⟨x5_1,x22_1,rfl,rfl,HA,HK1,HO_20,BK77,HB⟩:=hrel
     cases gk with
     | zero=>exact absurd HA.out (by simp [solve_Holds.l0])
     | succ k1=>
      have H:=HA.out;clear HA;simp only [solve_Holds.l0] at H
      rcases ifd H with ⟨c17b0,H⟩|⟨c17b0,H⟩
      ·obtain ⟨c18b0,H⟩:=ifd1 H;obtain ⟨c19b0,H⟩:=ifd1 H;obtain ⟨c20,H⟩:=if1 H;have c20b0:=eq_true c20;have c20b1:decide (0≤(rd t81 x22_1))=true:=decide_eq_true c20;clear c20;obtain ⟨ji21,hji21⟩:=zZ (shl .i64 1 (rd t81 x22_1))
       first|rw [hji21] at H|simp only [hji21] at H
       have hji21_:(IntKind.i64.wrap (1 * 2 ^ min (rd t81 x22_1).toNat 64))=ji21:=hji21;have hji21z:(rd t81 x22_1)≤64→(IntKind.i64.wrap (1 * 2 ^ (rd t81 x22_1).toNat))=ji21:=shl_small hji21
       have hji21u:(IntKind.i64.wrap (2 ^ min (rd t81 x22_1).toNat 64))=ji21:=by have h_:=hji21_;rw [Int.one_mul] at h_;exact h_
       have hji21v:(rd t81 x22_1)≤64→(IntKind.i64.wrap (2 ^ (rd t81 x22_1).toNat))=ji21:=fun hle_=>by have h_:=hji21z hle_;rw [Int.one_mul] at h_;exact h_
       have hji21y:(wrap64 (1 * 2 ^ min (rd t81 x22_1).toNat 64))=ji21:=(i64_w _).symm.trans hji21_
       have hji21x:(rd t81 x22_1)≤64→(wrap64 (1 * 2 ^ (rd t81 x22_1).toNat))=ji21:=fun h_=>(i64_w _).symm.trans (hji21z h_)
       have H':=zA H;clear H;obtain ⟨p93,q93,ad93,e93,hx93_0⟩:=zp (Kd.at_int (Kd.R_reads' HO_20.out).2.2 x22_1)
       cases e93
       replace p93:=eq_true p93;replace q93:=eq_true q93
       go_wp2
       go_roundg k1
       case measure=>have:=HK1.out;omega
       case rel=>exact ⟨(Go.bits .or .i64 x5_1 (ji21)),(wrap64 (x22_1+1)),(by first|rfl|(simp;done)|(simp only [← hji21] <;> (first|rfl|simp))|(simp [*];done)),zT,H',⟨by have:=HK1.out;omega⟩,⟨by refine zr ?_;exact HO_20.out⟩,⟨by refine zj ?_;exact BK77.out⟩,⟨zv1 HB GE77⟩⟩
      ·rcases ife H with ⟨c22b0,c22b1,H⟩|⟨c22,c22b0,c22b1,H⟩
       ·obtain ⟨t385,A23,H⟩:=zo H;obtain rfl:=Option.some.inj H;have hcz24_0:=zc0 BK77;have hfz24_0:=zf BK77 0
        go_wp2_with (first|(go_at_call 105;(with_reducible refine (api_Table_solve_Holds_1.calls k1 _ _ l0 gb77 a1 t385 _ (zD HR0 HB) HC0.out ?side3 A23.out).mono ?_);(case side3=>refine zj ?_;exact BK77.out);rintro e w25 ⟨rfl,hb⟩;replace HO_20:=zA (Kd.R_below (zR HO_20) hb);replace BK77:=zw BK77 hb;replace HB:=zu hb;clear hb))
        go_ret
        exact ⟨ze,zv1 HB GE77⟩
       ·obtain rfl:=Option.some.inj H;have hcz26_0:=zc0 BK77;have hfz26_0:=zf BK77 0
        go_wp2
        go_ret
        exact ⟨ze,zv1 HB GE77⟩
 ·(first|rw [c6b0]|(simp only [i64_w,i32_w];rw [c6b0])|skip)
  (try rw [c6b1]);obtain rfl:=Option.some.inj H
  go_wp2_with (first|((with_reducible refine gate_callee (f:=69) rfl ?_);refine zgo 9 Tryz.func69 #[.slice A0 l0.length c0] ?_;(with_reducible refine (solve_valid.calls k _ _ l0 t96 _ (zD HR0 HB) HC0.out A5.out).mono ?_);rintro e w27 ⟨rfl,hb⟩;refine ⟨_,rfl,?_⟩;replace BK77:=zw BK77 hb;replace HB:=zu hb;clear hb))
  go_ret
  exact ⟨ze,zv1 HB GE77⟩
def slices_Index_bool_bool.l0:Nat→List Bool→Bool→Int→Int→Option (Int)
 | 0,_,_,_,_=>none
 | k+1,x0,x1,x7,x8=>if x8<x7 then (if 0≤x8 then (if x8<(x0.length:Int) then (if (x1 == (rdOf false x0 x8))=true then (some x8) else (slices_Index_bool_bool.l0 k x0 x1 x7 (wrap64 (x8+1)))) else (none)) else (none)) else (some (-1))
def slices_Index_bool_bool.f (k:Nat) (l0:List Bool) (a1:Bool):Option (Int):=slices_Index_bool_bool.l0 k l0 a1 (l0.length:Int) 0
theorem slices_Index_bool_bool.mono_l:∀ k,(∀ y0 y1 y2 y3,LeO (slices_Index_bool_bool.l0 k y0 y1 y2 y3) (slices_Index_bool_bool.l0 (k+1) y0 y1 y2 y3))
 | 0=>fun _ _ _ _ r h=>by simp [slices_Index_bool_bool.l0] at h
 | k+1=>by
  have ih0:=slices_Index_bool_bool.mono_l k
  ·intro y0 y1 y2 y3
   unfold slices_Index_bool_bool.l0
   repeat' first
   | (with_reducible exact ih0 _ _ _ _)
   | (with_reducible exact LeO.refl _)
   | (with_reducible exact LeO.none _)
   | (with_reducible refine LeO.ite ?_ ?_)
   | (with_reducible refine LeO.bind ?_ (fun _=>?_))
   | exact LeO.none _
   | refine LeO.ite ?_ ?_
   | refine LeO.bind ?_ (fun _=>?_)
theorem slices_Index_bool_bool.mono:∀ a0 a1 k,LeO (slices_Index_bool_bool.f k a0 a1) (slices_Index_bool_bool.f (k+1) a0 a1):=by
 intro a0 a1 k;have ih0:=slices_Index_bool_bool.mono_l k
 unfold slices_Index_bool_bool.f
 repeat' first
   | (with_reducible exact ih0 _ _ _ _)
   | (with_reducible exact LeO.refl _)
   | (with_reducible exact LeO.none _)
   | (with_reducible refine LeO.ite ?_ ?_)
   | (with_reducible refine LeO.bind ?_ (fun _=>?_))
   | exact LeO.none _
   | refine LeO.ite ?_ ?_
   | refine LeO.bind ?_ (fun _=>?_)
set_option maxHeartbeats 8000000 in
set_option maxRecDepth 100000 in
theorem slices_Index_bool_bool.calls (k:Nat) (A0:Option Addr) (c0:Nat) (l0:List Bool) (a1:Bool) (r:Int) (w:World) (hr0:Kd.C Kd.bool w A0 l0.length l0) (hc0:l0.length≤c0) (h:slices_Index_bool_bool.f k l0 a1=some r) :
  Calls Tryz.prog 139 #[.slice A0 l0.length c0,.bool a1] w fun e w'=>e=.returned (.int .i64 r)∧Drawn0 w w':=by
 have HR0:=zA hr0;have HC0:=zA hc0;clear hr0 hc0;have H:(slices_Index_bool_bool.l0 k l0 a1 (l0.length:Int) 0)=some r:=h;clear h;have H':=zA H;clear H
 go_enter Tryz.func139,Tryz.ntmps139
 go_wp2
 go_loopg [8] k (fun kq v8 w'=>∃ (x8_1:Int),v8=.int .i64 x8_1∧Aside0 (slices_Index_bool_bool.l0 kq l0 a1 (l0.length:Int) x8_1=some r)∧Aside0 (kq≤k)∧Drawn0 w w')
 case atStart=>exact ⟨(0),zT,H',⟨Nat.le_refl _⟩,by repeat (first|exact Drawn0.refl _|apply Drawn0.step)⟩
 case round=>
  clear H';obtain ⟨x8_1,rfl,HA,HK1,⟨m1,rfl⟩⟩:=hrel
  cases gk with
  | zero=>exact absurd HA.out (by simp [slices_Index_bool_bool.l0])
  | succ k1=>
   have H:=HA.out;clear HA;simp only [slices_Index_bool_bool.l0] at H
   rcases ifd H with ⟨c3b0,H⟩|⟨c3b0,H⟩
   ·obtain ⟨c4b0,H⟩:=ifd1 H;obtain ⟨c5b0,H⟩:=ifd1 H
    rcases if0 H with ⟨c6,H⟩|⟨c6,H⟩
    ·have c6b0:(a1 == (rdOf false l0 x8_1))=true:=c6;(try (have c6b1:decide (a1=(rdOf false l0 x8_1))=true:=by simpa using c6));(try (have c6b2:(a1 == (rdOf false l0 x8_1))=true:=by simpa using c6));clear c6;obtain rfl:=Option.some.inj H;obtain ⟨p88,q88,ad88,e88,hx88_0⟩:=zp (Kd.at_bool HR0.out x8_1)
     cases e88
     replace p88:=eq_true p88;replace q88:=eq_true q88
     go_wp2
     go_ret
     exact ⟨by first|rfl|(simp;done)|(simp [*];done),by repeat (first|exact Drawn0.refl _|apply Drawn0.step)⟩
    ·have c6b0:(a1 == (rdOf false l0 x8_1))=false:=by simpa using c6
     (try (have c6b1:decide (a1=(rdOf false l0 x8_1))=false:=by simpa using c6));(try (have c6b2:(a1 == (rdOf false l0 x8_1))=false:=by simpa using c6));(try (have c6b3:¬ (a1=(rdOf false l0 x8_1)):=by simpa using c6));clear c6;have H':=zA H;clear H;obtain ⟨p88,q88,ad88,e88,hx88_0⟩:=zp (Kd.at_bool HR0.out x8_1)
     cases e88
     replace p88:=eq_true p88;replace q88:=eq_true q88
     go_wp2
     go_roundg k1
     case measure=>have:=HK1.out;omega
     case rel=>exact ⟨(wrap64 (x8_1+1)),zT,H',⟨by have:=HK1.out;omega⟩,by repeat (first|exact Drawn0.refl _|apply Drawn0.step)⟩
   ·obtain rfl:=Option.some.inj H
    go_wp2
    go_ret
    exact ⟨by first|rfl|(simp;done)|(simp [*];done),by repeat (first|exact Drawn0.refl _|apply Drawn0.step)⟩
def slices_Contains_bool_bool.f (k:Nat) (l0:List Bool) (a1:Bool):Option (Bool):=(slices_Index_bool_bool.f k l0 a1).bind fun t387=>(some (decide (t387≥0)))
theorem slices_Contains_bool_bool.mono:∀ a0 a1 k,LeO (slices_Contains_bool_bool.f k a0 a1) (slices_Contains_bool_bool.f (k+1) a0 a1):=by
 intro a0 a1 k
 unfold slices_Contains_bool_bool.f
 repeat' first
   | (with_reducible exact slices_Index_bool_bool.mono _ _ _)
   | (with_reducible exact LeO.refl _)
   | (with_reducible exact LeO.none _)
   | (with_reducible refine LeO.ite ?_ ?_)
   | (with_reducible refine LeO.bind ?_ (fun _=>?_))
   | exact LeO.none _
   | refine LeO.ite ?_ ?_
   | refine LeO.bind ?_ (fun _=>?_)
set_option maxHeartbeats 8000000 in
set_option maxRecDepth 100000 in
theorem slices_Contains_bool_bool.calls (k:Nat) (A0:Option Addr) (c0:Nat) (l0:List Bool) (a1:Bool) (r:Bool) (w:World) (hr0:Kd.C Kd.bool w A0 l0.length l0) (hc0:l0.length≤c0) (h:slices_Contains_bool_bool.f k l0 a1=some r) :
  Calls Tryz.prog 124 #[.slice A0 l0.length c0,.bool a1] w fun e w'=>e=.returned (.bool r)∧Drawn0 w w':=by
 have HR0:=zA hr0;have HC0:=zA hc0;clear hr0 hc0;have H:((slices_Index_bool_bool.f k l0 a1).bind fun t387=>(some (decide (t387≥0))))=some r:=h;clear h;obtain ⟨t387,A3,H⟩:=zo H;obtain rfl:=Option.some.inj H
 go_enter Tryz.func124,Tryz.ntmps124
 go_wp2_with (first|((with_reducible refine gate_callee (f:=139) rfl ?_);refine zgo 7 Tryz.func139 #[.slice A0 l0.length c0,.bool a1] ?_;(with_reducible refine (slices_Index_bool_bool.calls k _ _ l0 a1 t387 _ ?side1 HC0.out A3.out).mono ?_);(case side1=>repeat (first|exact HR0.out|(with_reducible refine Kd.C_alloc ?_ _)|(with_reducible refine Kd.C_drewN ?_ _)|(with_reducible refine Kd.C_drew ?_)));rintro e w' ⟨rfl,⟨nd,rfl⟩⟩;refine ⟨_,rfl,?_⟩))
 go_ret
 exact ⟨by first|rfl|(simp;done)|(simp [*];done),by repeat (first|exact Drawn0.refl _|apply Drawn0.step)⟩
mutual
def solve_shape.l0:Nat→List (S63)→Int→List Bool→List (S103)→Int→Int→Option (Bool)
 | 0,_,_,_,_,_,_=>none
 | k+1,x0,x5,x6,x23,x24,x25=>if x25<x24 then (if 0≤x25 then (if x25<(x23.length:Int) then (if ((rd_T103 x23 x25).f0)=(-1) then (if ((rd_T103 x23 x25).f1)=0 then (if ((rd_T103 x23 x25).f2)=0 then (if ((rd_T103 x23 x25).f3)<0 then (some false) else (if ((rd_T103 x23 x25).f3)≥(x0.length:Int) then (some false) else (solve_shape.l0 k x0 x5 x6 x23 x24 (wrap64 (x25+1))))) else (some false)) else (some false)) else (if ((rd_T103 x23 x25).f0)<0 then (some false) else (if ((rd_T103 x23 x25).f0)≥24 then (some false) else (if ((rd_T103 x23 x25).f3)=0 then ((some (([(rd_T103 x23 x25).f1,(rd_T103 x23 x25).f2]:List Int):List Int)).bind fun y78=>(solve_shape.l1 k x0 x5 x6 x25 x23 x24 x25 y78 (y78.length:Int) 0)) else (some false))))) else (none)) else (none)) else (if 1≤(x6.length:Int) then ((slices_Contains_bool_bool.f k (x6.drop 1) false).bind fun t404=>(some (!t404))) else (none))
def solve_shape.l1:Nat→List (S63)→Int→List Bool→Int→List (S103)→Int→Int→List Int→Int→Int→Option (Bool)
 | 0,_,_,_,_,_,_,_,_,_,_=>none
 | k+1,x0,x5,x6,x7,x23,x24,x25,x70,x71,x72=>if x72<x71 then (if 0≤x72 then (if x72<(x70.length:Int) then (if (rd x70 x72)≤x7 then (some false) else (if (rd x70 x72)≥x5 then (some false) else (if 0≤(rd x70 x72) then (if (rd x70 x72)<(x6.length:Int) then (if rdOf false x6 (rd x70 x72)=true then (some false) else (solve_shape.l1 k x0 x5 (x6.set ((rd x70 x72):Int).toNat true) x7 x23 x24 x25 x70 x71 (wrap64 (x72+1)))) else (none)) else (none)))) else (none)) else (none)) else (solve_shape.l0 k x0 x5 x6 x23 x24 (wrap64 (x25+1)))
end
def solve_shape.f (k:Nat) (l0:List (S63)) (l1_0:List (S103)):Option (Bool):=if (l1_0.length:Int)=0 then (some false) else (if (l1_0.length:Int)>2000 then (some false) else (if 0≤(l1_0.length:Int) then (if ((l1_0.length:Int):Int).toNat≤281474976710656 then (solve_shape.l0 k l0 (l1_0.length:Int) (List.replicate ((l1_0.length:Int):Int).toNat false) l1_0 (l1_0.length:Int) 0) else (none)) else (none)))
theorem solve_shape.mono_l:∀ k,(∀ y0 y1 y2 y3 y4 y5,LeO (solve_shape.l0 k y0 y1 y2 y3 y4 y5) (solve_shape.l0 (k+1) y0 y1 y2 y3 y4 y5))∧(∀ y0 y1 y2 y3 y4 y5 y6 y7 y8 y9,LeO (solve_shape.l1 k y0 y1 y2 y3 y4 y5 y6 y7 y8 y9) (solve_shape.l1 (k+1) y0 y1 y2 y3 y4 y5 y6 y7 y8 y9))
 | 0=>⟨fun _ _ _ _ _ _ r h=>by simp [solve_shape.l0] at h,fun _ _ _ _ _ _ _ _ _ _ r h=>by simp [solve_shape.l1] at h⟩
 | k+1=>by
  obtain ⟨ih0,ih1⟩:=solve_shape.mono_l k;refine ⟨?_,?_⟩
  ·intro y0 y1 y2 y3 y4 y5
   unfold solve_shape.l0
   repeat' first
   | (with_reducible exact ih0 _ _ _ _ _ _)
   | (with_reducible exact ih1 _ _ _ _ _ _ _ _ _ _)
   | (with_reducible exact slices_Contains_bool_bool.mono _ _ _)
   | (with_reducible exact LeO.refl _)
   | (with_reducible exact LeO.none _)
   | (with_reducible refine LeO.ite ?_ ?_)
   | (with_reducible refine LeO.bind ?_ (fun _=>?_))
   | exact LeO.none _
   | refine LeO.ite ?_ ?_
   | refine LeO.bind ?_ (fun _=>?_)
  ·intro y0 y1 y2 y3 y4 y5 y6 y7 y8 y9
   unfold solve_shape.l1
   repeat' first
   | (with_reducible exact ih0 _ _ _ _ _ _)
   | (with_reducible exact ih1 _ _ _ _ _ _ _ _ _ _)
   | (with_reducible exact slices_Contains_bool_bool.mono _ _ _)
   | (with_reducible exact LeO.refl _)
   | (with_reducible exact LeO.none _)
   | (with_reducible refine LeO.ite ?_ ?_)
   | (with_reducible refine LeO.bind ?_ (fun _=>?_))
   | exact LeO.none _
   | refine LeO.ite ?_ ?_
   | refine LeO.bind ?_ (fun _=>?_)
theorem solve_shape.mono:∀ a0 a1 k,LeO (solve_shape.f k a0 a1) (solve_shape.f (k+1) a0 a1):=by
 intro a0 a1 k;obtain ⟨ih0,ih1⟩:=solve_shape.mono_l k
 unfold solve_shape.f
 repeat' first
   | (with_reducible exact ih0 _ _ _ _ _ _)
   | (with_reducible exact ih1 _ _ _ _ _ _ _ _ _ _)
   | (with_reducible exact slices_Contains_bool_bool.mono _ _ _)
   | (with_reducible exact LeO.refl _)
   | (with_reducible exact LeO.none _)
   | (with_reducible refine LeO.ite ?_ ?_)
   | (with_reducible refine LeO.bind ?_ (fun _=>?_))
   | exact LeO.none _
   | refine LeO.ite ?_ ?_
   | refine LeO.bind ?_ (fun _=>?_)
set_option maxHeartbeats 8000000 in
set_option maxRecDepth 100000 in
theorem solve_shape.calls (k:Nat) (A0:Option Addr) (c0:Nat) (l0:List (S63)) (A1_0:Option Addr) (c1_0:Nat) (l1_0:List (S103)) (r:Bool) (w:World) (hr0:Kd.C k63 w A0 l0.length l0) (hc0:l0.length≤c0) (hr1_0:Kd.C k103 w A1_0 l1_0.length l1_0) (hc1_0:l1_0.length≤c1_0) (h:solve_shape.f k l0 l1_0=some r) :
  Calls Tryz.prog 108 #[.slice A0 l0.length c0,.agg #[.slice A1_0 l1_0.length c1_0]] w fun e w'=>e=.returned (.bool r)∧Below w.heap.size w w':=by
 have HR0:=zA hr0;have HC0:=zA hc0;clear hr0 hc0;have HR1_0:=zA hr1_0;have HC1_0:=zA hc1_0;clear hr1_0 hc1_0;have HB:=zA (Below.refl w.heap.size w);have H:(if (l1_0.length:Int)=0 then (some false) else (if (l1_0.length:Int)>2000 then (some false) else (if 0≤(l1_0.length:Int) then (if ((l1_0.length:Int):Int).toNat≤281474976710656 then (solve_shape.l0 k l0 (l1_0.length:Int) (List.replicate ((l1_0.length:Int):Int).toNat false) l1_0 (l1_0.length:Int) 0) else (none)) else (none))))=some r:=h;clear h;have HC3:=zA H;clear H
 go_enter Tryz.func108,Tryz.ntmps108
 try go_wp2_with (first|((with_reducible refine gd 3 rfl ?_);(try (refine gate_guard (by rfl) ?_;dsimp only));refine zx #[.slice A1_0 l1_0.length c1_0] 40 ?_;intro gb74 hg w4 BK74 hb GW74 HB1;have GE74:=GW74;clear HB hb hg;have HB:=HB1;clear HB1))
 refine wp_scope_straight ?_;(try simp only [Act.put,zi,zs,zt]);have H:=HC3.out;clear HC3
 rcases ife H with ⟨c5b0,c5b1,H⟩|⟨c5,c5b0,c5b1,H⟩
 ·(first|rw [c5b0]|(simp only [i64_w,i32_w];rw [c5b0])|skip)
  (try rw [c5b1]);obtain rfl:=Option.some.inj H;have hcz6_0:=zc0 BK74;have hfz6_0:=zf BK74 0
  go_wp2
  go_ret
  exact ⟨ze,zv1 HB GE74⟩
 ·have c5b2:¬ (l1_0=[]):=fun h_=>c5 (by rw [h_];rfl)
  (first|rw [c5b0]|(simp only [i64_w,i32_w];rw [c5b0])|skip)
  (try rw [c5b1]);(try rw [c5b2])
  rcases if0 H with ⟨c7,H⟩|⟨c7,H⟩
  ·have c7b0:decide (2000<(l1_0.length:Int))=true:=decide_eq_true c7;have c7b1:decide (2000<l1_0.length)=true:=decide_eq_true (by omega);clear c7;obtain rfl:=Option.some.inj H;have hcz8_0:=zc0 BK74;have hfz8_0:=zf BK74 0
   go_wp2
   go_ret
   exact ⟨ze,zv1 HB GE74⟩
  ·have c7b0:decide (2000<(l1_0.length:Int))=false:=decide_eq_false c7;have c7b1:decide (2000<l1_0.length)=false:=decide_eq_false (by omega);clear c7;obtain ⟨c9,H⟩:=if1 H;have c9b0:=eq_true c9;have c9b1:decide (0≤(l1_0.length:Int))=true:=decide_eq_true c9;clear c9;obtain ⟨c10,H⟩:=if1 H;have c10b0:=eq_true c10;have c10b1:decide (((l1_0.length:Int):Int).toNat≤281474976710656)=true:=decide_eq_true c10;clear c10
   first|(replace H:=zyb (List.replicate ((l1_0.length:Int):Int).toNat false) H;obtain ⟨y91,Ny91,H⟩:=H)|(obtain ⟨y91,hy91⟩:=zY (List.replicate ((l1_0.length:Int):Int).toNat false);(try rw (occs:=.pos [1]) [← hy91] at H);have Ny91:=zA hy91;clear hy91)
   have HC11:=zA H;clear H;have hcz12_0:=zc0 BK74;have hfz12_0:=zf BK74 0
   try go_wp2_with (first|((with_reducible refine gate_dst (N:=21) rfl ?_);(try (refine gate_guard (by rfl) ?_;dsimp only));refine Kd.R_make Kd.bool _ 4 rfl (N:=21) rfl 87 _ _ rfl (l1_0.length:Int) rfl rfl Tryz.underlying87 (.bool false) 1 info4 rfl (by decide) (by omega) false (ok:=fun _=>True) (okp:=fun _=>True) rfl (fun _ hk=>hk) trivial (of_decide_eq_true zh) (Nat.le_trans (Nat.mul_le_mul_right _ (of_decide_eq_true zh:(l1_0.length:Int).toNat≤281474976710656)) (by omega)) (Below.refl _ _) (Nat.le_refl _) ?_;intro v390 w13 ho14 hb hg_ hnew_;clear hg_ hnew_;(first|rw [← Ny91.out] at ho14|(simp only [Int.reduceToNat] at ho14;rw [← Ny91.out] at ho14));have HO391:=zA (Kd.R_lower ho14 (below_size zB));replace BK74:=zw BK74 hb;replace HB:=zu hb;clear hb ho14))
   refine wp_label ?_;(try simp only [Act.put,zi,zs,zt]);have H:=HC11.out;clear HC11;have H':=zA H;clear H;have hcz15_0:=zc0 BK74;have hfz15_0:=zf BK74 0
   go_wp2
   go_loopg [25] k (fun kq v25 w'=>∃ (x6_1:List Bool) (x25_1:Int),v25=.int .i64 x25_1∧Aside0 (solve_shape.l0 kq l0 (l1_0.length:Int) x6_1 l1_0 (l1_0.length:Int) x25_1=some r)∧Aside0 (kq≤k)∧Aside0 (Kd.R Kd.bool 4 w' w.heap.size (fun _=>True) v390 x6_1)∧Aside0 (w'.heap[gb74]?=some (.cells #[(.slice A1_0 l1_0.length c1_0)] 40 (0,0)))∧Aside0 (Below w.heap.size w w'))
   case atStart=>exact ⟨(y91),(0),zT,H',⟨Nat.le_refl _⟩,⟨by refine zr ?_;exact HO391.out⟩,⟨by refine zj ?_;exact BK74.out⟩,⟨zv1 HB GE74⟩⟩
   case round=>
    clear H'
    try clear c5
    try clear c5b0
    try clear c5b1
    try clear c5b2
    try clear c7
    try clear c7b0
    try clear c7b1
    try clear c9
    try clear c9b0
    try clear c9b1
    try clear c10
    try clear c10b0
    try clear c10b1
    try clear hcz12_0
    try clear hcz15_0
    try clear hfz12_0
    try clear hfz15_0
    obtain ⟨x6_1,x25_1,rfl,HA,HK1,HO_6,BK74,HB⟩:=hrel
    cases gk with
    | zero=>exact absurd HA.out (by simp [solve_shape.l0])
    | succ k1=>
     have H:=HA.out;clear HA;simp only [solve_shape.l0] at H
     rcases ifd H with ⟨c16b0,H⟩|⟨c16b0,H⟩
     ·(first|rw [c16b0]|(simp only [i64_w,i32_w];rw [c16b0])|skip)
      obtain ⟨c17b0,H⟩:=ifd1 H;obtain ⟨c18b0,H⟩:=ifd1 H;have HC19:=zA H;clear H;obtain ⟨p79,q79,ad79,e79,hx79_0,hx79_1,hx79_2,hx79_3⟩:=zp (at_T103 HR1_0.out x25_1)
      cases e79
      replace hx79_0:=zd HB hx79_0;replace hx79_1:=zd HB hx79_1;replace hx79_2:=zd HB hx79_2;replace hx79_3:=zd HB hx79_3;replace p79:=eq_true p79;replace q79:=eq_true q79
      go_upto_if 32 with (first|((with_reducible refine gd 8 rfl ?_);(try (refine gate_guard (by rfl) ?_;dsimp only));refine zx #[.int .i64 0,.int .i64 0,.int .i64 0,.int .i64 0] 103 ?_;intro gb73 hg w20 BK73 hb GW73 HB1;have GE73:=GW73;have NB74_73:=zL hg BK74;have NB73_74:=zLs NB74_73;replace HO_6:=zA (Kd.R_below (zR HO_6) hb);replace BK74:=zw BK74 hb;clear HB hb hg;have HB:=HB1;clear HB1;have hnb21:=NB73_74.out;have hnc21:=NB74_73.out;have hcz22_0:=zc0 BK73;have hcz22_1:=zc1 BK73;have hcz22_2:=zc2 BK73;have hcz22_3:=zc3 BK73;have hfz22_0:=zf BK73))
      (try simp only [Act.put,zi,zs,zt]);have H:=HC19.out;clear HC19
      rcases ife H with ⟨c23b0,c23b1,H⟩|⟨c23,c23b0,c23b1,H⟩
      ·(first|rw [c23b0]|(simp only [i64_w,i32_w];rw [c23b0])|skip)
       (try rw [c23b1])
       rcases ife H with ⟨c24b0,c24b1,H⟩|⟨c24,c24b0,c24b1,H⟩
       ·rcases ife H with ⟨c25b0,c25b1,H⟩|⟨c25,c25b0,c25b1,H⟩
        ·rcases ifd H with ⟨c26b0,H⟩|⟨c26b0,H⟩
         ·obtain rfl:=Option.some.inj H;have hnb27:=NB73_74.out;have hnc27:=NB74_73.out;have hcz28_0:=zc0 BK73;have hcz28_1:=zc1 BK73;have hcz28_2:=zc2 BK73;have hcz28_3:=zc3 BK73;have hfz28_0:=zf BK73
          go_wp2
          go_ret
          exact ⟨ze,zv2 HB GE74 GE73⟩
         ·rcases if0 H with ⟨c29,H⟩|⟨c29,H⟩
          ·have c29b0:decide ((l0.length:Int)≤((rd_T103 l1_0 x25_1).f3))=true:=decide_eq_true c29;clear c29;obtain rfl:=Option.some.inj H;have hnb30:=NB73_74.out;have hnc30:=NB74_73.out;have hcz31_0:=zc0 BK73;have hcz31_1:=zc1 BK73;have hcz31_2:=zc2 BK73;have hcz31_3:=zc3 BK73;have hfz31_0:=zf BK73
           go_wp2
           go_ret
           exact ⟨ze,zv2 HB GE74 GE73⟩
          ·have c29b0:decide ((l0.length:Int)≤((rd_T103 l1_0 x25_1).f3))=false:=decide_eq_false c29;clear c29;have H':=zA H;clear H;have hnb32:=NB73_74.out;have hnc32:=NB74_73.out;have hcz33_0:=zc0 BK73;have hcz33_1:=zc1 BK73;have hcz33_2:=zc2 BK73;have hcz33_3:=zc3 BK73;have hfz33_0:=zf BK73
           go_wp2
           go_roundg k1
           case measure=>have:=HK1.out;omega
           case rel=>exact ⟨(x6_1),(wrap64 (x25_1+1)),zT,H',⟨by have:=HK1.out;omega⟩,⟨by refine zr ?_;exact Kd.R_mono (Kd.R_far (p:=⟨gb73,3,none⟩) (Kd.R_far (p:=⟨gb73,2,none⟩) (Kd.R_far (p:=⟨gb73,1,none⟩) (Kd.R_far (p:=⟨gb73,0,none⟩) (Kd.R_types HO_6.out BK73.out (by decide)) (fun _ hk=>hk.2) (.int .i64 ((rd_T103 l1_0 x25_1).f0))) (fun _ hk=>hk.2) (.int .i64 ((rd_T103 l1_0 x25_1).f1))) (fun _ hk=>hk.2) (.int .i64 ((rd_T103 l1_0 x25_1).f2))) (fun _ hk=>hk.2) (.int .i64 ((rd_T103 l1_0 x25_1).f3))) (fun _ hk=>trivial)⟩,⟨by refine zj ?_;refine blk_far ?_ NB74_73.out _;refine zj ?_;refine blk_far ?_ NB74_73.out _;refine zj ?_;refine blk_far ?_ NB74_73.out _;refine zj ?_;refine blk_far ?_ NB74_73.out _;refine zj ?_;exact BK74.out⟩,⟨zv2 HB GE74 GE73⟩⟩
        ·obtain rfl:=Option.some.inj H;have hnb34:=NB73_74.out;have hnc34:=NB74_73.out;have hcz35_0:=zc0 BK73;have hcz35_1:=zc1 BK73;have hcz35_2:=zc2 BK73;have hcz35_3:=zc3 BK73;have hfz35_0:=zf BK73
         go_wp2
         go_ret
         exact ⟨ze,zv2 HB GE74 GE73⟩
       ·obtain rfl:=Option.some.inj H;have hnb36:=NB73_74.out;have hnc36:=NB74_73.out;have hcz37_0:=zc0 BK73;have hcz37_1:=zc1 BK73;have hcz37_2:=zc2 BK73;have hcz37_3:=zc3 BK73;have hfz37_0:=zf BK73
        go_wp2
        go_ret
        exact ⟨ze,zv2 HB GE74 GE73⟩
      ·(first|rw [c23b0]|(simp only [i64_w,i32_w];rw [c23b0])|skip)
       (try rw [c23b1])
       rcases ifd H with ⟨c38b0,H⟩|⟨c38b0,H⟩
       ·obtain rfl:=Option.some.inj H;have hnb39:=NB73_74.out;have hnc39:=NB74_73.out;have hcz40_0:=zc0 BK73;have hcz40_1:=zc1 BK73;have hcz40_2:=zc2 BK73;have hcz40_3:=zc3 BK73;have hfz40_0:=zf BK73
        go_wp2
        go_ret
        exact ⟨ze,zv2 HB GE74 GE73⟩
       ·rcases if0 H with ⟨c41,H⟩|⟨c41,H⟩
        ·have c41b0:decide (24≤((rd_T103 l1_0 x25_1).f0))=true:=decide_eq_true c41;clear c41;obtain rfl:=Option.some.inj H;have hnb42:=NB73_74.out;have hnc42:=NB74_73.out;have hcz43_0:=zc0 BK73;have hcz43_1:=zc1 BK73;have hcz43_2:=zc2 BK73;have hcz43_3:=zc3 BK73;have hfz43_0:=zf BK73
         go_wp2
         go_ret
         exact ⟨ze,zv2 HB GE74 GE73⟩
        ·have c41b0:decide (24≤((rd_T103 l1_0 x25_1).f0))=false:=decide_eq_false c41;clear c41
         rcases ife H with ⟨c44b0,c44b1,H⟩|⟨c44,c44b0,c44b1,H⟩
         ·first|(replace H:=zyb (([(rd_T103 l1_0 x25_1).f1,(rd_T103 l1_0 x25_1).f2]:List Int)) H;obtain ⟨y78,Ny78,H⟩:=H)|(obtain ⟨y78,hy78⟩:=zY (([(rd_T103 l1_0 x25_1).f1,(rd_T103 l1_0 x25_1).f2]:List Int));(try rw (occs:=.pos [1]) [← hy78] at H);have Ny78:=zA hy78;clear hy78)
          have H':=zA H;clear H;have hnb45:=NB73_74.out;have hnc45:=NB74_73.out;have hcz46_0:=zc0 BK73;have hcz46_1:=zc1 BK73;have hcz46_2:=zc2 BK73;have hcz46_3:=zc3 BK73;have hfz46_0:=zf BK73
          go_wp2_with (first|((with_reducible refine gate_dst (N:=70) rfl ?_);(try (refine gate_guard (by rfl) ?_;dsimp only));refine Kd.R_lit (Kd.int .i64) _ 3 ?hg (N:=70) ?hd (xs:=([(rd_T103 l1_0 x25_1).f1,(rd_T103 l1_0 x25_1).f2]:List Int)) (inner:=[.int .i64 ((rd_T103 l1_0 x25_1).f1),.int .i64 ((rd_T103 l1_0 x25_1).f2)]) (ok:=fun _=>True) (okp:=fun _=>True) ?hr ?hp (fun _ hk=>hk) trivial (Below.refl _ _) (Nat.le_refl _) (by simp) ?_;(case hd=>rfl);(case hg=>rfl);(case hr=>first|(go_simp;done)|(go_simp;rfl));(case hp=>exact (Reps.one (show Kd.M (Kd.int .i64) _ _ _ ((rd_T103 l1_0 x25_1).f1) [.int .i64 ((rd_T103 l1_0 x25_1).f1)] from rfl) (Reps.one (show Kd.M (Kd.int .i64) _ _ _ ((rd_T103 l1_0 x25_1).f2) [.int .i64 ((rd_T103 l1_0 x25_1).f2)] from rfl) (Reps.none _ _))));intro v395 w47 ho48 hb hg_ hnew_;clear hg_ hnew_;(first|rw [← Ny78.out] at ho48|(simp only [Int.reduceToNat] at ho48;rw [← Ny78.out] at ho48));have HO396:=zA (Kd.R_lower ho48 (below_size zB));replace HO_6:=zA (Kd.R_below (by refine zr ?_;exact (Kd.R_mono (Kd.R_far (p:=⟨gb73,3,none⟩) (Kd.R_far (p:=⟨gb73,2,none⟩) (Kd.R_far (p:=⟨gb73,1,none⟩) (Kd.R_far (p:=⟨gb73,0,none⟩) (Kd.R_types HO_6.out BK73.out (by decide)) (fun _ hk=>hk.2) (.int .i64 ((rd_T103 l1_0 x25_1).f0))) (fun _ hk=>hk.2) (.int .i64 ((rd_T103 l1_0 x25_1).f1))) (fun _ hk=>hk.2) (.int .i64 ((rd_T103 l1_0 x25_1).f2))) (fun _ hk=>hk.2) (.int .i64 ((rd_T103 l1_0 x25_1).f3))) (fun _ h_=>h_.1))) hb);replace BK74:=zA (blk_below (g:=gb74) (o:=.cells #[.slice (some ad79) l1_0.length c1_0] 40 (0,0)) (by refine zj ?_;refine blk_far ?_ NB74_73.out _;refine zj ?_;refine blk_far ?_ NB74_73.out _;refine zj ?_;refine blk_far ?_ NB74_73.out _;refine zj ?_;refine blk_far ?_ NB74_73.out _;refine zj ?_;exact BK74.out) hb);replace BK73:=zA (blk_below (g:=gb73) (o:=.cells #[.int .i64 ((rd_T103 l1_0 x25_1).f0),.int .i64 ((rd_T103 l1_0 x25_1).f1),.int .i64 ((rd_T103 l1_0 x25_1).f2),.int .i64 ((rd_T103 l1_0 x25_1).f3)] 103 (0,0)) (by refine zj ?_;refine blk_put (cs:=#[.int .i64 ((rd_T103 l1_0 x25_1).f0),.int .i64 ((rd_T103 l1_0 x25_1).f1),.int .i64 ((rd_T103 l1_0 x25_1).f2),.int .i64 0]) ?_ 3 _ rfl;refine zj ?_;refine blk_put (cs:=#[.int .i64 ((rd_T103 l1_0 x25_1).f0),.int .i64 ((rd_T103 l1_0 x25_1).f1),.int .i64 0,.int .i64 0]) ?_ 2 _ rfl;refine zj ?_;refine blk_put (cs:=#[.int .i64 ((rd_T103 l1_0 x25_1).f0),.int .i64 0,.int .i64 0,.int .i64 0]) ?_ 1 _ rfl;refine zj ?_;refine blk_put (cs:=#[.int .i64 0,.int .i64 0,.int .i64 0,.int .i64 0]) ?_ 0 _ rfl;refine zj ?_;exact BK73.out) hb);replace HB:=zu hb;clear hb ho48;obtain ⟨Ao49,co49,eo49⟩:=Kd.R_slice HO396.out;subst eo49))
          go_loopg [72] k1 (fun kq v72 w'=>∃ (x6_2:List Bool) (x72_2:Int),v72=.int .i64 x72_2∧Aside0 (solve_shape.l1 kq l0 (l1_0.length:Int) x6_2 x25_1 l1_0 (l1_0.length:Int) x25_1 y78 (y78.length:Int) x72_2=some r)∧Aside0 (kq≤k1)∧Aside0 (Kd.R Kd.bool 4 w' w.heap.size (fun _=>True) v390 x6_2)∧Aside0 (Kd.R (Kd.int .i64) 3 w' w.heap.size (fun _=>True) (.slice Ao49 y78.length co49) y78)∧Aside0 (w'.heap[gb74]?=some (.cells #[(.slice (some ad79) l1_0.length c1_0)] 40 (0,0)))∧Aside0 (w'.heap[gb73]?=some (.cells #[.int .i64 ((rd_T103 l1_0 x25_1).f0),.int .i64 ((rd_T103 l1_0 x25_1).f1),.int .i64 ((rd_T103 l1_0 x25_1).f2),.int .i64 ((rd_T103 l1_0 x25_1).f3)] 103 (0,0)))∧Aside0 (Below w.heap.size w w'))
          case atStart=>exact ⟨(x6_1),(0),zT,H',⟨Nat.le_refl _⟩,⟨by refine zr ?_;exact HO_6.out⟩,⟨by refine zr ?_;exact HO396.out⟩,⟨by refine zj ?_;exact BK74.out⟩,⟨by refine zj ?_;exact BK73.out⟩,⟨zv2 HB GE74 GE73⟩⟩
          case round=>
           clear H'
           try clear c5
           try clear c5b0
           try clear c5b1
           try clear c5b2
           try clear c7
           try clear c7b0
           try clear c7b1
           try clear c9
           try clear c9b0
           try clear c9b1
           try clear c10
           try clear c10b0
           try clear c10b1
           try clear c16
           try clear c16b0
           try clear c17
           try clear c17b0
           try clear c18
           try clear c18b0
           try clear c23
           try clear c23b0
           try clear c23b1
           try clear c38
           try clear c38b0
           try clear c41
           try clear c41b0
           try clear c44
           try clear c44b0
           try clear c44b1
           try clear hcz12_0
           try clear hcz15_0
           try clear hcz22_0
           try clear hcz22_1
           try clear hcz22_2
           try clear hcz22_3
           try clear hcz46_0
           try clear hcz46_1
           try clear hcz46_2
           try clear hcz46_3
           try clear hfz12_0
           try clear hfz15_0
           try clear hfz22_0
           try clear hfz22_1
           try clear hfz22_2
           try clear hfz22_3
           try clear hfz46_0
           try clear hfz46_1
           try clear hfz46_2
           try clear hfz46_3
           try clear hx79_0
           try clear hx79_1
           try clear hx79_2
           try clear hx79_3
           try clear p79
           try clear q79
           obtain ⟨x6_2,x72_2,rfl,HA,HK2,HO_6,HO_70,BK74,BK73,HB⟩:=hrel
           cases gk with
           | zero=>exact absurd HA.out (by simp [solve_shape.l1])
           | succ k2=>
            have H:=HA.out;clear HA;simp only [solve_shape.l1] at H
            rcases ifd H with ⟨c50b0,H⟩|⟨c50b0,H⟩
            ·obtain ⟨c51b0,H⟩:=ifd1 H;obtain ⟨c52b0,H⟩:=ifd1 H
             rcases ifd H with ⟨c53b0,H⟩|⟨c53b0,H⟩
             ·obtain rfl:=Option.some.inj H;obtain ⟨p75,q75,ad75,e75,hx75_0⟩:=zp (Kd.at_int (Kd.R_reads' HO_70.out).2.2 x72_2)
              cases e75
              replace p75:=eq_true p75;replace q75:=eq_true q75
              go_wp2
              go_ret
              exact ⟨ze,zv2 HB GE74 GE73⟩
             ·rcases if0 H with ⟨c54,H⟩|⟨c54,H⟩
              ·have c54b0:decide ((l1_0.length:Int)≤(rd y78 x72_2))=true:=decide_eq_true c54;clear c54;obtain rfl:=Option.some.inj H;obtain ⟨p75,q75,ad75,e75,hx75_0⟩:=zp (Kd.at_int (Kd.R_reads' HO_70.out).2.2 x72_2)
               cases e75
               replace p75:=eq_true p75;replace q75:=eq_true q75
               go_wp2
               go_ret
               exact ⟨ze,zv2 HB GE74 GE73⟩
              ·have c54b0:decide ((l1_0.length:Int)≤(rd y78 x72_2))=false:=decide_eq_false c54;clear c54;obtain ⟨c55b0,H⟩:=ifd1 H;obtain ⟨c56b0,H⟩:=ifd1 H
               obtain ⟨bq57,hbq57⟩:∃ b_:Bool,b_=(rdOf false x6_2 (rd y78 x72_2)):=⟨_,rfl⟩
               replace H:(if bq57=true then (some false) else (solve_shape.l1 k2 l0 (l1_0.length:Int) (x6_2.set ((rd y78 x72_2):Int).toNat true) x25_1 l1_0 (l1_0.length:Int) x25_1 y78 (y78.length:Int) (wrap64 (x72_2+1))))=some r:=by rw [← hbq57] at H;exact H
               have Nbq57:=zA hbq57;clear hbq57
               by_cases c58:bq57=true
               ·subst c58
                have H1:(some false)=some r:=by rw [if_pos rfl] at H;exact H
                clear H;have H:=H1;clear H1;obtain rfl:=Option.some.inj H;obtain ⟨p75,q75,ad75,e75,hx75_0⟩:=zp (Kd.at_int (Kd.R_reads' HO_70.out).2.2 x72_2)
                cases e75
                replace p75:=eq_true p75;replace q75:=eq_true q75;obtain ⟨Ao59,co59,eo59⟩:=Kd.R_slice HO_6.out;subst eo59;obtain ⟨p82,q82,ad82,e82,hx82_0⟩:=zp (Kd.at_bool (Kd.R_reads' HO_6.out).2.2 (rd y78 x72_2));(try rw [← Nbq57.out] at hx82_0)
                cases e82
                replace p82:=eq_true p82;replace q82:=eq_true q82
                go_wp2
                go_ret
                exact ⟨ze,zv2 HB GE74 GE73⟩
               ·replace c58:=Bool.eq_false_iff.mpr c58;subst c58
                have H1:(solve_shape.l1 k2 l0 (l1_0.length:Int) (x6_2.set ((rd y78 x72_2):Int).toNat true) x25_1 l1_0 (l1_0.length:Int) x25_1 y78 (y78.length:Int) (wrap64 (x72_2+1)))=some r:=by rw [if_neg (show ¬ (false=true) by decide)] at H;exact H
                clear H;have H:=H1;clear H1
                first|(replace H:=zyb (x6_2.set ((rd y78 x72_2):Int).toNat true) H;obtain ⟨y92,Ny92,H⟩:=H)|(obtain ⟨y92,hy92⟩:=zY (x6_2.set ((rd y78 x72_2):Int).toNat true);(try rw (occs:=.pos [1]) [← hy92] at H);have Ny92:=zA hy92;clear hy92)
                have H':=zA H;clear H;obtain ⟨p75,q75,ad75,e75,hx75_0⟩:=zp (Kd.at_int (Kd.R_reads' HO_70.out).2.2 x72_2)
                cases e75
                replace p75:=eq_true p75;replace q75:=eq_true q75;obtain ⟨Ao61,co61,eo61⟩:=Kd.R_slice HO_6.out;subst eo61;obtain ⟨p82,q82,ad82,e82,hx82_0⟩:=zp (Kd.at_bool (Kd.R_reads' HO_6.out).2.2 (rd y78 x72_2));(try rw [← Nbq57.out] at hx82_0)
                cases e82
                replace p82:=eq_true p82;replace q82:=eq_true q82;have p60:0≤((rd y78 x72_2):Int):=of_decide_eq_true zh;have q60:((rd y78 x72_2):Int)<((x6_2.length:Int):Int):=of_decide_eq_true zh;obtain ⟨go60,co60,eo60,gb60,gl60,cl60,HG60⟩:=Kd.R_form HO_6.out (by omega)
                (first|cases eo60|(injection eo60 with ea_ en_ ec_;(first|subst ea_|(injection ea_ with ea_;subst ea_));subst ec_;clear en_))
                have GB60:=zA gb60;have GG60:=zA HG60;clear gb60 gl60 HG60
                (first|simp only [add_plain] at hx82_0|skip)
                obtain ⟨hx60_0,hf60_0⟩:=Kd.R_celln false HO_6.out ((rd y78 x72_2):Int) p60 q60;replace p60:=eq_true p60;replace q60:=eq_true q60;have HP62:=Kd.R_putg HO_6.out ((rd y78 x72_2):Int) true
                go_wp2_with (first|((with_reducible refine gate_store (t:=4) (p:=92) rfl ?_);refine store_event (t:=4) (p:=92) (v:=?vo_w63) (w1:=(wr.setCell ⟨go60,((rd y78 x72_2):Int).toNat,none⟩ (.bool true))) ?hg ?ho ?hn ?hr ?_;(case ho=>rfl);(case hg=>rfl);(case hn=>rfl);(case hr=>first|(go_simp;done)|(go_simp;rfl));intro w63 hw;have hg:wr.grownBy w63 (some go60):=(by rw [hw];exact HP62.2);have hp_:Kd.R Kd.bool 4 w63 w.heap.size (fun _=>True) (.slice (some ⟨go60,0,none⟩) x6_2.length co61) y92:=(by rw [hw,Ny92.out];exact HP62.1);clear HP62;replace HO_70:=zA (Kd.R_over' (v:=(.slice (some ⟨go60,0,none⟩) x6_2.length co61)) (zR HO_70) (Kd.R_typed HO_6.out) (by decide) hg);replace BK74:=zA (blk_grown (g:=gb74) (o:=.cells #[.slice (some ad79) l1_0.length c1_0] 40 (0,0)) (zk BK74) hg (Kd.R_ne HO_6.out BK74.out (by decide)));replace BK73:=zA (blk_grown (g:=gb73) (o:=.cells #[.int .i64 ((rd_T103 l1_0 x25_1).f0),.int .i64 ((rd_T103 l1_0 x25_1).f1),.int .i64 ((rd_T103 l1_0 x25_1).f2),.int .i64 ((rd_T103 l1_0 x25_1).f3)] 103 (0,0)) (zk BK73) hg (Kd.R_ne HO_6.out BK73.out (by decide)));replace HO_6:=zA (hp_);replace HB:=zA ((by rw [hw];exact below_set (HB.out) GB60.out:Below w.heap.size w w63));clear hg hw hp_))
                go_roundg k2
                case measure=>have:=HK1.out;have:=HK2.out;omega
                case rel=>exact ⟨(y92),(wrap64 (x72_2+1)),zT,H',⟨by have:=HK1.out;have:=HK2.out;omega⟩,⟨by refine zr ?_;exact HO_6.out⟩,⟨by refine zr ?_;exact HO_70.out⟩,⟨by refine zj ?_;exact BK74.out⟩,⟨by refine zj ?_;exact BK73.out⟩,⟨zv2 HB GE74 GE73⟩⟩
            ·have H':=zA H;clear H
             go_wp2
             go_roundg k2
             case measure=>have:=HK1.out;have:=HK2.out;omega
             case rel=>exact ⟨(x6_2),(wrap64 (x25_1+1)),zT,H',⟨by have:=HK1.out;have:=HK2.out;omega⟩,⟨by refine zr ?_;exact HO_6.out⟩,⟨by refine zj ?_;exact BK74.out⟩,⟨zv2 HB GE74 GE73⟩⟩
         ·obtain rfl:=Option.some.inj H;have hnb64:=NB73_74.out;have hnc64:=NB74_73.out;have hcz65_0:=zc0 BK73;have hcz65_1:=zc1 BK73;have hcz65_2:=zc2 BK73;have hcz65_3:=zc3 BK73;have hfz65_0:=zf BK73
          go_wp2
          go_ret
          exact ⟨ze,zv2 HB GE74 GE73⟩
     ·(first|rw [c16b0]|(simp only [i64_w,i32_w];rw [c16b0])|skip)
      obtain ⟨c66,H⟩:=if1 H;have c66b0:=eq_true c66;have c66b1:decide (1≤(x6_1.length:Int))=true:=decide_eq_true c66;clear c66
      first|(replace H:=zyb (x6_1.drop 1) H;obtain ⟨y89,Ny89,H⟩:=H)|(obtain ⟨y89,hy89⟩:=zY (x6_1.drop 1);(try rw (occs:=.pos [1]) [← hy89] at H);have Ny89:=zA hy89;clear hy89)
      obtain ⟨t404,A67,H⟩:=zo H;obtain rfl:=Option.some.inj H;obtain ⟨Ao69,co69,eo69⟩:=Kd.R_slice HO_6.out;subst eo69;have q68:(1:Int)≤((x6_1.length:Int):Int):=of_decide_eq_true zh;obtain ⟨i068,hi068,_,hsz68,_⟩:=info_parts info4;have hroom68:x6_1.length≤co69:=(Kd.R_reads' HO_6.out).2.1;have hC68:Kd.C Kd.bool _ Ao69 x6_1.length x6_1:=(Kd.R_reads' HO_6.out).2.2;have hcut68:=cut_from (P:=Tryz.prog) 87 4 .i64 Tryz.underlying87 hi068 1 hsz68 Ao69 x6_1.length co69 1 (by omega) q68;have hr68:=Kd.C_drop (m:=(1:Int).toNat) (c:=co69) hC68 (by omega) hroom68
      obtain ⟨A68,hA68⟩:∃ A1,A1=(if co69=(1:Int).toNat then Ao69 else (Ao69:Option Addr).map (·.add ((1:Int).toNat * 1))):=⟨_,rfl⟩
      obtain ⟨c68,hc68⟩:∃ c1,c1=co69 - (1:Int).toNat:=⟨_,rfl⟩
      have hy68:y89.length=x6_1.length - (1:Int).toNat:=(by rw [Ny89.out,List.length_drop] <;> omega)
      rw [show (x6_1).drop (1:Int).toNat=y89 from Ny89.out.symm] at hr68
      replace hr68:Kd.C Kd.bool _ A68 y89.length y89:=(by rw [hA68];exact hr68)
      rw [← hy68,← hA68,← hc68] at hcut68;have HR403:=zA hr68;have HC403:=zA (show y89.length≤c68 from by rw [hy68,hc68];exact Nat.sub_le_sub_right hroom68 _);clear hr68 hC68 hroom68 hi068 hsz68 hc68;have KY68:=zA hy68;have KA68:=zA hA68;clear hy68 hA68;have KL68:=zA (show 1≤x6_1.length from by omega);replace q68:=eq_true q68
      go_wp2_with (first|((with_reducible refine gate_callee (f:=124) rfl ?_);refine zgo 97 Tryz.func124 #[.slice A68 y89.length c68,.bool false] ?_;(with_reducible refine (slices_Contains_bool_bool.calls k1 _ _ y89 false t404 _ ?side1 HC403.out A67.out).mono ?_);(case side1=>repeat (first|exact (by repeat (first|(with_reducible exact HR403.out)|(with_reducible refine Kd.C_alloc ?_ _)|(with_reducible refine Kd.C_drewN ?_ _)|(with_reducible refine Kd.C_drew ?_)|exact HR403.out))|(with_reducible refine Kd.C_alloc ?_ _)|(with_reducible refine Kd.C_drewN ?_ _)|(with_reducible refine Kd.C_drew ?_)));rintro e w' ⟨rfl,⟨nd,rfl⟩⟩;refine ⟨_,rfl,?_⟩))
      go_ret
      exact ⟨ze,zv1 HB GE74⟩
end Go.Proofs.YtngpkbbljnbojaaGreat.L
