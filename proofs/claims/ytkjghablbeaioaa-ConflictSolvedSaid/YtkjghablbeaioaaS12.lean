import Derived.Test.YtkjghablbeaioaaS0
import Derived.Test.YtkjghablbeaioaaS1
import Derived.Test.YtkjghablbeaioaaS4
import Derived.Test.YtkjghablbeaioaaS5
import Derived.Test.YtkjghablbeaioaaS8
import Derived.Test.YtkjghablbeaioaaS9
import Derived.Test.YtkjghablbeaioaaS10
import Derived.Test.YtkjghablbeaioaaS11
namespace Go.Proofs.Ytkjghablbeaioaa.S
open Go.RowKit Go.Proofs.YtkjghablbeaioaaW.PrintWords Go.Proofs.YtkjghablbeaioaaW.PrintLast Go.Proofs.YtkjghablbeaioaaW.PrintMore
attribute [local go_sem] max2_int min2_int max_two min_two max_three min_three max_four min_four
set_option linter.unusedVariables false
set_option linter.unusedSimpArgs false
mutual
def ancepslaw42_ConflictSolved.l0:Nat→List (S50)→List (List Int)→Int→Int→Option (Bool)
 | 0,_,_,_,_=>none
 | k+1,x3,x60,x61,x62=>if x62<x61 then (if 0≤x62 then (if x62<(x60.length:Int) then (ancepslaw42_ConflictSolved.l1 k x3 (rd_L1 x60 x62) ([]:List (S50)) x60 x61 x62 (x3.length:Int) 0) else (none)) else (none)) else (some true)
def ancepslaw42_ConflictSolved.l1:Nat→List (S50)→List Int→List (S50)→List (List Int)→Int→Int→Int→Int→Option (Bool)
 | 0,_,_,_,_,_,_,_,_=>none
 | k+1,x3,x11,x12,x60,x61,x62,x67,x68=>if x68<x67 then ((slices_Contains_int_int.f k x11 x68).bind fun t570=>(if t570=true then (ancepslaw42_ConflictSolved.l1 k x3 x11 x12 x60 x61 x62 x67 (wrap64 (x68+1))) else (if 0≤x68 then (if x68<(x3.length:Int) then (if x12.length<2932031007402 then (ancepslaw42_ConflictSolved.l1 k x3 x11 (x12++[(⟨(rd_T50 x3 x68).f0,(rd_T50 x3 x68).f1⟩:S50)]) x60 x61 x62 x67 (wrap64 (x68+1))) else (none)) else (none)) else (none)))) else ((solve_First.f k x12).bind fun bt575=>(if bt575.2=0 then (ancepslaw42_ConflictSolved.l0 k x3 x60 x61 (wrap64 (x62+1))) else (none)))
end
def ancepslaw42_ConflictSolved.f (k:Nat) (l0:List (S54)):Option (Bool):=(ancepsref40_Made.f k l0).bind fun t553=>((ancepslaw42_awake.f k).bind fun t556=>(if t556=true then ((ancepsref42_Few.f k t553).bind fun t557=>(if t557=true then ((ancepsref42_Valid.f k t553).bind fun t558=>(if t558=0 then ((solve_First.f k t553).bind fun bt559=>((conflict_Cores.f k t553).bind fun bt561=>((conflict_Repairs.f k t553).bind fun bt565=>(if bt561.2=0 then (if bt565.2=0 then (if ((bt559.2 == 0) != ((bt561.1.length:Int) == 0))=true then (none) else (ancepslaw42_ConflictSolved.l0 k t553 bt565.1 (bt565.1.length:Int) 0)) else (none)) else (none))))) else ((ancepslaw42_awake.f k).bind fun t577=>(some t577)))) else ((ancepslaw42_awake.f k).bind fun t578=>(some t578)))) else ((ancepslaw42_awake.f k).bind fun t579=>(some t579))))
theorem ancepslaw42_ConflictSolved.mono_l:∀ k,(∀ y0 y1 y2 y3,LeO (ancepslaw42_ConflictSolved.l0 k y0 y1 y2 y3) (ancepslaw42_ConflictSolved.l0 (k+1) y0 y1 y2 y3))∧(∀ y0 y1 y2 y3 y4 y5 y6 y7,LeO (ancepslaw42_ConflictSolved.l1 k y0 y1 y2 y3 y4 y5 y6 y7) (ancepslaw42_ConflictSolved.l1 (k+1) y0 y1 y2 y3 y4 y5 y6 y7))
 | 0=>⟨fun _ _ _ _ r h=>by simp [ancepslaw42_ConflictSolved.l0] at h,fun _ _ _ _ _ _ _ _ r h=>by simp [ancepslaw42_ConflictSolved.l1] at h⟩
 | k+1=>by
  obtain ⟨ih0,ih1⟩:=ancepslaw42_ConflictSolved.mono_l k
  refine ⟨?_,?_⟩
  ·intro y0 y1 y2 y3
   unfold ancepslaw42_ConflictSolved.l0
   repeat' first
   | (with_reducible exact ih0 _ _ _ _)
   | (with_reducible exact ih1 _ _ _ _ _ _ _ _)
   | (with_reducible exact ancepslaw42_awake.mono _)
   | (with_reducible exact ancepsref40_Made.mono _ _)
   | (with_reducible exact ancepsref42_Few.mono _ _)
   | (with_reducible exact ancepsref42_Valid.mono _ _)
   | (with_reducible exact conflict_Cores.mono _ _)
   | (with_reducible exact conflict_Repairs.mono _ _)
   | (with_reducible exact slices_Contains_int_int.mono _ _ _)
   | (with_reducible exact solve_First.mono _ _)
   | (with_reducible exact LeO.refl _)
   | (with_reducible exact LeO.none _)
   | (with_reducible refine LeO.ite ?_ ?_)
   | (with_reducible refine LeO.bind ?_ (fun _=>?_))
   | exact LeO.none _
   | refine LeO.ite ?_ ?_
   | refine LeO.bind ?_ (fun _=>?_)
  ·intro y0 y1 y2 y3 y4 y5 y6 y7
   unfold ancepslaw42_ConflictSolved.l1
   repeat' first
   | (with_reducible exact ih0 _ _ _ _)
   | (with_reducible exact ih1 _ _ _ _ _ _ _ _)
   | (with_reducible exact ancepslaw42_awake.mono _)
   | (with_reducible exact ancepsref40_Made.mono _ _)
   | (with_reducible exact ancepsref42_Few.mono _ _)
   | (with_reducible exact ancepsref42_Valid.mono _ _)
   | (with_reducible exact conflict_Cores.mono _ _)
   | (with_reducible exact conflict_Repairs.mono _ _)
   | (with_reducible exact slices_Contains_int_int.mono _ _ _)
   | (with_reducible exact solve_First.mono _ _)
   | (with_reducible exact LeO.refl _)
   | (with_reducible exact LeO.none _)
   | (with_reducible refine LeO.ite ?_ ?_)
   | (with_reducible refine LeO.bind ?_ (fun _=>?_))
   | exact LeO.none _
   | refine LeO.ite ?_ ?_
   | refine LeO.bind ?_ (fun _=>?_)
theorem ancepslaw42_ConflictSolved.mono:∀ a0 k,LeO (ancepslaw42_ConflictSolved.f k a0) (ancepslaw42_ConflictSolved.f (k+1) a0):=by
 intro a0 k
 obtain ⟨ih0,ih1⟩:=ancepslaw42_ConflictSolved.mono_l k
 unfold ancepslaw42_ConflictSolved.f
 repeat' first
   | (with_reducible exact ih0 _ _ _ _)
   | (with_reducible exact ih1 _ _ _ _ _ _ _ _)
   | (with_reducible exact ancepslaw42_awake.mono _)
   | (with_reducible exact ancepsref40_Made.mono _ _)
   | (with_reducible exact ancepsref42_Few.mono _ _)
   | (with_reducible exact ancepsref42_Valid.mono _ _)
   | (with_reducible exact conflict_Cores.mono _ _)
   | (with_reducible exact conflict_Repairs.mono _ _)
   | (with_reducible exact slices_Contains_int_int.mono _ _ _)
   | (with_reducible exact solve_First.mono _ _)
   | (with_reducible exact LeO.refl _)
   | (with_reducible exact LeO.none _)
   | (with_reducible refine LeO.ite ?_ ?_)
   | (with_reducible refine LeO.bind ?_ (fun _=>?_))
   | exact LeO.none _
   | refine LeO.ite ?_ ?_
   | refine LeO.bind ?_ (fun _=>?_)
set_option maxHeartbeats 8000000 in
set_option maxRecDepth 100000 in
theorem ancepslaw42_ConflictSolved.calls (k:Nat) (A0:Option Addr) (c0:Nat) (l0:List (S54)) (r:Bool) (w:World) (hr0:Kd.C k54 w A0 l0.length l0) (hc0:l0.length≤c0) (h:ancepslaw42_ConflictSolved.f k l0=some r) :
  Calls Try.prog 6 #[.slice A0 l0.length c0] w fun e w'=>e=.returned (.bool r)∧Below w.heap.size w w':=by
 have hu30:=Try.underlying30
 have hu50:=Try.underlying50
 have HR0:=zA hr0
 have HC0:=zA hc0
 clear hr0 hc0
 have HB:=zA (Below.refl w.heap.size w)
 have H:((ancepsref40_Made.f k l0).bind fun t553=>((ancepslaw42_awake.f k).bind fun t556=>(if t556=true then ((ancepsref42_Few.f k t553).bind fun t557=>(if t557=true then ((ancepsref42_Valid.f k t553).bind fun t558=>(if t558=0 then ((solve_First.f k t553).bind fun bt559=>((conflict_Cores.f k t553).bind fun bt561=>((conflict_Repairs.f k t553).bind fun bt565=>(if bt561.2=0 then (if bt565.2=0 then (if ((bt559.2 == 0) != ((bt561.1.length:Int) == 0))=true then (none) else (ancepslaw42_ConflictSolved.l0 k t553 bt565.1 (bt565.1.length:Int) 0)) else (none)) else (none))))) else ((ancepslaw42_awake.f k).bind fun t577=>(some t577)))) else ((ancepslaw42_awake.f k).bind fun t578=>(some t578)))) else ((ancepslaw42_awake.f k).bind fun t579=>(some t579)))))=some r:=h
 clear h
 replace H:=Option.bind_eq_some_iff.mp H
 obtain ⟨t553,A20,H⟩:=H
 replace H:((ancepslaw42_awake.f k).bind fun t556=>(if t556=true then ((ancepsref42_Few.f k t553).bind fun t557=>(if t557=true then ((ancepsref42_Valid.f k t553).bind fun t558=>(if t558=0 then ((solve_First.f k t553).bind fun bt559=>((conflict_Cores.f k t553).bind fun bt561=>((conflict_Repairs.f k t553).bind fun bt565=>(if bt561.2=0 then (if bt565.2=0 then (if ((bt559.2 == 0) != ((bt561.1.length:Int) == 0))=true then (none) else (ancepslaw42_ConflictSolved.l0 k t553 bt565.1 (bt565.1.length:Int) 0)) else (none)) else (none))))) else ((ancepslaw42_awake.f k).bind fun t577=>(some t577)))) else ((ancepslaw42_awake.f k).bind fun t578=>(some t578)))) else ((ancepslaw42_awake.f k).bind fun t579=>(some t579))))=some r:=H
 have A2:=zA A20
 clear A20
 have HC3:=zA H
 clear H
 go_enter Try.func6,Try.ntmps6
 go_upto_region 2 with (first|((with_reducible refine gate_callee (f:=25) rfl ?_);refine goesL_ (some 17) rfl rfl Try.func25 zK rfl #[.slice A0 l0.length c0] rfl zM ?_;(with_reducible refine (ancepsref40_Made.calls k _ _ l0 t553 _ ?side1 ?side2 A2.out).mono ?_);(case side1=>repeat (first|exact HR0.out|(with_reducible refine Kd.C_alloc ?_ _)|(with_reducible refine Kd.C_drewN ?_ _)|(with_reducible refine Kd.C_drew ?_)));(case side2=>exact HC0.out);rintro e w4 ⟨v554,rfl,ho0,hb⟩;refine ⟨_,rfl,?_⟩;have HO555:=zA (Kd.N_lower (Kd.N_mono (ok':=fun k_=>True) (Kd.S_N (Kd.S_bound ho0)) (fun k_ hk_=>trivial)) (below_size zB));replace HB:=zA (below_step zB hb);(try clear hb);(try clear hb2);(try clear hk);(try clear hi);(try clear ho0)))
 (try simp only [Act.put,zi,zs,zt])
 have H:=HC3.out
 clear HC3
 replace H:=Option.bind_eq_some_iff.mp H
 obtain ⟨t556,A50,H⟩:=H
 replace H:(if t556=true then ((ancepsref42_Few.f k t553).bind fun t557=>(if t557=true then ((ancepsref42_Valid.f k t553).bind fun t558=>(if t558=0 then ((solve_First.f k t553).bind fun bt559=>((conflict_Cores.f k t553).bind fun bt561=>((conflict_Repairs.f k t553).bind fun bt565=>(if bt561.2=0 then (if bt565.2=0 then (if ((bt559.2 == 0) != ((bt561.1.length:Int) == 0))=true then (none) else (ancepslaw42_ConflictSolved.l0 k t553 bt565.1 (bt565.1.length:Int) 0)) else (none)) else (none))))) else ((ancepslaw42_awake.f k).bind fun t577=>(some t577)))) else ((ancepslaw42_awake.f k).bind fun t578=>(some t578)))) else ((ancepslaw42_awake.f k).bind fun t579=>(some t579)))=some r:=H
 have A5:=zA A50
 clear A50
 by_cases c6:t556=true
 ·subst c6
  have H1:((ancepsref42_Few.f k t553).bind fun t557=>(if t557=true then ((ancepsref42_Valid.f k t553).bind fun t558=>(if t558=0 then ((solve_First.f k t553).bind fun bt559=>((conflict_Cores.f k t553).bind fun bt561=>((conflict_Repairs.f k t553).bind fun bt565=>(if bt561.2=0 then (if bt565.2=0 then (if ((bt559.2 == 0) != ((bt561.1.length:Int) == 0))=true then (none) else (ancepslaw42_ConflictSolved.l0 k t553 bt565.1 (bt565.1.length:Int) 0)) else (none)) else (none))))) else ((ancepslaw42_awake.f k).bind fun t577=>(some t577)))) else ((ancepslaw42_awake.f k).bind fun t578=>(some t578))))=some r:=by rw [if_pos rfl] at H;exact H
  clear H
  have H:=H1
  clear H1
  replace H:=Option.bind_eq_some_iff.mp H
  obtain ⟨t557,A70,H⟩:=H
  replace H:(if t557=true then ((ancepsref42_Valid.f k t553).bind fun t558=>(if t558=0 then ((solve_First.f k t553).bind fun bt559=>((conflict_Cores.f k t553).bind fun bt561=>((conflict_Repairs.f k t553).bind fun bt565=>(if bt561.2=0 then (if bt565.2=0 then (if ((bt559.2 == 0) != ((bt561.1.length:Int) == 0))=true then (none) else (ancepslaw42_ConflictSolved.l0 k t553 bt565.1 (bt565.1.length:Int) 0)) else (none)) else (none))))) else ((ancepslaw42_awake.f k).bind fun t577=>(some t577)))) else ((ancepslaw42_awake.f k).bind fun t578=>(some t578)))=some r:=H
  have A7:=zA A70
  clear A70
  by_cases c8:t557=true
  ·subst c8
   have H1:((ancepsref42_Valid.f k t553).bind fun t558=>(if t558=0 then ((solve_First.f k t553).bind fun bt559=>((conflict_Cores.f k t553).bind fun bt561=>((conflict_Repairs.f k t553).bind fun bt565=>(if bt561.2=0 then (if bt565.2=0 then (if ((bt559.2 == 0) != ((bt561.1.length:Int) == 0))=true then (none) else (ancepslaw42_ConflictSolved.l0 k t553 bt565.1 (bt565.1.length:Int) 0)) else (none)) else (none))))) else ((ancepslaw42_awake.f k).bind fun t577=>(some t577))))=some r:=by rw [if_pos rfl] at H;exact H
   clear H
   have H:=H1
   clear H1
   replace H:=Option.bind_eq_some_iff.mp H
   obtain ⟨t558,A90,H⟩:=H
   replace H:(if t558=0 then ((solve_First.f k t553).bind fun bt559=>((conflict_Cores.f k t553).bind fun bt561=>((conflict_Repairs.f k t553).bind fun bt565=>(if bt561.2=0 then (if bt565.2=0 then (if ((bt559.2 == 0) != ((bt561.1.length:Int) == 0))=true then (none) else (ancepslaw42_ConflictSolved.l0 k t553 bt565.1 (bt565.1.length:Int) 0)) else (none)) else (none))))) else ((ancepslaw42_awake.f k).bind fun t577=>(some t577)))=some r:=H
   have A9:=zA A90
   clear A90
   have HC10:=zA H
   clear H
   go_upto_if 29 with (first|((with_reducible refine gate_callee (f:=9) rfl ?_);refine goesL_ (some 18) rfl rfl Try.func9 zK rfl #[] rfl zM ?_;(with_reducible refine (ancepslaw42_awake.calls k  true _ A5.out).mono ?_);rintro e w11 ⟨rfl,hb⟩;refine ⟨_,rfl,?_⟩;replace HO555:=zA (Kd.N_below (zN HO555) hb);replace HB:=zA (below_step zB hb);(try clear hb);(try clear hb2);(try clear hk);(try clear hi);obtain ⟨Ao12,co12,eo12⟩:=Kd.N_slice HO555.out;subst eo12)|(go_at_call 10;(with_reducible refine (ancepsref42_Few.calls k _ _ t553 true _ ?side1 ?side2 A7.out).mono ?_);(case side1=>exact zC (Kd.N_reads' HO555.out).2.2);(case side2=>exact (Kd.N_reads' HO555.out).2.1);rintro e w13 ⟨rfl,hb⟩;replace HO555:=zA (Kd.N_below (zN HO555) hb);replace HB:=zA (below_step zB hb);(try clear hb);(try clear hb2);(try clear hk);(try clear hi))|(go_at_call 26;(with_reducible refine (ancepsref42_Valid.calls k _ _ t553 t558 _ ?side1 ?side2 A9.out).mono ?_);(case side1=>exact zC (Kd.N_reads' HO555.out).2.2);(case side2=>exact (Kd.N_reads' HO555.out).2.1);rintro e w14 ⟨rfl,hb⟩;replace HO555:=zA (Kd.N_below (zN HO555) hb);replace HB:=zA (below_step zB hb);(try clear hb);(try clear hb2);(try clear hk);(try clear hi)))
   (try simp only [Act.put,zi,zs,zt])
   have H:=HC10.out
   clear HC10
   by_cases c15:t558=0
   ·rw [if_pos c15] at H
    have c15b0:(t558 == 0)=true:=beq_iff_eq.mpr c15
    have c15b1:(t558 != 0)=false:=bne_eq_false_iff_eq.mpr c15
    clear c15
    (first|rw [c15b0]|(simp only [i64_w,i32_w];rw [c15b0])|skip)
    (try rw [c15b1])
    replace H:=Option.bind_eq_some_iff.mp H
    obtain ⟨⟨t559,t560⟩,A160,H⟩:=H
    replace H:((conflict_Cores.f k t553).bind fun bt561=>((conflict_Repairs.f k t553).bind fun bt565=>(if bt561.2=0 then (if bt565.2=0 then (if ((t560 == 0) != ((bt561.1.length:Int) == 0))=true then (none) else (ancepslaw42_ConflictSolved.l0 k t553 bt565.1 (bt565.1.length:Int) 0)) else (none)) else (none))))=some r:=H
    have A16:=zA A160
    clear A160
    replace H:=Option.bind_eq_some_iff.mp H
    obtain ⟨⟨t561,t564⟩,A170,H⟩:=H
    replace H:((conflict_Repairs.f k t553).bind fun bt565=>(if t564=0 then (if bt565.2=0 then (if ((t560 == 0) != ((t561.length:Int) == 0))=true then (none) else (ancepslaw42_ConflictSolved.l0 k t553 bt565.1 (bt565.1.length:Int) 0)) else (none)) else (none)))=some r:=H
    have A17:=zA A170
    clear A170
    replace H:=Option.bind_eq_some_iff.mp H
    obtain ⟨⟨t565,t568⟩,A180,H⟩:=H
    replace H:(if t564=0 then (if t568=0 then (if ((t560 == 0) != ((t561.length:Int) == 0))=true then (none) else (ancepslaw42_ConflictSolved.l0 k t553 t565 (t565.length:Int) 0)) else (none)) else (none))=some r:=H
    have A18:=zA A180
    clear A180
    by_cases c19:t564=0
    ·rw [if_pos c19] at H
     have c19b0:(t564 == 0)=true:=beq_iff_eq.mpr c19
     have c19b1:(t564 != 0)=false:=bne_eq_false_iff_eq.mpr c19
     clear c19
     by_cases c20:t568=0
     ·rw [if_pos c20] at H
      have c20b0:(t568 == 0)=true:=beq_iff_eq.mpr c20
      have c20b1:(t568 != 0)=false:=bne_eq_false_iff_eq.mpr c20
      clear c20
      have HC21:=zA H
      clear H
      go_upto_if 59 with (first|((with_reducible refine gate_callee (f:=29) rfl ?_);refine goesL_ (some 33) rfl rfl Try.func29 zK rfl #[.slice Ao12 t553.length co12] rfl zM ?_;(with_reducible refine (solve_First.calls k _ _ t553 t559 t560 _ ?side1 ?side2 A16.out).mono ?_);(case side1=>exact zC (Kd.N_reads' HO555.out).2.2);(case side2=>exact (Kd.N_reads' HO555.out).2.1);rintro e w22 ⟨rfl,hb⟩;refine ⟨_,rfl,?_⟩;replace HO555:=zA (Kd.N_below (zN HO555) hb);replace HB:=zA (below_step zB hb);(try clear hb);(try clear hb2);(try clear hk);(try clear hi))|((with_reducible refine gate_callee (f:=11) rfl ?_);refine goesL_ (some 38) rfl rfl Try.func11 zK rfl #[.slice Ao12 t553.length co12] rfl zM ?_;(with_reducible refine (conflict_Cores.calls k _ _ t553 t561 t564 _ ?side1 ?side2 A17.out).mono ?_);(case side1=>exact zC (Kd.N_reads' HO555.out).2.2);(case side2=>exact (Kd.N_reads' HO555.out).2.1);rintro e w23 ⟨v562,rfl,ho0,hb⟩;refine ⟨_,rfl,?_⟩;have HO563:=zA (Kd.N_lower (Kd.N_mono (ok':=fun k_=>some k_≠(.slice Ao12 t553.length co12:Value).ownBlock) ho0 (fun k_ hk_=>(Kd.fresh' (Kd.N_lt (zN HO555)) k_ hk_))) (below_size zB));replace HO555:=zA (Kd.N_elder' (zN HO555) (Kd.N_base ho0) hb);replace HB:=zA (below_step zB hb);(try clear hb);(try clear hb2);(try clear hk);(try clear hi);(try clear ho0))|((with_reducible refine gate_callee (f:=14) rfl ?_);refine goesL_ (some 43) rfl rfl Try.func14 zK rfl #[.slice Ao12 t553.length co12] rfl zM ?_;(with_reducible refine (conflict_Repairs.calls k _ _ t553 t565 t568 _ ?side1 ?side2 A18.out).mono ?_);(case side1=>exact zC (Kd.N_reads' HO555.out).2.2);(case side2=>exact (Kd.N_reads' HO555.out).2.1);rintro e w24 ⟨v566,rfl,ho0,hb⟩;refine ⟨_,rfl,?_⟩;have HO567:=zA (Kd.N_lower (Kd.N_mono (ok':=fun k_=>some k_≠(.slice Ao12 t553.length co12:Value).ownBlock∧some k_≠(v562:Value).ownBlock) ho0 (fun k_ hk_=>⟨(Kd.fresh' (Kd.N_lt (zN HO555)) k_ hk_),(Kd.fresh' (Kd.N_lt (zN HO563)) k_ hk_)⟩)) (below_size zB));replace HO555:=zA (Kd.N_elder' (zN HO555) (Kd.N_base ho0) hb);replace HO563:=zA (Kd.N_elder' (zN HO563) (Kd.N_base ho0) hb);replace HB:=zA (below_step zB hb);(try clear hb);(try clear hb2);(try clear hk);(try clear hi);(try clear ho0);obtain ⟨Ao25,co25,eo25⟩:=Kd.N_slice HO563.out;subst eo25))
      (try simp only [Act.put,zi,zs,zt])
      have H:=HC21.out
      clear HC21
      by_cases c26:((t560 == 0) != ((t561.length:Int) == 0))=true
      ·rw [if_pos c26] at H
       exact absurd H (by simp)
      ·rw [if_neg c26] at H
       have c26b0:((t560 == 0) != ((t561.length:Int) == 0))=false:=by simpa using c26
       (try (have c26b1:decide ((t560 == 0)=((t561.length:Int) == 0))=true:=by simpa using c26))
       (try (have c26b2:((t560 == 0) == ((t561.length:Int) == 0))=true:=by simpa using c26))
       clear c26
       (first|rw [c26b0]|(simp only [i64_w,i32_w];rw [c26b0])|skip)
       (try rw [c26b1])
       (try rw [c26b2])
       have H':=zA H
       clear H
       obtain ⟨Ao27,co27,eo27⟩:=Kd.N_slice HO567.out
       subst eo27
       go_wp2
       go_loopg [62] k (fun kq v62 w'=>∃ (x62_1:Int),v62=.int .i64 x62_1∧Aside0 (ancepslaw42_ConflictSolved.l0 kq t553 t565 (t565.length:Int) x62_1=some r)∧Aside0 (kq≤k)∧Aside0 (Kd.N k50 50 w' w.heap.size (fun k_=>some k_≠((.slice Ao27 t565.length co27):Value).ownBlock) (.slice Ao12 t553.length co12) t553)∧Aside0 (Kd.N (Kd.slice 3 (Kd.int .i64)) 30 w' w.heap.size (fun k_=>some k_≠((.slice Ao12 t553.length co12):Value).ownBlock) (.slice Ao27 t565.length co27) t565)∧Aside0 (Below w.heap.size w w'))
       case atStart=>exact ⟨(0),zT,H',⟨Nat.le_refl _⟩,⟨by (with_reducible repeat (first|apply Kd.N_alloc|apply Kd.N_drewN|apply Kd.N_drew));exact Kd.N_mono HO555.out (fun _ hk=>hk.2)⟩,⟨by (with_reducible repeat (first|apply Kd.N_alloc|apply Kd.N_drewN|apply Kd.N_drew));exact Kd.N_mono HO567.out (fun _ hk=>hk.1)⟩,⟨by repeat (first|(with_reducible first|exact HB.out|apply below_alloc|apply pw_below_drewN|apply below_drew1)|exact HB.out)⟩⟩
       case round=>
        clear H'
        try clear c6
        try clear c8
        try clear c15
        try clear c15b0
        try clear c15b1
        try clear c19
        try clear c19b0
        try clear c19b1
        try clear c20
        try clear c20b0
        try clear c20b1
        try clear c26
        try clear c26b0
        try clear c26b1
        try clear c26b2
        obtain ⟨x62_1,rfl,HA,HK1,HO_3,HO_60,HB⟩:=hrel
        cases gk with
        | zero=>exact absurd HA.out (by simp [ancepslaw42_ConflictSolved.l0])
        | succ k1=>
         have H:=HA.out
         clear HA
         simp only [ancepslaw42_ConflictSolved.l0] at H
         by_cases c28:x62_1<(t565.length:Int)
         ·rw [if_pos c28] at H
          have c28b0:decide (x62_1<(t565.length:Int))=true:=decide_eq_true c28
          clear c28
          by_cases c29:0≤x62_1
          ·rw [if_pos c29] at H
           have c29b0:decide (0≤x62_1)=true:=decide_eq_true c29
           clear c29
           by_cases c30:x62_1<(t565.length:Int)
           ·rw [if_pos c30] at H
            have c30b0:decide (x62_1<(t565.length:Int))=true:=decide_eq_true c30
            clear c30
            have H':=zA H
            clear H
            have p569:0≤(x62_1:Int):=of_decide_eq_true zh
            have q569:x62_1<(t565.length:Int):=of_decide_eq_true zh
            obtain ⟨ad569,A569_0,c569_0,e569,hx569_0,hl569_0,hi569_0⟩:=at_L1 (Kd.N_reads' HO_60.out).2.2 x62_1 p569 q569
            cases e569
            obtain ⟨ce569,hce569,hMe569,hcc569⟩:=Kd.N_get HO_60.out [] x62_1 p569 (by first|exact q569|exact of_decide_eq_true zh|(have e_:=(Kd.N_reads' HO_60.out).1;omega))
            obtain ⟨ua569_0,uc569_0,rfl,ul569_0,ge569_0⟩:=Kd.FK_slice_open hMe569
            have hv569_0:=hcc569 0 _ rfl
            rw [Nat.add_zero,show ((Kd.slice 3 (Kd.int .i64))).sz=1 from rfl,Nat.mul_one] at hv569_0
            replace hv569_0:=Option.some.inj (hv569_0.symm.trans hx569_0)
            injection hv569_0 with hva_ hvn_ hvc_
            rw [hva_] at ge569_0
            rw [hvc_] at ul569_0
            have HL569_0:=zA (show Kd.V (Kd.int .i64) 3 _ w.heap.size _ _ (rd_L1 t565 x62_1) from Kd.V_mk ul569_0 ge569_0)
            clear hva_ hvn_ hvc_ ge569_0 ul569_0
            clear hcc569 hce569
            have HR569_0:=zA hi569_0
            have HC569_0:=zA hl569_0
            clear hi569_0 hl569_0
            replace p569:=eq_true p569
            replace q569:=eq_true q569
            go_wp2
            go_loopg [12,68] k1 (fun kq v12 v68 w'=>∃ (x12_2:List (S50)) (x68_2:Int),v68=.int .i64 x68_2∧Aside0 (ancepslaw42_ConflictSolved.l1 kq t553 (rd_L1 t565 x62_1) x12_2 t565 (t565.length:Int) x62_1 (t553.length:Int) x68_2=some r)∧Aside0 (kq≤k1)∧Aside0 (Kd.N k50 50 w' w.heap.size (fun k_=>some k_≠(v12:Value).ownBlock∧some k_≠((.slice (some ad569) t565.length co27):Value).ownBlock) (.slice Ao12 t553.length co12) t553)∧Aside0 (Kd.V (Kd.int .i64) 3 w' w.heap.size (fun k_=>some k_≠((.slice Ao12 t553.length co12):Value).ownBlock∧some k_≠(v12:Value).ownBlock∧some k_≠((.slice (some ad569) t565.length co27):Value).ownBlock) (.slice A569_0 (rd_L1 t565 x62_1).length c569_0) (rd_L1 t565 x62_1))∧Aside0 (Kd.N k50 50 w' w.heap.size (fun k_=>some k_≠((.slice Ao12 t553.length co12):Value).ownBlock∧some k_≠((.slice (some ad569) t565.length co27):Value).ownBlock) v12 x12_2)∧Aside0 (Kd.N (Kd.slice 3 (Kd.int .i64)) 30 w' w.heap.size (fun k_=>some k_≠((.slice Ao12 t553.length co12):Value).ownBlock∧some k_≠(v12:Value).ownBlock) (.slice (some ad569) t565.length co27) t565)∧Aside0 (Below w.heap.size w w'))
            case atStart=>exact ⟨(([]:List (S50))),(0),zT,H',⟨Nat.le_refl _⟩,⟨by (with_reducible repeat (first|apply Kd.N_alloc|apply Kd.N_drewN|apply Kd.N_drew));exact Kd.N_mono HO_3.out (fun _ hk=>⟨(by simp [Value.ownBlock]),hk⟩)⟩,⟨by (with_reducible repeat (first|apply Kd.V_alloc|apply Kd.V_drewN|apply Kd.V_drew));exact Kd.V_mono HL569_0.out (fun _ hk=>⟨hk.1,⟨(by simp [Value.ownBlock]),hk.2⟩⟩)⟩,⟨by first|exact Kd.S_nil _ _ _ _ _|exact Kd.N_nil _ _ _ _ _|exact Kd.V_nil _ _ _ _ _|exact Kd.Q_nil _ _ _ _ _|exact Kd.R_nil _ _ _ _ _⟩,⟨by (with_reducible repeat (first|apply Kd.N_alloc|apply Kd.N_drewN|apply Kd.N_drew));exact Kd.N_mono HO_60.out (fun _ hk=>⟨hk,(by simp [Value.ownBlock])⟩)⟩,⟨by repeat (first|(with_reducible first|exact HB.out|apply below_alloc|apply pw_below_drewN|apply below_drew1)|exact HB.out)⟩⟩
            case round=>
             clear H'
             try clear c6
             try clear c8
             try clear c15
             try clear c15b0
             try clear c15b1
             try clear c19
             try clear c19b0
             try clear c19b1
             try clear c20
             try clear c20b0
             try clear c20b1
             try clear c26
             try clear c26b0
             try clear c26b1
             try clear c26b2
             try clear c28
             try clear c28b0
             try clear c29
             try clear c29b0
             try clear c30
             try clear c30b0
             try clear hx569_0
             try clear p569
             try clear q569
             obtain ⟨x12_2,x68_2,rfl,HA,HK2,HO_3,HO_11,HO_12,HO_60,HB⟩:=hrel
             cases gk with
             | zero=>exact absurd HA.out (by simp [ancepslaw42_ConflictSolved.l1])
             | succ k2=>
              have H:=HA.out
              clear HA
              simp only [ancepslaw42_ConflictSolved.l1] at H
              by_cases c31:x68_2<(t553.length:Int)
              ·rw [if_pos c31] at H
               have c31b0:decide (x68_2<(t553.length:Int))=true:=decide_eq_true c31
               clear c31
               replace H:=Option.bind_eq_some_iff.mp H
               obtain ⟨t570,A320,H⟩:=H
               replace H:(if t570=true then (ancepslaw42_ConflictSolved.l1 k2 t553 (rd_L1 t565 x62_1) x12_2 t565 (t565.length:Int) x62_1 (t553.length:Int) (wrap64 (x68_2+1))) else (if 0≤x68_2 then (if x68_2<(t553.length:Int) then (if x12_2.length<2932031007402 then (ancepslaw42_ConflictSolved.l1 k2 t553 (rd_L1 t565 x62_1) (x12_2++[(⟨(rd_T50 t553 x68_2).f0,(rd_T50 t553 x68_2).f1⟩:S50)]) t565 (t565.length:Int) x62_1 (t553.length:Int) (wrap64 (x68_2+1))) else (none)) else (none)) else (none)))=some r:=H
               have A32:=zA A320
               clear A320
               have HC33:=zA H
               clear H
               go_upto_if 74 with (first|((with_reducible refine gate_callee (f:=30) rfl ?_);refine goesL_ (some 73) rfl rfl Try.func30 zK rfl #[.slice A569_0 (rd_L1 t565 x62_1).length c569_0,.int .i64 x68_2] rfl zM ?_;(with_reducible refine (slices_Contains_int_int.calls k2 _ _ (rd_L1 t565 x62_1) x68_2 t570 _ ?side1 ?side2 A32.out).mono ?_);(case side1=>exact zC (Kd.V_reads' HO_11.out).2.2);(case side2=>exact (Kd.V_reads' HO_11.out).2.1);rintro e w' ⟨rfl,⟨nd,rfl⟩⟩;refine ⟨_,rfl,?_⟩))
               (try simp only [Act.put,zi,zs,zt])
               have H:=HC33.out
               clear HC33
               by_cases c34:t570=true
               ·subst c34
                have H1:(ancepslaw42_ConflictSolved.l1 k2 t553 (rd_L1 t565 x62_1) x12_2 t565 (t565.length:Int) x62_1 (t553.length:Int) (wrap64 (x68_2+1)))=some r:=by rw [if_pos rfl] at H;exact H
                clear H
                have H:=H1
                clear H1
                have H':=zA H
                clear H
                go_wp2
                go_roundg k2
                case measure=>have:=HK1.out;have:=HK2.out;omega
                case rel=>exact ⟨(x12_2),(wrap64 (x68_2+1)),zT,H',⟨by have:=HK1.out;have:=HK2.out;omega⟩,⟨by (with_reducible repeat (first|apply Kd.N_alloc|apply Kd.N_drewN|apply Kd.N_drew));exact HO_3.out⟩,⟨by (with_reducible repeat (first|apply Kd.V_alloc|apply Kd.V_drewN|apply Kd.V_drew));exact HO_11.out⟩,⟨by (with_reducible repeat (first|apply Kd.N_alloc|apply Kd.N_drewN|apply Kd.N_drew));exact HO_12.out⟩,⟨by (with_reducible repeat (first|apply Kd.N_alloc|apply Kd.N_drewN|apply Kd.N_drew));exact HO_60.out⟩,⟨by repeat (first|(with_reducible first|exact HB.out|apply below_alloc|apply pw_below_drewN|apply below_drew1)|exact HB.out)⟩⟩
               ·replace c34:=Bool.eq_false_iff.mpr c34
                subst c34
                have H1:(if 0≤x68_2 then (if x68_2<(t553.length:Int) then (if x12_2.length<2932031007402 then (ancepslaw42_ConflictSolved.l1 k2 t553 (rd_L1 t565 x62_1) (x12_2++[(⟨(rd_T50 t553 x68_2).f0,(rd_T50 t553 x68_2).f1⟩:S50)]) t565 (t565.length:Int) x62_1 (t553.length:Int) (wrap64 (x68_2+1))) else (none)) else (none)) else (none))=some r:=by rw [if_neg (show ¬ (false=true) by decide)] at H;exact H
                clear H
                have H:=H1
                clear H1
                by_cases c35:0≤x68_2
                ·rw [if_pos c35] at H
                 have c35b0:decide (0≤x68_2)=true:=decide_eq_true c35
                 clear c35
                 (first|rw [c35b0]|(simp only [i64_w,i32_w];rw [c35b0])|skip)
                 by_cases c36:x68_2<(t553.length:Int)
                 ·rw [if_pos c36] at H
                  have c36b0:decide (x68_2<(t553.length:Int))=true:=decide_eq_true c36
                  clear c36
                  by_cases c37:x12_2.length<2932031007402
                  ·rw [if_pos c37] at H
                   have LMc37:=zA c37
                   clear c37
                   obtain ⟨y572,hy572⟩:∃ y_:List (S50),y_=(x12_2++[(⟨(rd_T50 t553 x68_2).f0,(rd_T50 t553 x68_2).f1⟩:S50)]):=⟨_,rfl⟩
                   replace H:(ancepslaw42_ConflictSolved.l1 k2 t553 (rd_L1 t565 x62_1) y572 t565 (t565.length:Int) x62_1 (t553.length:Int) (wrap64 (x68_2+1)))=some r:=by first|(rw [hy572];with_reducible exact H)|(have H2_:=(Option.bind_some _ _).symm.trans H;rw [hy572];with_reducible exact H2_)|(have H2_:=(Option.bind_some _ _).symm.trans H;with_reducible exact H2_)|with_reducible exact H|(rw [hy572];exact H)|exact H
                   have Ny572:=zA hy572
                   clear hy572
                   have H':=zA H
                   clear H
                   have p571:0≤(x68_2:Int):=of_decide_eq_true zh
                   have q571:x68_2<(t553.length:Int):=of_decide_eq_true zh
                   obtain ⟨ad571,A571_0,c571_0,A571_1,c571_1,e571,hx571_0,hx571_1,hl571_0,hi571_0,hl571_1,hi571_1⟩:=at_T50 (Kd.N_reads' HO_3.out).2.2 x68_2 p571 q571
                   cases e571
                   obtain ⟨ce571,hce571,hMe571,hcc571⟩:=Kd.N_get HO_3.out z50 x68_2 p571 (by first|exact q571|exact of_decide_eq_true zh|(have e_:=(Kd.N_reads' HO_3.out).1;omega))
                   obtain ⟨ua571_0,uc571_0,ua571_1,uc571_1,rfl,ul571_0,ge571_0,ul571_1,ge571_1⟩:=k50_openF hMe571
                   have hv571_0:=hcc571 0 _ rfl
                   rw [Nat.add_zero] at hv571_0
                   replace hv571_0:=Option.some.inj (hv571_0.symm.trans hx571_0)
                   injection hv571_0 with hva_ hvn_ hvc_
                   rw [hva_] at ge571_0
                   rw [hvc_] at ul571_0
                   have HL571_0:=zA (show Kd.V (Kd.int .i64) 3 _ w.heap.size _ _ ((rd_T50 t553 x68_2).f0) from Kd.V_mk ul571_0 ge571_0)
                   clear hva_ hvn_ hvc_ ge571_0 ul571_0
                   have hv571_1:=hcc571 1 _ rfl
                   rw [add_field _ _ 1 (by omega)] at hv571_1
                   replace hv571_1:=Option.some.inj (hv571_1.symm.trans hx571_1)
                   injection hv571_1 with hva_ hvn_ hvc_
                   rw [hva_] at ge571_1
                   rw [hvc_] at ul571_1
                   have HL571_1:=zA (show Kd.V (Kd.int .i64) 3 _ w.heap.size _ _ ((rd_T50 t553 x68_2).f1) from Kd.V_mk ul571_1 ge571_1)
                   clear hva_ hvn_ hvc_ ge571_1 ul571_1
                   clear hcc571 hce571
                   have HR571_0:=zA hi571_0
                   have HC571_0:=zA hl571_0
                   clear hi571_0 hl571_0
                   have HR571_1:=zA hi571_1
                   have HC571_1:=zA hl571_1
                   clear hi571_1 hl571_1
                   replace p571:=eq_true p571
                   replace q571:=eq_true q571
                   go_wp2_with (first|((with_reducible refine gate_builtin (b:=.append) (xs:=#[.tmp 75,.tmp 80]) rfl ?_);(try (refine gate_guard (by rfl) ?_;dsimp only));at_builtin;refine Kd.N_append k50 (w0:=w) w.heap.size rfl (.tmp 75) (.tmp 80) 22 50 (.agg #[(.slice none 0 0),(.slice none 0 0)]) 48 rfl Try.underlying22 info50 rfl (by decide) (by omega) u12 x12_2 (⟨(rd_T50 t553 x68_2).f0,(rd_T50 t553 x68_2).f1⟩:S50) [.slice A571_0 ((rd_T50 t553 x68_2).f0).length c571_0,.slice A571_1 ((rd_T50 t553 x68_2).f1).length c571_1] (fun k_=>some k_≠(.slice (some ad571) t553.length co12:Value).ownBlock∧some k_≠(.slice (some ad569) t565.length co27:Value).ownBlock) (fun k_=>((fun k_=>some k_≠(.slice (some ad571) t553.length co12:Value).ownBlock∧some k_≠(.slice (some ad569) t565.length co27:Value).ownBlock)) k_∧some k_≠(u12:Value).ownBlock) rfl rfl ?aP (fun _ hk=>hk) ?aF ?aO ?aB ?aS ?aL ?_;(case aP=>exact (k50_mkF _ _ (⟨(rd_T50 t553 x68_2).f0,(rd_T50 t553 x68_2).f1⟩:S50) (Kd.V_reads' (Kd.V_mono (ok':=(fun k_=>((fun k_=>some k_≠(.slice (some ad571) t553.length co12:Value).ownBlock∧some k_≠(.slice (some ad569) t565.length co27:Value).ownBlock)) k_∧some k_≠(u12:Value).ownBlock)) (HL571_0.out) (fun k_ hk=>⟨⟨hk.2,hk.1.2⟩,hk.1.1⟩))).2.1 (Kd.V_F (Kd.V_mono (ok':=(fun k_=>((fun k_=>some k_≠(.slice (some ad571) t553.length co12:Value).ownBlock∧some k_≠(.slice (some ad569) t565.length co27:Value).ownBlock)) k_∧some k_≠(u12:Value).ownBlock)) (HL571_0.out) (fun k_ hk=>⟨⟨hk.2,hk.1.2⟩,hk.1.1⟩))) (Kd.V_reads' (Kd.V_mono (ok':=(fun k_=>((fun k_=>some k_≠(.slice (some ad571) t553.length co12:Value).ownBlock∧some k_≠(.slice (some ad569) t565.length co27:Value).ownBlock)) k_∧some k_≠(u12:Value).ownBlock)) (HL571_1.out) (fun k_ hk=>⟨⟨hk.2,hk.1.2⟩,hk.1.1⟩))).2.1 (Kd.V_F (Kd.V_mono (ok':=(fun k_=>((fun k_=>some k_≠(.slice (some ad571) t553.length co12:Value).ownBlock∧some k_≠(.slice (some ad569) t565.length co27:Value).ownBlock)) k_∧some k_≠(u12:Value).ownBlock)) (HL571_1.out) (fun k_ hk=>⟨⟨hk.2,hk.1.2⟩,hk.1.1⟩)))));(case aB=>exact zB);(case aF=>exact (fun k_ hk=>⟨Kd.fresh' (Kd.N_lt (zN HO_3)) k_ hk,Kd.fresh' (Kd.N_lt (zN HO_60)) k_ hk⟩));(case aO=>exact (zN HO_12));(case aS=>exact (below_size zB));(case aL=>have:=LMc37.out;omega);intro v573 w38 ho hb hg hat;rw [← Ny572.out] at ho;have HO574:=zA (ho);replace HO_3:=zA (Kd.N_afterv (ok:=(fun k_=>some k_≠(.slice (some ad569) t565.length co27:Value).ownBlock)) (by (with_reducible repeat (first|apply Kd.N_alloc|apply Kd.N_drewN|apply Kd.N_drew));exact Kd.N_mono HO_3.out (fun _ hk=>⟨hk.2,hk.1⟩)) hg hat);replace HO_11:=zA (Kd.V_afterv (ok:=(fun k_=>some k_≠(.slice (some ad571) t553.length co12:Value).ownBlock∧some k_≠(.slice (some ad569) t565.length co27:Value).ownBlock)) (by (with_reducible repeat (first|apply Kd.V_alloc|apply Kd.V_drewN|apply Kd.V_drew));exact Kd.V_mono HO_11.out (fun _ hk=>⟨⟨hk.1,hk.2.2⟩,hk.2.1⟩)) hg hat);replace HO_60:=zA (Kd.N_afterv (ok:=(fun k_=>some k_≠(.slice (some ad571) t553.length co12:Value).ownBlock)) (zN HO_60) hg hat);replace HL571_0:=zA (Kd.V_afterv (ok:=(fun k_=>some k_≠(.slice (some ad571) t553.length co12:Value).ownBlock∧some k_≠(.slice (some ad569) t565.length co27:Value).ownBlock)) (by (with_reducible repeat (first|apply Kd.V_alloc|apply Kd.V_drewN|apply Kd.V_drew));exact Kd.V_mono HL571_0.out (fun _ hk=>⟨⟨hk.2,hk.1.2⟩,hk.1.1⟩)) hg hat);replace HL571_1:=zA (Kd.V_afterv (ok:=(fun k_=>some k_≠(.slice (some ad571) t553.length co12:Value).ownBlock∧some k_≠(.slice (some ad569) t565.length co27:Value).ownBlock)) (by (with_reducible repeat (first|apply Kd.V_alloc|apply Kd.V_drewN|apply Kd.V_drew));exact Kd.V_mono HL571_1.out (fun _ hk=>⟨⟨hk.2,hk.1.2⟩,hk.1.1⟩)) hg hat);replace HB:=zA (hb);clear HO_12;clear ho hb hg hat))
                   go_roundg k2
                   case measure=>have:=HK1.out;have:=HK2.out;omega
                   case rel=>exact ⟨(y572),(wrap64 (x68_2+1)),zT,H',⟨by have:=HK1.out;have:=HK2.out;omega⟩,⟨by (with_reducible repeat (first|apply Kd.N_alloc|apply Kd.N_drewN|apply Kd.N_drew));exact Kd.N_mono HO_3.out (fun _ hk=>⟨hk.2,hk.1⟩)⟩,⟨by (with_reducible repeat (first|apply Kd.V_alloc|apply Kd.V_drewN|apply Kd.V_drew));exact Kd.V_mono HO_11.out (fun _ hk=>⟨hk.1.1,⟨hk.2,hk.1.2⟩⟩)⟩,⟨by (with_reducible repeat (first|apply Kd.N_alloc|apply Kd.N_drewN|apply Kd.N_drew));exact HO574.out⟩,⟨by (with_reducible repeat (first|apply Kd.N_alloc|apply Kd.N_drewN|apply Kd.N_drew));exact HO_60.out⟩,⟨by repeat (first|(with_reducible first|exact HB.out|apply below_alloc|apply pw_below_drewN|apply below_drew1)|exact HB.out)⟩⟩
                  ·rw [if_neg c37] at H
                   exact absurd H (by simp)
                 ·rw [if_neg c36] at H
                  exact absurd H (by simp)
                ·rw [if_neg c35] at H
                 exact absurd H (by simp)
              ·rw [if_neg c31] at H
               have c31b0:decide (x68_2<(t553.length:Int))=false:=decide_eq_false c31
               clear c31
               replace H:=Option.bind_eq_some_iff.mp H
               obtain ⟨⟨t575,t576⟩,A390,H⟩:=H
               replace H:(if t576=0 then (ancepslaw42_ConflictSolved.l0 k2 t553 t565 (t565.length:Int) (wrap64 (x62_1+1))) else (none))=some r:=H
               have A39:=zA A390
               clear A390
               have HC40:=zA H
               clear H
               obtain ⟨Ao41,co41,eo41⟩:=Kd.N_slice HO_12.out
               subst eo41
               go_upto_if 89 with (first|((with_reducible refine gate_callee (f:=29) rfl ?_);refine goesL_ (some 85) rfl rfl Try.func29 zK rfl #[.slice Ao41 x12_2.length co41] rfl zM ?_;(with_reducible refine (solve_First.calls k2 _ _ x12_2 t575 t576 _ ?side1 ?side2 A39.out).mono ?_);(case side1=>exact zC (Kd.N_reads' HO_12.out).2.2);(case side2=>exact (Kd.N_reads' HO_12.out).2.1);rintro e w42 ⟨rfl,hb⟩;refine ⟨_,rfl,?_⟩;replace HO_3:=zA (Kd.N_below (zN HO_3) hb);replace HO_11:=zA (Kd.V_below (zV HO_11) hb);replace HO_12:=zA (Kd.N_below (zN HO_12) hb);replace HO_60:=zA (Kd.N_below (zN HO_60) hb);replace HB:=zA (below_step zB hb);(try clear hb);(try clear hb2);(try clear hk);(try clear hi)))
               (try simp only [Act.put,zi,zs,zt])
               have H:=HC40.out
               clear HC40
               by_cases c43:t576=0
               ·rw [if_pos c43] at H
                have c43b0:(t576 == 0)=true:=beq_iff_eq.mpr c43
                have c43b1:(t576 != 0)=false:=bne_eq_false_iff_eq.mpr c43
                clear c43
                (first|rw [c43b0]|(simp only [i64_w,i32_w];rw [c43b0])|skip)
                (try rw [c43b1])
                have H':=zA H
                clear H
                go_wp2
                go_roundg k2
                case measure=>have:=HK1.out;have:=HK2.out;omega
                case rel=>exact ⟨(wrap64 (x62_1+1)),zT,H',⟨by have:=HK1.out;have:=HK2.out;omega⟩,⟨by (with_reducible repeat (first|apply Kd.N_alloc|apply Kd.N_drewN|apply Kd.N_drew));exact Kd.N_mono HO_3.out (fun _ hk=>hk.2)⟩,⟨by (with_reducible repeat (first|apply Kd.N_alloc|apply Kd.N_drewN|apply Kd.N_drew));exact Kd.N_mono HO_60.out (fun _ hk=>hk.1)⟩,⟨by repeat (first|(with_reducible first|exact HB.out|apply below_alloc|apply pw_below_drewN|apply below_drew1)|exact HB.out)⟩⟩
               ·rw [if_neg c43] at H
                exact absurd H (by simp)
           ·rw [if_neg c30] at H
            exact absurd H (by simp)
          ·rw [if_neg c29] at H
           exact absurd H (by simp)
         ·rw [if_neg c28] at H
          have c28b0:decide (x62_1<(t565.length:Int))=false:=decide_eq_false c28
          clear c28
          obtain rfl:=Option.some.inj H
          go_wp2
          go_ret
          exact ⟨by first|rfl|(simp [errW_none,errW_some] <;> rfl)|(simp [*,errW_none,errW_some] <;> rfl),by repeat (first|(with_reducible first|exact HB.out|apply below_alloc|apply pw_below_drewN|apply below_drew1)|exact HB.out)⟩
     ·rw [if_neg c20] at H
      exact absurd H (by simp)
    ·rw [if_neg c19] at H
     exact absurd H (by simp)
   ·rw [if_neg c15] at H
    have c15b0:(t558 == 0)=false:=beq_eq_false_iff_ne.mpr c15
    have c15b1:(t558 != 0)=true:=bne_iff_ne.mpr c15
    (first|rw [c15b0]|(simp only [i64_w,i32_w];rw [c15b0])|skip)
    (try rw [c15b1])
    replace H:=Option.bind_eq_some_iff.mp H
    obtain ⟨t577,A440,H⟩:=H
    replace H:(some t577)=some r:=H
    have A44:=zA A440
    clear A440
    obtain rfl:=Option.some.inj H
    go_wp2_with (first|((with_reducible refine gate_callee (f:=9) rfl ?_);refine goesL_ (some 30) rfl rfl Try.func9 zK rfl #[] rfl zM ?_;(with_reducible refine (ancepslaw42_awake.calls k  t577 _ A44.out).mono ?_);rintro e w45 ⟨rfl,hb⟩;refine ⟨_,rfl,?_⟩;replace HO555:=zA (Kd.N_below (zN HO555) hb);replace HB:=zA (below_step zB hb);(try clear hb);(try clear hb2);(try clear hk);(try clear hi)))
    go_ret
    exact ⟨by first|rfl|(simp [errW_none,errW_some] <;> rfl)|(simp [*,errW_none,errW_some] <;> rfl),by repeat (first|(with_reducible first|exact HB.out|apply below_alloc|apply pw_below_drewN|apply below_drew1)|exact HB.out)⟩
  ·replace c8:=Bool.eq_false_iff.mpr c8
   subst c8
   have H1:((ancepslaw42_awake.f k).bind fun t578=>(some t578))=some r:=by rw [if_neg (show ¬ (false=true) by decide)] at H;exact H
   clear H
   have H:=H1
   clear H1
   replace H:=Option.bind_eq_some_iff.mp H
   obtain ⟨t578,A460,H⟩:=H
   replace H:(some t578)=some r:=H
   have A46:=zA A460
   clear A460
   obtain rfl:=Option.some.inj H
   go_wp2_with (first|((with_reducible refine gate_callee (f:=9) rfl ?_);refine goesL_ (some 18) rfl rfl Try.func9 zK rfl #[] rfl zM ?_;(with_reducible refine (ancepslaw42_awake.calls k  true _ A5.out).mono ?_);rintro e w47 ⟨rfl,hb⟩;refine ⟨_,rfl,?_⟩;replace HO555:=zA (Kd.N_below (zN HO555) hb);replace HB:=zA (below_step zB hb);(try clear hb);(try clear hb2);(try clear hk);(try clear hi);obtain ⟨Ao48,co48,eo48⟩:=Kd.N_slice HO555.out;subst eo48)|(go_at_call 10;(with_reducible refine (ancepsref42_Few.calls k _ _ t553 false _ ?side1 ?side2 A7.out).mono ?_);(case side1=>exact zC (Kd.N_reads' HO555.out).2.2);(case side2=>exact (Kd.N_reads' HO555.out).2.1);rintro e w49 ⟨rfl,hb⟩;replace HO555:=zA (Kd.N_below (zN HO555) hb);replace HB:=zA (below_step zB hb);(try clear hb);(try clear hb2);(try clear hk);(try clear hi))|((with_reducible refine gate_callee (f:=9) rfl ?_);refine goesL_ (some 30) rfl rfl Try.func9 zK rfl #[] rfl zM ?_;(with_reducible refine (ancepslaw42_awake.calls k  t578 _ A46.out).mono ?_);rintro e w50 ⟨rfl,hb⟩;refine ⟨_,rfl,?_⟩;replace HO555:=zA (Kd.N_below (zN HO555) hb);replace HB:=zA (below_step zB hb);(try clear hb);(try clear hb2);(try clear hk);(try clear hi)))
   go_ret
   exact ⟨by first|rfl|(simp [errW_none,errW_some] <;> rfl)|(simp [*,errW_none,errW_some] <;> rfl),by repeat (first|(with_reducible first|exact HB.out|apply below_alloc|apply pw_below_drewN|apply below_drew1)|exact HB.out)⟩
 ·replace c6:=Bool.eq_false_iff.mpr c6
  subst c6
  have H1:((ancepslaw42_awake.f k).bind fun t579=>(some t579))=some r:=by rw [if_neg (show ¬ (false=true) by decide)] at H;exact H
  clear H
  have H:=H1
  clear H1
  replace H:=Option.bind_eq_some_iff.mp H
  obtain ⟨t579,A510,H⟩:=H
  replace H:(some t579)=some r:=H
  have A51:=zA A510
  clear A510
  obtain rfl:=Option.some.inj H
  go_wp2_with (first|((with_reducible refine gate_callee (f:=9) rfl ?_);refine goesL_ (some 18) rfl rfl Try.func9 zK rfl #[] rfl zM ?_;(with_reducible refine (ancepslaw42_awake.calls k  false _ A5.out).mono ?_);rintro e w52 ⟨rfl,hb⟩;refine ⟨_,rfl,?_⟩;replace HO555:=zA (Kd.N_below (zN HO555) hb);replace HB:=zA (below_step zB hb);(try clear hb);(try clear hb2);(try clear hk);(try clear hi))|((with_reducible refine gate_callee (f:=9) rfl ?_);refine goesL_ (some 30) rfl rfl Try.func9 zK rfl #[] rfl zM ?_;(with_reducible refine (ancepslaw42_awake.calls k  t579 _ A51.out).mono ?_);rintro e w53 ⟨rfl,hb⟩;refine ⟨_,rfl,?_⟩;replace HO555:=zA (Kd.N_below (zN HO555) hb);replace HB:=zA (below_step zB hb);(try clear hb);(try clear hb2);(try clear hk);(try clear hi)))
  go_ret
  exact ⟨by first|rfl|(simp [errW_none,errW_some] <;> rfl)|(simp [*,errW_none,errW_some] <;> rfl),by repeat (first|(with_reducible first|exact HB.out|apply below_alloc|apply pw_below_drewN|apply below_drew1)|exact HB.out)⟩
end Go.Proofs.Ytkjghablbeaioaa.S
