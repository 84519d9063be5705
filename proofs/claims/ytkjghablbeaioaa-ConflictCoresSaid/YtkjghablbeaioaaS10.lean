import Derived.Test.YtkjghablbeaioaaS0
import Derived.Test.YtkjghablbeaioaaS9
namespace Go.Proofs.Ytkjghablbeaioaa.S
open Go.RowKit Go.Proofs.YtkjghablbeaioaaW.PrintWords Go.Proofs.YtkjghablbeaioaaW.PrintLast Go.Proofs.YtkjghablbeaioaaW.PrintMore
attribute [local go_sem] max2_int min2_int max_two min_two max_three min_three max_four min_four
set_option linter.unusedVariables false
set_option linter.unusedSimpArgs false
def ancepsref42_Few.f (k:Nat) (l0:List (S50)):Option (Bool):=(ancepsref40_Few.f k l0).bind fun t528=>(if t528=true then ((ancepsref42_Valid.f k l0).bind fun t529=>(if t529=0 then (if (l0.length:Int)≤6 then ((ancepsref40_Vars.f k l0).bind fun t530=>(some (decide ((t530.length:Int)≤8)))) else (some false)) else (some true))) else (some false))
theorem ancepsref42_Few.mono:∀ a0 k,LeO (ancepsref42_Few.f k a0) (ancepsref42_Few.f (k+1) a0):=by
 intro a0 k
 unfold ancepsref42_Few.f
 repeat' first
   | (with_reducible exact ancepsref40_Few.mono _ _)
   | (with_reducible exact ancepsref40_Vars.mono _ _)
   | (with_reducible exact ancepsref42_Valid.mono _ _)
   | (with_reducible exact LeO.refl _)
   | (with_reducible exact LeO.none _)
   | (with_reducible refine LeO.ite ?_ ?_)
   | (with_reducible refine LeO.bind ?_ (fun _=>?_))
   | exact LeO.none _
   | refine LeO.ite ?_ ?_
   | refine LeO.bind ?_ (fun _=>?_)
set_option maxHeartbeats 8000000 in
set_option maxRecDepth 100000 in
theorem ancepsref42_Few.calls (k:Nat) (A0:Option Addr) (c0:Nat) (l0:List (S50)) (r:Bool) (w:World) (hr0:Kd.C k50 w A0 l0.length l0) (hc0:l0.length≤c0) (h:ancepsref42_Few.f k l0=some r) :
  Calls Try.prog 10 #[.slice A0 l0.length c0] w fun e w'=>e=.returned (.bool r)∧Below w.heap.size w w':=by
 have HR0:=zA hr0
 have HC0:=zA hc0
 clear hr0 hc0
 have HB:=zA (Below.refl w.heap.size w)
 have H:((ancepsref40_Few.f k l0).bind fun t528=>(if t528=true then ((ancepsref42_Valid.f k l0).bind fun t529=>(if t529=0 then (if (l0.length:Int)≤6 then ((ancepsref40_Vars.f k l0).bind fun t530=>(some (decide ((t530.length:Int)≤8)))) else (some false)) else (some true))) else (some false)))=some r:=h
 clear h
 replace H:=Option.bind_eq_some_iff.mp H
 obtain ⟨t528,A20,H⟩:=H
 replace H:(if t528=true then ((ancepsref42_Valid.f k l0).bind fun t529=>(if t529=0 then (if (l0.length:Int)≤6 then ((ancepsref40_Vars.f k l0).bind fun t530=>(some (decide ((t530.length:Int)≤8)))) else (some false)) else (some true))) else (some false))=some r:=H
 have A2:=zA A20
 clear A20
 have HC3:=zA H
 clear H
 go_enter Try.func10,Try.ntmps10
 go_upto_if 5 with (first|((with_reducible refine gate_callee (f:=38) rfl ?_);refine goesL_ (some 4) rfl rfl Try.func38 zK rfl #[.slice A0 l0.length c0] rfl zM ?_;(with_reducible refine (ancepsref40_Few.calls k _ _ l0 t528 _ ?side1 ?side2 A2.out).mono ?_);(case side1=>repeat (first|exact HR0.out|(with_reducible refine Kd.C_alloc ?_ _)|(with_reducible refine Kd.C_drewN ?_ _)|(with_reducible refine Kd.C_drew ?_)));(case side2=>exact HC0.out);rintro e w4 ⟨rfl,hb⟩;refine ⟨_,rfl,?_⟩;replace HB:=zA (below_step zB hb);(try clear hb);(try clear hb2);(try clear hk);(try clear hi)))
 (try simp only [Act.put,zi,zs,zt])
 have H:=HC3.out
 clear HC3
 by_cases c5:t528=true
 ·subst c5
  have H1:((ancepsref42_Valid.f k l0).bind fun t529=>(if t529=0 then (if (l0.length:Int)≤6 then ((ancepsref40_Vars.f k l0).bind fun t530=>(some (decide ((t530.length:Int)≤8)))) else (some false)) else (some true)))=some r:=by rw [if_pos rfl] at H;exact H
  clear H
  have H:=H1
  clear H1
  replace H:=Option.bind_eq_some_iff.mp H
  obtain ⟨t529,A60,H⟩:=H
  replace H:(if t529=0 then (if (l0.length:Int)≤6 then ((ancepsref40_Vars.f k l0).bind fun t530=>(some (decide ((t530.length:Int)≤8)))) else (some false)) else (some true))=some r:=H
  have A6:=zA A60
  clear A60
  by_cases c7:t529=0
  ·rw [if_pos c7] at H
   have c7b0:(t529 == 0)=true:=beq_iff_eq.mpr c7
   have c7b1:(t529 != 0)=false:=bne_eq_false_iff_eq.mpr c7
   clear c7
   (first|rw [c7b0]|(simp only [i64_w,i32_w];rw [c7b0])|skip)
   (try rw [c7b1])
   by_cases c8:(l0.length:Int)≤6
   ·rw [if_pos c8] at H
    have c8b0:decide ((l0.length:Int)≤6)=true:=decide_eq_true c8
    have c8b1:decide (l0.length≤6)=true:=decide_eq_true (by omega)
    clear c8
    replace H:=Option.bind_eq_some_iff.mp H
    obtain ⟨t530,A90,H⟩:=H
    replace H:(some (decide ((t530.length:Int)≤8)))=some r:=H
    have A9:=zA A90
    clear A90
    obtain rfl:=Option.some.inj H
    go_wp2_with (first|((with_reducible refine gate_callee (f:=26) rfl ?_);refine goesL_ (some 7) rfl rfl Try.func26 zK rfl #[.slice A0 l0.length c0] rfl zM ?_;(with_reducible refine (ancepsref42_Valid.calls k _ _ l0 t529 _ ?side1 ?side2 A6.out).mono ?_);(case side1=>exact zC (Kd.C_below HR0.out HB.out));(case side2=>exact HC0.out);rintro e w10 ⟨rfl,hb⟩;refine ⟨_,rfl,?_⟩;replace HB:=zA (below_step zB hb);(try clear hb);(try clear hb2);(try clear hk);(try clear hi))|(go_at_call 39;(with_reducible refine (ancepsref40_Vars.calls k _ _ l0 t530 _ ?side1 ?side2 A9.out).mono ?_);(case side1=>exact zC (Kd.C_below HR0.out HB.out));(case side2=>exact HC0.out);rintro e w11 ⟨v531,rfl,ho0,hb⟩;have HO532:=zA (Kd.R_lower ho0 (below_size zB));replace HB:=zA (below_step zB hb);(try clear hb);(try clear hb2);(try clear hk);(try clear hi);(try clear ho0);obtain ⟨Ao12,co12,eo12⟩:=Kd.R_slice HO532.out;subst eo12))
    go_ret
    exact ⟨ze,by repeat (first|(with_reducible first|exact HB.out|apply below_alloc|apply pw_below_drewN|apply below_drew1)|exact HB.out)⟩
   ·rw [if_neg c8] at H
    have c8b0:decide ((l0.length:Int)≤6)=false:=decide_eq_false c8
    have c8b1:decide (l0.length≤6)=false:=decide_eq_false (by omega)
    clear c8
    obtain rfl:=Option.some.inj H
    go_wp2_with (first|((with_reducible refine gate_callee (f:=26) rfl ?_);refine goesL_ (some 7) rfl rfl Try.func26 zK rfl #[.slice A0 l0.length c0] rfl zM ?_;(with_reducible refine (ancepsref42_Valid.calls k _ _ l0 t529 _ ?side1 ?side2 A6.out).mono ?_);(case side1=>exact zC (Kd.C_below HR0.out HB.out));(case side2=>exact HC0.out);rintro e w13 ⟨rfl,hb⟩;refine ⟨_,rfl,?_⟩;replace HB:=zA (below_step zB hb);(try clear hb);(try clear hb2);(try clear hk);(try clear hi)))
    go_ret
    exact ⟨ze,by repeat (first|(with_reducible first|exact HB.out|apply below_alloc|apply pw_below_drewN|apply below_drew1)|exact HB.out)⟩
  ·rw [if_neg c7] at H
   have c7b0:(t529 == 0)=false:=beq_eq_false_iff_ne.mpr c7
   have c7b1:(t529 != 0)=true:=bne_iff_ne.mpr c7
   (first|rw [c7b0]|(simp only [i64_w,i32_w];rw [c7b0])|skip)
   (try rw [c7b1])
   obtain rfl:=Option.some.inj H
   go_wp2_with (first|((with_reducible refine gate_callee (f:=26) rfl ?_);refine goesL_ (some 7) rfl rfl Try.func26 zK rfl #[.slice A0 l0.length c0] rfl zM ?_;(with_reducible refine (ancepsref42_Valid.calls k _ _ l0 t529 _ ?side1 ?side2 A6.out).mono ?_);(case side1=>exact zC (Kd.C_below HR0.out HB.out));(case side2=>exact HC0.out);rintro e w14 ⟨rfl,hb⟩;refine ⟨_,rfl,?_⟩;replace HB:=zA (below_step zB hb);(try clear hb);(try clear hb2);(try clear hk);(try clear hi)))
   go_ret
   exact ⟨ze,by repeat (first|(with_reducible first|exact HB.out|apply below_alloc|apply pw_below_drewN|apply below_drew1)|exact HB.out)⟩
 ·replace c5:=Bool.eq_false_iff.mpr c5
  subst c5
  have H1:(some false)=some r:=by rw [if_neg (show ¬ (false=true) by decide)] at H;exact H
  clear H
  have H:=H1
  clear H1
  obtain rfl:=Option.some.inj H
  go_wp2
  go_ret
  exact ⟨ze,by repeat (first|(with_reducible first|exact HB.out|apply below_alloc|apply pw_below_drewN|apply below_drew1)|exact HB.out)⟩
end Go.Proofs.Ytkjghablbeaioaa.S
