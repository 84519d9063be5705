import Derived.Test.YtkjghablbeaioaaS0
import Derived.Test.YtkjghablbeaioaaS13
namespace Go.Proofs.Ytkjghablbeaioaa.S
open Go.RowKit Go.Proofs.YtkjghablbeaioaaW.PrintWords Go.Proofs.YtkjghablbeaioaaW.PrintLast Go.Proofs.YtkjghablbeaioaaW.PrintMore
attribute [local go_sem] max2_int min2_int max_two min_two max_three min_three max_four min_four
set_option linter.unusedVariables false
set_option linter.unusedSimpArgs false
def ancepsref42_contradictory.f (k:Nat) (l0:List (S50)) (l1:List Int):Option (Bool):=(ancepsref42_System.f k l0 l1).bind fun t634=>((ancepsref40_First.f k t634).bind fun bt637=>(some (bt637.2 != 0)))
theorem ancepsref42_contradictory.mono:∀ a0 a1 k,LeO (ancepsref42_contradictory.f k a0 a1) (ancepsref42_contradictory.f (k+1) a0 a1):=by
 intro a0 a1 k
 unfold ancepsref42_contradictory.f
 repeat' first
   | (with_reducible exact ancepsref40_First.mono _ _)
   | (with_reducible exact ancepsref42_System.mono _ _ _)
   | (with_reducible exact LeO.refl _)
   | (with_reducible exact LeO.none _)
   | (with_reducible refine LeO.ite ?_ ?_)
   | (with_reducible refine LeO.bind ?_ (fun _=>?_))
   | exact LeO.none _
   | refine LeO.ite ?_ ?_
   | refine LeO.bind ?_ (fun _=>?_)
set_option maxHeartbeats 8000000 in
set_option maxRecDepth 100000 in
theorem ancepsref42_contradictory.calls (k:Nat) (A0:Option Addr) (c0:Nat) (l0:List (S50)) (A1:Option Addr) (c1:Nat) (l1:List Int) (r:Bool) (w:World) (hr0:Kd.C k50 w A0 l0.length l0) (hc0:l0.length≤c0) (hr1:Kd.C (Kd.int .i64) w A1 l1.length l1) (hc1:l1.length≤c1) (h:ancepsref42_contradictory.f k l0 l1=some r) :
  Calls Try.prog 57 #[.slice A0 l0.length c0,.slice A1 l1.length c1] w fun e w'=>e=.returned (.bool r)∧Below w.heap.size w w':=by
 have HR0:=zA hr0
 have HC0:=zA hc0
 clear hr0 hc0
 have HR1:=zA hr1
 have HC1:=zA hc1
 clear hr1 hc1
 have HB:=zA (Below.refl w.heap.size w)
 have H:((ancepsref42_System.f k l0 l1).bind fun t634=>((ancepsref40_First.f k t634).bind fun bt637=>(some (bt637.2 != 0))))=some r:=h
 clear h
 replace H:=Option.bind_eq_some_iff.mp H
 obtain ⟨t634,A30,H⟩:=H
 replace H:((ancepsref40_First.f k t634).bind fun bt637=>(some (bt637.2 != 0)))=some r:=H
 have A3:=zA A30
 clear A30
 replace H:=Option.bind_eq_some_iff.mp H
 obtain ⟨⟨t637,t638⟩,A40,H⟩:=H
 replace H:(some (t638 != 0))=some r:=H
 have A4:=zA A40
 clear A40
 obtain rfl:=Option.some.inj H
 go_enter Try.func57,Try.ntmps57
 go_wp2_with (first|((with_reducible refine gate_callee (f:=69) rfl ?_);refine goesL_ (some 10) rfl rfl Try.func69 zK rfl #[.slice A0 l0.length c0,.slice A1 l1.length c1] rfl zM ?_;(with_reducible refine (ancepsref42_System.calls k (fun k_=>k_<w.heap.size) _ _ l0 _ _ l1 t634 _ ?side1 ?side2 ?side3 A3.out).mono ?_);(case side1=>exact Kd.V_mk HC0.out (Kd.F_below (Kd.C_F k50_heap HR0.out) zB));(case side2=>repeat (first|exact HR1.out|(with_reducible refine Kd.C_alloc ?_ _)|(with_reducible refine Kd.C_drewN ?_ _)|(with_reducible refine Kd.C_drew ?_)));(case side3=>exact HC1.out);rintro e w5 ⟨v635,rfl,ho0,hb⟩;refine ⟨_,rfl,?_⟩;have HO636:=zA (Kd.N_lower (Kd.N_mono (ok':=fun k_=>True) ho0 (fun k_ hk_=>trivial)) (below_size zB));replace HB:=zA (below_step zB hb);(try clear hb);(try clear hb2);(try clear hk);(try clear hi);(try clear ho0);obtain ⟨Ao6,co6,eo6⟩:=Kd.N_slice HO636.out;subst eo6)|((with_reducible refine gate_callee (f:=68) rfl ?_);refine goesL_ (some 11) rfl rfl Try.func68 zK rfl #[.slice Ao6 t634.length co6] rfl zM ?_;(with_reducible refine (ancepsref40_First.calls k _ _ t634 t637 t638 _ ?side1 ?side2 A4.out).mono ?_);(case side1=>exact zC (Kd.N_reads' HO636.out).2.2);(case side2=>exact (Kd.N_reads' HO636.out).2.1);rintro e w7 ⟨rfl,hb⟩;refine ⟨_,rfl,?_⟩;replace HO636:=zA (Kd.N_below (zN HO636) hb);replace HB:=zA (below_step zB hb);(try clear hb);(try clear hb2);(try clear hk);(try clear hi)))
 go_ret
 exact ⟨ze,by repeat (first|(with_reducible first|exact HB.out|apply below_alloc|apply pw_below_drewN|apply below_drew1)|exact HB.out)⟩
end Go.Proofs.Ytkjghablbeaioaa.S
