import Derived.Test.YtngpkbbljnbojaaGreatA0
import Derived.Test.YtngpkbbljnbojaaGreatA6
import Derived.Test.YtngpkbbljnbojaaGreatA9
import Derived.Test.YtngpkbbljnbojaaGreatA11
import Derived.Test.YtngpkbbljnbojaaGreatA12
import Derived.Test.YtngpkbbljnbojaaGreatA13
import Derived.Test.YtngpkbbljnbojaaGreatA19
import Derived.Test.YtngpkbbljnbojaaGreatA20
namespace Go.Proofs.YtngpkbbljnbojaaGreat.A
open Go.RowKit Go.Proofs.YtngpkbbljnbojaaGreatW.PrintWords Go.Proofs.YtngpkbbljnbojaaGreatW.PrintLast Go.Proofs.YtngpkbbljnbojaaGreatW.PrintMore
attribute [local go_sem] max2_int min2_int max_two min_two max_three min_three max_four min_four
set_option linter.unusedVariables false
set_option linter.unusedSimpArgs false
def ancepslaw41_SharedAll.f (k:Nat) (l0:List (S63)):Option (Bool):=(ancepslaw41_awake.f k).bind fun t47=>(if t47=true then ((ancepsref41_FewTables.f k l0).bind fun t45=>(if t45=true then ((ancepslaw41_own.f k l0).bind fun t39=>((shared_All.f k t39).bind fun bt34=>((ancepsref41_All.f k l0).bind fun bt35=>(if bt34.2=bt35.2 then ((ancepsref41_Same.f k bt34.1 bt35.1).bind fun t42=>(if t42=true then (if bt34.2=0 then ((ancepslaw41_own.f k l0).bind fun t38=>((shared_Check.f k t38 bt34.1).bind fun t40=>(some t40))) else (some true)) else (none))) else (none))))) else ((ancepslaw41_awake.f k).bind fun t43=>(some t43)))) else ((ancepslaw41_awake.f k).bind fun t46=>(some t46)))
set_option maxHeartbeats 8000000 in
set_option maxRecDepth 100000 in
theorem ancepslaw41_SharedAll.calls (k:Nat) (A0:Option Addr) (c0:Nat) (l0:List (S63)) (r:Bool) (w:World) (hr0:Kd.C k63 w A0 l0.length l0) (hc0:l0.length≤c0) (h:ancepslaw41_SharedAll.f k l0=some r) :
  Calls Tryz.prog 3 #[.slice A0 l0.length c0] w fun e w'=>e=.returned (.bool r)∧Below w.heap.size w w':=by
 have HR0:=zA hr0;have HC0:=zA hc0;clear hr0 hc0;have HB:=zA (Below.refl w.heap.size w);have H:((ancepslaw41_awake.f k).bind fun t47=>(if t47=true then ((ancepsref41_FewTables.f k l0).bind fun t45=>(if t45=true then ((ancepslaw41_own.f k l0).bind fun t39=>((shared_All.f k t39).bind fun bt34=>((ancepsref41_All.f k l0).bind fun bt35=>(if bt34.2=bt35.2 then ((ancepsref41_Same.f k bt34.1 bt35.1).bind fun t42=>(if t42=true then (if bt34.2=0 then ((ancepslaw41_own.f k l0).bind fun t38=>((shared_Check.f k t38 bt34.1).bind fun t40=>(some t40))) else (some true)) else (none))) else (none))))) else ((ancepslaw41_awake.f k).bind fun t43=>(some t43)))) else ((ancepslaw41_awake.f k).bind fun t46=>(some t46))))=some r:=h;clear h;obtain ⟨t47,A2,H⟩:=zo H
 by_cases c3:t47=true
 ·subst c3
  have H1:((ancepsref41_FewTables.f k l0).bind fun t45=>(if t45=true then ((ancepslaw41_own.f k l0).bind fun t39=>((shared_All.f k t39).bind fun bt34=>((ancepsref41_All.f k l0).bind fun bt35=>(if bt34.2=bt35.2 then ((ancepsref41_Same.f k bt34.1 bt35.1).bind fun t42=>(if t42=true then (if bt34.2=0 then ((ancepslaw41_own.f k l0).bind fun t38=>((shared_Check.f k t38 bt34.1).bind fun t40=>(some t40))) else (some true)) else (none))) else (none))))) else ((ancepslaw41_awake.f k).bind fun t43=>(some t43))))=some r:=by rw [if_pos rfl] at H;exact H
  clear H;have H:=H1;clear H1;obtain ⟨t45,A4,H⟩:=zo H;have HC5:=zA H;clear H
  go_enter Tryz.func3,Tryz.ntmps3
  go_upto_if 13 with (first|((with_reducible refine gate_callee (f:=7) rfl ?_);refine zgo 7 Tryz.func7 #[] ?_;(with_reducible refine (ancepslaw41_awake.calls k  true _ A2.out).mono ?_);rintro e w6 ⟨rfl,hb⟩;refine ⟨_,rfl,?_⟩;replace HB:=zu hb;clear hb)|(go_at_call 8;(with_reducible refine (ancepsref41_FewTables.calls k _ _ l0 t45 _ (zD HR0 HB) HC0.out A4.out).mono ?_);rintro e w7 ⟨rfl,hb⟩;replace HB:=zu hb;clear hb))
  (try simp only [Act.put,zi,zs,zt]);have H:=HC5.out;clear HC5
  by_cases c8:t45=true
  ·subst c8
   have H1:((ancepslaw41_own.f k l0).bind fun t39=>((shared_All.f k t39).bind fun bt34=>((ancepsref41_All.f k l0).bind fun bt35=>(if bt34.2=bt35.2 then ((ancepsref41_Same.f k bt34.1 bt35.1).bind fun t42=>(if t42=true then (if bt34.2=0 then ((ancepslaw41_own.f k l0).bind fun t38=>((shared_Check.f k t38 bt34.1).bind fun t40=>(some t40))) else (some true)) else (none))) else (none)))))=some r:=by rw [if_pos rfl] at H;exact H
   clear H;have H:=H1;clear H1;obtain ⟨t39,A9,H⟩:=zo H;obtain ⟨t34,t49,A10,H⟩:=zO H
   dsimp only at H
   obtain ⟨t35,t50,A11,H⟩:=zO H
   dsimp only at H
   obtain ⟨c12,H⟩:=if1 H;have c12b0:(t49 == t50)=true:=beq_iff_eq.mpr c12;have c12b1:(t49 != t50)=false:=bne_eq_false_iff_eq.mpr c12;clear c12
   (first|rw [c12b0]|(simp only [i64_w,i32_w];rw [c12b0])|skip)
   (try rw [c12b1]);obtain ⟨t42,A13,H⟩:=zo H;have HC14:=zA H;clear H
   go_upto_if 34 with (first|((with_reducible refine gate_callee (f:=10) rfl ?_);refine zgo 17 Tryz.func10 #[.slice A0 l0.length c0] ?_;(with_reducible refine (ancepslaw41_own.calls k _ _ l0 t39 _ (zD HR0 HB) HC0.out A9.out).mono ?_);rintro e w15 ⟨v51,rfl,ho0,hb⟩;refine ⟨_,rfl,?_⟩;have HO36:=zA (Kd.S_lower ho0 (below_size zB));replace HB:=zu hb;clear hb;(try clear ho0);obtain ⟨Ao16,co16,eo16⟩:=Kd.S_slice HO36.out;subst eo16)|((with_reducible refine gate_callee (f:=9) rfl ?_);refine zgo 18 Tryz.func9 #[.slice Ao16 t39.length co16] ?_;(with_reducible refine (shared_All.calls k _ _ t39 t34 t49 _ ?side1 ?side2 A10.out).mono ?_);(case side1=>exact zC (Kd.S_reads' HO36.out).2.2);(case side2=>exact (Kd.S_reads' HO36.out).2.1);rintro e w17 ⟨v52,rfl,ho0,hb⟩;refine ⟨_,rfl,?_⟩;have HO37:=zA (Kd.S_lower ho0 (below_size zB));replace HO36:=zA (Kd.S_below (zS HO36) hb);replace HB:=zu hb;clear hb;(try clear ho0))|((with_reducible refine gate_callee (f:=11) rfl ?_);refine zgo 23 Tryz.func11 #[.slice A0 l0.length c0] ?_;(with_reducible refine (ancepsref41_All.calls k _ _ l0 t35 t50 _ (zD HR0 HB) HC0.out A11.out).mono ?_);rintro e w18 ⟨v53,rfl,ho0,hb⟩;refine ⟨_,rfl,?_⟩;have HO44:=zA (Kd.S_lower (Kd.S_new' ho0 (Kd.S_lt (zS HO37))) (below_size zB));replace HO36:=zA (Kd.S_below (zS HO36) hb);replace HO37:=zA (Kd.S_elder' (zS HO37) (Kd.S_base ho0) hb);replace HB:=zu hb;clear hb;(try clear ho0);obtain ⟨Ao19,co19,eo19⟩:=Kd.S_slice HO37.out;subst eo19;obtain ⟨Ao20,co20,eo20⟩:=Kd.S_slice HO44.out;subst eo20)|(go_at_call 12;(with_reducible refine (ancepsref41_Same.calls k _ _ t34 _ _ t35 t42 _ ?side1 ?side2 ?side3 ?side4 A13.out).mono ?_);(case side1=>exact zC (Kd.S_reads' HO37.out).2.2);(case side2=>exact (Kd.S_reads' HO37.out).2.1);(case side3=>exact zC (Kd.S_reads' HO44.out).2.2);(case side4=>exact (Kd.S_reads' HO44.out).2.1);rintro e w21 ⟨rfl,hb⟩;replace HO36:=zA (Kd.S_below (zS HO36) hb);replace HO37:=zA (Kd.S_below (zS HO37) hb);replace HO44:=zA (Kd.S_below (zS HO44) hb);replace HB:=zu hb;clear hb))
   (try simp only [Act.put,zi,zs,zt]);have H:=HC14.out;clear HC14
   by_cases c22:t42=true
   ·subst c22
    have H1:(if t49=0 then ((ancepslaw41_own.f k l0).bind fun t38=>((shared_Check.f k t38 t34).bind fun t40=>(some t40))) else (some true))=some r:=by rw [if_pos rfl] at H;exact H
    clear H;have H:=H1;clear H1
    rcases ife H with ⟨c23b0,c23b1,H⟩|⟨c23,c23b0,c23b1,H⟩
    ·(first|rw [c23b0]|(simp only [i64_w,i32_w];rw [c23b0])|skip)
     (try rw [c23b1]);obtain ⟨t38,A24,H⟩:=zo H;obtain ⟨t40,A25,H⟩:=zo H;obtain rfl:=Option.some.inj H
     go_wp2_with (first|(go_at_call 10;(with_reducible refine (ancepslaw41_own.calls k _ _ l0 t38 _ (zD HR0 HB) HC0.out A24.out).mono ?_);rintro e w26 ⟨v54,rfl,ho0,hb⟩;have HO48:=zA (Kd.S_lower (Kd.S_new' ho0 (Kd.S_lt (zS HO36))) (below_size zB));replace HO36:=zA (Kd.S_elder' (zS HO36) (Kd.S_base ho0) hb);replace HO37:=zA (Kd.S_below (zS HO37) hb);replace HO44:=zA (Kd.S_below (zS HO44) hb);replace HB:=zu hb;clear hb;(try clear ho0);obtain ⟨Ao27,co27,eo27⟩:=Kd.S_slice HO48.out;subst eo27)|(go_at_call 13;(with_reducible refine (shared_Check.calls k _ _ t38 _ _ t34 t40 _ ?side1 ?side2 ?side3 ?side4 A25.out).mono ?_);(case side1=>exact zC (Kd.S_reads' HO48.out).2.2);(case side2=>exact (Kd.S_reads' HO48.out).2.1);(case side3=>exact zC (Kd.S_reads' HO37.out).2.2);(case side4=>exact (Kd.S_reads' HO37.out).2.1);rintro e w28 ⟨rfl,hb⟩;replace HO36:=zA (Kd.S_below (zS HO36) hb);replace HO37:=zA (Kd.S_below (zS HO37) hb);replace HO44:=zA (Kd.S_below (zS HO44) hb);replace HO48:=zA (Kd.S_below (zS HO48) hb);replace HB:=zu hb;clear hb))
     go_ret
     exact ⟨ze,zv0 HB⟩
    ·(first|rw [c23b0]|(simp only [i64_w,i32_w];rw [c23b0])|skip)
     (try rw [c23b1]);obtain rfl:=Option.some.inj H
     go_wp2
     go_ret
     exact ⟨ze,zv0 HB⟩
   ·replace c22:=Bool.eq_false_iff.mpr c22;subst c22
    have H1:(none)=some r:=by rw [if_neg (show ¬ (false=true) by decide)] at H;exact H
    clear H;have H:=H1;clear H1;exact absurd H (by simp)
  ·replace c8:=Bool.eq_false_iff.mpr c8;subst c8
   have H1:((ancepslaw41_awake.f k).bind fun t43=>(some t43))=some r:=by rw [if_neg (show ¬ (false=true) by decide)] at H;exact H
   clear H;have H:=H1;clear H1;obtain ⟨t43,A29,H⟩:=zo H;obtain rfl:=Option.some.inj H
   go_wp2_with (first|((with_reducible refine gate_callee (f:=7) rfl ?_);refine zgo 14 Tryz.func7 #[] ?_;(with_reducible refine (ancepslaw41_awake.calls k  t43 _ A29.out).mono ?_);rintro e w30 ⟨rfl,hb⟩;refine ⟨_,rfl,?_⟩;replace HB:=zu hb;clear hb))
   go_ret
   exact ⟨ze,zv0 HB⟩
 ·replace c3:=Bool.eq_false_iff.mpr c3;subst c3
  have H1:((ancepslaw41_awake.f k).bind fun t46=>(some t46))=some r:=by rw [if_neg (show ¬ (false=true) by decide)] at H;exact H
  clear H;have H:=H1;clear H1;obtain ⟨t46,A31,H⟩:=zo H;obtain rfl:=Option.some.inj H
  go_enter Tryz.func3,Tryz.ntmps3
  go_wp2_with (first|((with_reducible refine gate_callee (f:=7) rfl ?_);refine zgo 7 Tryz.func7 #[] ?_;(with_reducible refine (ancepslaw41_awake.calls k  false _ A2.out).mono ?_);rintro e w32 ⟨rfl,hb⟩;refine ⟨_,rfl,?_⟩;replace HB:=zu hb;clear hb)|((with_reducible refine gate_callee (f:=7) rfl ?_);refine zgo 14 Tryz.func7 #[] ?_;(with_reducible refine (ancepslaw41_awake.calls k  t46 _ A31.out).mono ?_);rintro e w33 ⟨rfl,hb⟩;refine ⟨_,rfl,?_⟩;replace HB:=zu hb;clear hb))
  go_ret
  exact ⟨ze,zv0 HB⟩
end Go.Proofs.YtngpkbbljnbojaaGreat.A
