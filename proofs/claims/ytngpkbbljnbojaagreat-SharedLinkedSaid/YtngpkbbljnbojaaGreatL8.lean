import Derived.Test.YtngpkbbljnbojaaGreatL0
import Derived.Test.YtngpkbbljnbojaaGreatL2
import Derived.Test.YtngpkbbljnbojaaGreatL4
import Derived.Test.YtngpkbbljnbojaaGreatL6
import Derived.Test.YtngpkbbljnbojaaGreatL7
namespace Go.Proofs.YtngpkbbljnbojaaGreat.L
open Go.RowKit Go.Proofs.YtngpkbbljnbojaaGreatW.PrintWords Go.Proofs.YtngpkbbljnbojaaGreatW.PrintLast Go.Proofs.YtngpkbbljnbojaaGreatW.PrintMore
attribute [local go_sem] max2_int min2_int max_two min_two max_three min_three max_four min_four Tryz.underlying22 Tryz.underlying3 Tryz.underlying38 Tryz.underlying40 Tryz.underlying42 Tryz.underlying63
set_option linter.unusedVariables false
set_option linter.unusedSimpArgs false
def shared_right.f (k:Nat) (l0:List (S63)) (a1_0:Int) (a1_1:Int) (a1_2:Int) (a1_3:Int) (a1_4:Int) (l1_5:List (S103)):Option (Bool):=if a1_1=3 then (if a1_2=0 then (if (l1_5.length:Int)=0 then ((shared_right_1_v1.f k a1_3 0 l0 a1_0 a1_1 a1_2 a1_3 a1_4 l1_5).bind fun t426=>(if t426=true then ((shared_right_1_v1.f k a1_4 1 l0 a1_0 a1_1 a1_2 a1_3 a1_4 l1_5).bind fun t427=>(some t427)) else (some false))) else (some false)) else (some false)) else (if a1_1=1 then ((solve_Given.f k l0 a1_0 (wrap64 (2 - a1_1))).bind fun bt96=>(if bt96.2=0 then (if a1_3=0 then (if a1_4=0 then ((solve_Holds.f k l0 a1_2).bind fun t432=>(if t432=true then ((solve_Check.f k bt96.1 l1_5).bind fun t433=>(some t433)) else (some false))) else (some false)) else (some false)) else (some false))) else (if a1_1=2 then ((solve_Given.f k l0 a1_0 (wrap64 (2 - a1_1))).bind fun bt97=>(if bt97.2=0 then (if a1_3=0 then (if a1_4=0 then ((solve_Holds.f k l0 a1_2).bind fun t438=>(if t438=true then ((solve_Check.f k bt97.1 l1_5).bind fun t439=>(some t439)) else (some false))) else (some false)) else (some false)) else (some false))) else (some false)))
set_option maxHeartbeats 8000000 in
set_option maxRecDepth 100000 in
theorem shared_right.calls (k:Nat) (A0:Option Addr) (c0:Nat) (l0:List (S63)) (a1_0:Int) (a1_1:Int) (a1_2:Int) (a1_3:Int) (a1_4:Int) (A1_5:Option Addr) (c1_5:Nat) (l1_5:List (S103)) (r:Bool) (w:World) (hr0:Kd.C k63 w A0 l0.length l0) (hc0:l0.length≤c0) (hr1_5:Kd.C k103 w A1_5 l1_5.length l1_5) (hc1_5:l1_5.length≤c1_5) (h:shared_right.f k l0 a1_0 a1_1 a1_2 a1_3 a1_4 l1_5=some r) :
  Calls Tryz.prog 47 #[.slice A0 l0.length c0,.agg #[.int .i64 a1_0,.int .i64 a1_1,.int .i64 a1_2,.int .i64 a1_3,.int .i64 a1_4,.slice A1_5 l1_5.length c1_5]] w fun e w'=>e=.returned (.bool r)∧Below w.heap.size w w':=by
 have HR0:=zA hr0;have HC0:=zA hc0;clear hr0 hc0;have HR1_5:=zA hr1_5;have HC1_5:=zA hc1_5;clear hr1_5 hc1_5;have HB:=zA (Below.refl w.heap.size w);have H:(if a1_1=3 then (if a1_2=0 then (if (l1_5.length:Int)=0 then ((shared_right_1_v1.f k a1_3 0 l0 a1_0 a1_1 a1_2 a1_3 a1_4 l1_5).bind fun t426=>(if t426=true then ((shared_right_1_v1.f k a1_4 1 l0 a1_0 a1_1 a1_2 a1_3 a1_4 l1_5).bind fun t427=>(some t427)) else (some false))) else (some false)) else (some false)) else (if a1_1=1 then ((solve_Given.f k l0 a1_0 (wrap64 (2 - a1_1))).bind fun bt96=>(if bt96.2=0 then (if a1_3=0 then (if a1_4=0 then ((solve_Holds.f k l0 a1_2).bind fun t432=>(if t432=true then ((solve_Check.f k bt96.1 l1_5).bind fun t433=>(some t433)) else (some false))) else (some false)) else (some false)) else (some false))) else (if a1_1=2 then ((solve_Given.f k l0 a1_0 (wrap64 (2 - a1_1))).bind fun bt97=>(if bt97.2=0 then (if a1_3=0 then (if a1_4=0 then ((solve_Holds.f k l0 a1_2).bind fun t438=>(if t438=true then ((solve_Check.f k bt97.1 l1_5).bind fun t439=>(some t439)) else (some false))) else (some false)) else (some false)) else (some false))) else (some false))))=some r:=h;clear h;have HC3:=zA H;clear H
 go_enter Tryz.func47,Tryz.ntmps47
 go_upto_if 11 with (first|((with_reducible refine gd 2 rfl ?_);(try (refine gate_guard (by rfl) ?_;dsimp only));refine zx #[.slice A0 l0.length c0] 22 ?_;intro gb83 hg w4 BK83 hb GW83 HB1;have GE83:=GW83;clear HB hb hg;have HB:=HB1;clear HB1)|((with_reducible refine gd 3 rfl ?_);(try (refine gate_guard (by rfl) ?_;dsimp only));refine zx #[.int .i64 a1_0,.int .i64 a1_1,.int .i64 a1_2,.int .i64 a1_3,.int .i64 a1_4,.slice A1_5 l1_5.length c1_5] 42 ?_;intro gb82 hg w5 BK82 hb GW82 HB1;have GE82:=GW82;have NB83_82:=zL hg BK83;have NB82_83:=zLs NB83_82;replace BK83:=zw BK83 hb;clear HB hb hg;have HB:=HB1;clear HB1;have hnb6:=NB82_83.out;have hnc6:=NB83_82.out;have hcz7_0:=zc0 BK82;have hcz7_1:=zc1 BK82;have hcz7_2:=zc2 BK82;have hcz7_3:=zc3 BK82;have hcz7_4:w5.cell? ⟨gb82,4,none⟩=some (.int .i64 a1_4):=zc4 BK82;have hcz7_5:w5.cell? ⟨gb82,5,none⟩=some (.slice A1_5 l1_5.length c1_5):=zc5 BK82;have hfz7_0:=zf BK82))
 (try simp only [Act.put,zi,zs,zt]);have H:=HC3.out;clear HC3
 rcases ife H with ⟨c8b0,c8b1,H⟩|⟨c8,c8b0,c8b1,H⟩
 ·(first|rw [c8b0]|(simp only [i64_w,i32_w];rw [c8b0])|skip)
  (try rw [c8b1])
  rcases ife H with ⟨c9b0,c9b1,H⟩|⟨c9,c9b0,c9b1,H⟩
  ·rcases ife H with ⟨c10b0,c10b1,H⟩|⟨c10,c10b0,c10b1,H⟩
   ·obtain ⟨t426,A11,H⟩:=zo H
    by_cases c12:t426=true
    ·subst c12
     have H1:((shared_right_1_v1.f k a1_4 1 l0 a1_0 a1_1 a1_2 a1_3 a1_4 l1_5).bind fun t427=>(some t427))=some r:=by rw [if_pos rfl] at H;exact H
     clear H;have H:=H1;clear H1;obtain ⟨t427,A13,H⟩:=zo H;obtain rfl:=Option.some.inj H;have hnb14:=NB82_83.out;have hnc14:=NB83_82.out;have hcz15_0:=zc0 BK82;have hcz15_1:=zc1 BK82;have hcz15_2:=zc2 BK82;have hcz15_3:=zc3 BK82;have hcz15_4:w5.cell? ⟨gb82,4,none⟩=some (.int .i64 a1_4):=zc4 BK82;have hcz15_5:w5.cell? ⟨gb82,5,none⟩=some (.slice A1_5 l1_5.length c1_5):=zc5 BK82;have hfz15_0:=zf BK82
     go_wp2_with (first|(go_at_call 79;(with_reducible refine (shared_right_1_v1.calls k a1_3 0 gb83 A0 c0 l0 gb82 a1_0 a1_1 a1_2 a1_3 a1_4 A1_5 c1_5 l1_5 true _ (zD HR0 HB) HC0.out ?side3 (zD HR1_5 HB) HC1_5.out ?side6 A11.out).mono ?_);(case side3=>refine zj ?_;exact BK83.out);(case side6=>refine zj ?_;exact BK82.out);rintro e w16 ⟨rfl,hb⟩;replace BK83:=zw BK83 hb;replace BK82:=zw BK82 hb;replace HB:=zu hb;clear hb;have hcz17_0:=zc0 BK82;have hcz17_1:=zc1 BK82;have hcz17_2:=zc2 BK82;have hcz17_3:=zc3 BK82;have hcz17_4:w16.cell? ⟨gb82,4,none⟩=some (.int .i64 a1_4):=zc4 BK82;have hcz17_5:w16.cell? ⟨gb82,5,none⟩=some (.slice A1_5 l1_5.length c1_5):=zc5 BK82;have hfz17_0:=zf BK82)|(go_at_call 79;(with_reducible refine (shared_right_1_v1.calls k a1_4 1 gb83 A0 c0 l0 gb82 a1_0 a1_1 a1_2 a1_3 a1_4 A1_5 c1_5 l1_5 t427 _ (zD HR0 HB) HC0.out ?side3 (zD HR1_5 HB) HC1_5.out ?side6 A13.out).mono ?_);(case side3=>refine zj ?_;exact BK83.out);(case side6=>refine zj ?_;exact BK82.out);rintro e w18 ⟨rfl,hb⟩;replace BK83:=zw BK83 hb;replace BK82:=zw BK82 hb;replace HB:=zu hb;clear hb))
     go_ret
     exact ⟨ze,zv2 HB GE83 GE82⟩
    ·replace c12:=Bool.eq_false_iff.mpr c12;subst c12
     have H1:(some false)=some r:=by rw [if_neg (show ¬ (false=true) by decide)] at H;exact H
     clear H;have H:=H1;clear H1;obtain rfl:=Option.some.inj H;have hnb19:=NB82_83.out;have hnc19:=NB83_82.out;have hcz20_0:=zc0 BK82;have hcz20_1:=zc1 BK82;have hcz20_2:=zc2 BK82;have hcz20_3:=zc3 BK82;have hcz20_4:w5.cell? ⟨gb82,4,none⟩=some (.int .i64 a1_4):=zc4 BK82;have hcz20_5:w5.cell? ⟨gb82,5,none⟩=some (.slice A1_5 l1_5.length c1_5):=zc5 BK82;have hfz20_0:=zf BK82
     go_wp2_with (first|(go_at_call 79;(with_reducible refine (shared_right_1_v1.calls k a1_3 0 gb83 A0 c0 l0 gb82 a1_0 a1_1 a1_2 a1_3 a1_4 A1_5 c1_5 l1_5 false _ (zD HR0 HB) HC0.out ?side3 (zD HR1_5 HB) HC1_5.out ?side6 A11.out).mono ?_);(case side3=>refine zj ?_;exact BK83.out);(case side6=>refine zj ?_;exact BK82.out);rintro e w21 ⟨rfl,hb⟩;replace BK83:=zw BK83 hb;replace BK82:=zw BK82 hb;replace HB:=zu hb;clear hb))
     go_ret
     exact ⟨ze,zv2 HB GE83 GE82⟩
   ·have c10b2:¬ (l1_5=[]):=fun h_=>c10 (by rw [h_];rfl)
    obtain rfl:=Option.some.inj H;have hnb22:=NB82_83.out;have hnc22:=NB83_82.out;have hcz23_0:=zc0 BK82;have hcz23_1:=zc1 BK82;have hcz23_2:=zc2 BK82;have hcz23_3:=zc3 BK82;have hcz23_4:w5.cell? ⟨gb82,4,none⟩=some (.int .i64 a1_4):=zc4 BK82;have hcz23_5:w5.cell? ⟨gb82,5,none⟩=some (.slice A1_5 l1_5.length c1_5):=zc5 BK82;have hfz23_0:=zf BK82
    go_wp2
    go_ret
    exact ⟨ze,zv2 HB GE83 GE82⟩
  ·obtain rfl:=Option.some.inj H;have hnb24:=NB82_83.out;have hnc24:=NB83_82.out;have hcz25_0:=zc0 BK82;have hcz25_1:=zc1 BK82;have hcz25_2:=zc2 BK82;have hcz25_3:=zc3 BK82;have hcz25_4:w5.cell? ⟨gb82,4,none⟩=some (.int .i64 a1_4):=zc4 BK82;have hcz25_5:w5.cell? ⟨gb82,5,none⟩=some (.slice A1_5 l1_5.length c1_5):=zc5 BK82;have hfz25_0:=zf BK82
   go_wp2
   go_ret
   exact ⟨ze,zv2 HB GE83 GE82⟩
 ·(first|rw [c8b0]|(simp only [i64_w,i32_w];rw [c8b0])|skip)
  (try rw [c8b1])
  rcases ife H with ⟨c26b0,c26b1,H⟩|⟨c26,c26b0,c26b1,H⟩
  ·obtain ⟨t96,t429,A27,H⟩:=zO H
   dsimp only at H
   have HC28:=zA H;clear H;have hnb29:=NB83_82.out;have hnc29:=NB82_83.out;have hcz30_0:=zc0 BK83;have hfz30_0:=zf BK83 0;have hcz31_0:=zc0 BK82;have hcz31_1:=zc1 BK82;have hcz31_2:=zc2 BK82;have hcz31_3:=zc3 BK82;have hcz31_4:w5.cell? ⟨gb82,4,none⟩=some (.int .i64 a1_4):=zc4 BK82;have hcz31_5:w5.cell? ⟨gb82,5,none⟩=some (.slice A1_5 l1_5.length c1_5):=zc5 BK82;have hfz31_0:=zf BK82
   go_upto_region 8 with (first|((with_reducible refine gate_callee (f:=81) rfl ?_);refine zgo 45 Tryz.func81 #[.slice A0 l0.length c0,.int .i64 a1_0,.int .i64 (wrap64 (2 - a1_1))] ?_;(with_reducible refine (solve_Given.calls k _ _ l0 a1_0 (wrap64 (2 - a1_1)) t96 t429 _ (zD HR0 HB) HC0.out A27.out).mono ?_);rintro e w32 ⟨v430,rfl,ho0,hb⟩;refine ⟨_,rfl,?_⟩;have HO98:=zA (Kd.S_lower ho0 (below_size zB));replace BK83:=zw BK83 hb;replace BK82:=zw BK82 hb;replace HB:=zu hb;clear hb;(try clear ho0)))
   (try simp only [Act.put,zi,zs,zt]);have H:=HC28.out;clear HC28
   rcases ife H with ⟨c33b0,c33b1,H⟩|⟨c33,c33b0,c33b1,H⟩
   ·(first|rw [c33b0]|(simp only [i64_w,i32_w];rw [c33b0])|skip)
    (try rw [c33b1])
    rcases ife H with ⟨c34b0,c34b1,H⟩|⟨c34,c34b0,c34b1,H⟩
    ·rcases ife H with ⟨c35b0,c35b1,H⟩|⟨c35,c35b0,c35b1,H⟩
     ·obtain ⟨t432,A36,H⟩:=zo H
      by_cases c37:t432=true
      ·subst c37
       have H1:((solve_Check.f k t96 l1_5).bind fun t433=>(some t433))=some r:=by rw [if_pos rfl] at H;exact H
       clear H;have H:=H1;clear H1;obtain ⟨t433,A38,H⟩:=zo H;obtain rfl:=Option.some.inj H;have hnb39:=NB82_83.out;have hnc39:=NB83_82.out;have hcz40_0:=zc0 BK82;have hcz40_1:=zc1 BK82;have hcz40_2:=zc2 BK82;have hcz40_3:=zc3 BK82;have hcz40_4:w32.cell? ⟨gb82,4,none⟩=some (.int .i64 a1_4):=zc4 BK82;have hcz40_5:w32.cell? ⟨gb82,5,none⟩=some (.slice A1_5 l1_5.length c1_5):=zc5 BK82;have hfz40_0:=zf BK82;have hcz41_0:=zc0 BK83;have hfz41_0:=zf BK83 0
       go_wp2_with (first|(go_at_call 80;(with_reducible refine (solve_Holds.calls k _ _ l0 a1_2 true _ (zD HR0 HB) HC0.out A36.out).mono ?_);rintro e w42 ⟨rfl,hb⟩;replace HO98:=zA (Kd.S_below (zS HO98) hb);replace BK83:=zw BK83 hb;replace BK82:=zw BK82 hb;replace HB:=zu hb;clear hb;have hcz43_0:=zc0 BK82;have hcz43_1:=zc1 BK82;have hcz43_2:=zc2 BK82;have hcz43_3:=zc3 BK82;have hcz43_4:w42.cell? ⟨gb82,4,none⟩=some (.int .i64 a1_4):=zc4 BK82;have hcz43_5:w42.cell? ⟨gb82,5,none⟩=some (.slice A1_5 l1_5.length c1_5):=zc5 BK82;have hfz43_0:=zf BK82;obtain ⟨Ao44,co44,eo44⟩:=Kd.S_slice HO98.out;subst eo44)|(go_at_call 82;(with_reducible refine (solve_Check.calls k _ _ t96 _ _ l1_5 t433 _ ?side1 ?side2 (zD HR1_5 HB) HC1_5.out A38.out).mono ?_);(case side1=>exact zC (Kd.S_reads' HO98.out).2.2);(case side2=>exact (Kd.S_reads' HO98.out).2.1);rintro e w45 ⟨rfl,hb⟩;replace HO98:=zA (Kd.S_below (zS HO98) hb);replace BK83:=zw BK83 hb;replace BK82:=zw BK82 hb;replace HB:=zu hb;clear hb))
       go_ret
       exact ⟨ze,zv2 HB GE83 GE82⟩
      ·replace c37:=Bool.eq_false_iff.mpr c37;subst c37
       have H1:(some false)=some r:=by rw [if_neg (show ¬ (false=true) by decide)] at H;exact H
       clear H;have H:=H1;clear H1;obtain rfl:=Option.some.inj H;have hnb46:=NB82_83.out;have hnc46:=NB83_82.out;have hcz47_0:=zc0 BK82;have hcz47_1:=zc1 BK82;have hcz47_2:=zc2 BK82;have hcz47_3:=zc3 BK82;have hcz47_4:w32.cell? ⟨gb82,4,none⟩=some (.int .i64 a1_4):=zc4 BK82;have hcz47_5:w32.cell? ⟨gb82,5,none⟩=some (.slice A1_5 l1_5.length c1_5):=zc5 BK82;have hfz47_0:=zf BK82;have hcz48_0:=zc0 BK83;have hfz48_0:=zf BK83 0
       go_wp2_with (first|(go_at_call 80;(with_reducible refine (solve_Holds.calls k _ _ l0 a1_2 false _ (zD HR0 HB) HC0.out A36.out).mono ?_);rintro e w49 ⟨rfl,hb⟩;replace HO98:=zA (Kd.S_below (zS HO98) hb);replace BK83:=zw BK83 hb;replace BK82:=zw BK82 hb;replace HB:=zu hb;clear hb))
       go_ret
       exact ⟨ze,zv2 HB GE83 GE82⟩
     ·obtain rfl:=Option.some.inj H;have hnb50:=NB82_83.out;have hnc50:=NB83_82.out;have hcz51_0:=zc0 BK82;have hcz51_1:=zc1 BK82;have hcz51_2:=zc2 BK82;have hcz51_3:=zc3 BK82;have hcz51_4:w32.cell? ⟨gb82,4,none⟩=some (.int .i64 a1_4):=zc4 BK82;have hcz51_5:w32.cell? ⟨gb82,5,none⟩=some (.slice A1_5 l1_5.length c1_5):=zc5 BK82;have hfz51_0:=zf BK82
      go_wp2
      go_ret
      exact ⟨ze,zv2 HB GE83 GE82⟩
    ·obtain rfl:=Option.some.inj H;have hnb52:=NB82_83.out;have hnc52:=NB83_82.out;have hcz53_0:=zc0 BK82;have hcz53_1:=zc1 BK82;have hcz53_2:=zc2 BK82;have hcz53_3:=zc3 BK82;have hcz53_4:w32.cell? ⟨gb82,4,none⟩=some (.int .i64 a1_4):=zc4 BK82;have hcz53_5:w32.cell? ⟨gb82,5,none⟩=some (.slice A1_5 l1_5.length c1_5):=zc5 BK82;have hfz53_0:=zf BK82
     go_wp2
     go_ret
     exact ⟨ze,zv2 HB GE83 GE82⟩
   ·(first|rw [c33b0]|(simp only [i64_w,i32_w];rw [c33b0])|skip)
    (try rw [c33b1]);obtain rfl:=Option.some.inj H
    go_wp2
    go_ret
    exact ⟨ze,zv2 HB GE83 GE82⟩
  ·rcases ife H with ⟨c54b0,c54b1,H⟩|⟨c54,c54b0,c54b1,H⟩
   ·obtain ⟨t97,t435,A55,H⟩:=zO H
    dsimp only at H
    have HC56:=zA H;clear H;have hnb57:=NB83_82.out;have hnc57:=NB82_83.out;have hcz58_0:=zc0 BK83;have hfz58_0:=zf BK83 0;have hcz59_0:=zc0 BK82;have hcz59_1:=zc1 BK82;have hcz59_2:=zc2 BK82;have hcz59_3:=zc3 BK82;have hcz59_4:w5.cell? ⟨gb82,4,none⟩=some (.int .i64 a1_4):=zc4 BK82;have hcz59_5:w5.cell? ⟨gb82,5,none⟩=some (.slice A1_5 l1_5.length c1_5):=zc5 BK82;have hfz59_0:=zf BK82
    go_upto_region 8 with (first|((with_reducible refine gate_callee (f:=81) rfl ?_);refine zgo 45 Tryz.func81 #[.slice A0 l0.length c0,.int .i64 a1_0,.int .i64 (wrap64 (2 - a1_1))] ?_;(with_reducible refine (solve_Given.calls k _ _ l0 a1_0 (wrap64 (2 - a1_1)) t97 t435 _ (zD HR0 HB) HC0.out A55.out).mono ?_);rintro e w60 ⟨v436,rfl,ho0,hb⟩;refine ⟨_,rfl,?_⟩;have HO99:=zA (Kd.S_lower ho0 (below_size zB));replace BK83:=zw BK83 hb;replace BK82:=zw BK82 hb;replace HB:=zu hb;clear hb;(try clear ho0)))
    (try simp only [Act.put,zi,zs,zt]);have H:=HC56.out;clear HC56
    rcases ife H with ⟨c61b0,c61b1,H⟩|⟨c61,c61b0,c61b1,H⟩
    ·(first|rw [c61b0]|(simp only [i64_w,i32_w];rw [c61b0])|skip)
     (try rw [c61b1])
     rcases ife H with ⟨c62b0,c62b1,H⟩|⟨c62,c62b0,c62b1,H⟩
     ·rcases ife H with ⟨c63b0,c63b1,H⟩|⟨c63,c63b0,c63b1,H⟩
      ·obtain ⟨t438,A64,H⟩:=zo H
       by_cases c65:t438=true
       ·subst c65
        have H1:((solve_Check.f k t97 l1_5).bind fun t439=>(some t439))=some r:=by rw [if_pos rfl] at H;exact H
        clear H;have H:=H1;clear H1;obtain ⟨t439,A66,H⟩:=zo H;obtain rfl:=Option.some.inj H;have hnb67:=NB82_83.out;have hnc67:=NB83_82.out;have hcz68_0:=zc0 BK82;have hcz68_1:=zc1 BK82;have hcz68_2:=zc2 BK82;have hcz68_3:=zc3 BK82;have hcz68_4:w60.cell? ⟨gb82,4,none⟩=some (.int .i64 a1_4):=zc4 BK82;have hcz68_5:w60.cell? ⟨gb82,5,none⟩=some (.slice A1_5 l1_5.length c1_5):=zc5 BK82;have hfz68_0:=zf BK82;have hcz69_0:=zc0 BK83;have hfz69_0:=zf BK83 0
        go_wp2_with (first|(go_at_call 80;(with_reducible refine (solve_Holds.calls k _ _ l0 a1_2 true _ (zD HR0 HB) HC0.out A64.out).mono ?_);rintro e w70 ⟨rfl,hb⟩;replace HO99:=zA (Kd.S_below (zS HO99) hb);replace BK83:=zw BK83 hb;replace BK82:=zw BK82 hb;replace HB:=zu hb;clear hb;have hcz71_0:=zc0 BK82;have hcz71_1:=zc1 BK82;have hcz71_2:=zc2 BK82;have hcz71_3:=zc3 BK82;have hcz71_4:w70.cell? ⟨gb82,4,none⟩=some (.int .i64 a1_4):=zc4 BK82;have hcz71_5:w70.cell? ⟨gb82,5,none⟩=some (.slice A1_5 l1_5.length c1_5):=zc5 BK82;have hfz71_0:=zf BK82;obtain ⟨Ao72,co72,eo72⟩:=Kd.S_slice HO99.out;subst eo72)|(go_at_call 82;(with_reducible refine (solve_Check.calls k _ _ t97 _ _ l1_5 t439 _ ?side1 ?side2 (zD HR1_5 HB) HC1_5.out A66.out).mono ?_);(case side1=>exact zC (Kd.S_reads' HO99.out).2.2);(case side2=>exact (Kd.S_reads' HO99.out).2.1);rintro e w73 ⟨rfl,hb⟩;replace HO99:=zA (Kd.S_below (zS HO99) hb);replace BK83:=zw BK83 hb;replace BK82:=zw BK82 hb;replace HB:=zu hb;clear hb))
        go_ret
        exact ⟨ze,zv2 HB GE83 GE82⟩
       ·replace c65:=Bool.eq_false_iff.mpr c65;subst c65
        have H1:(some false)=some r:=by rw [if_neg (show ¬ (false=true) by decide)] at H;exact H
        clear H;have H:=H1;clear H1;obtain rfl:=Option.some.inj H;have hnb74:=NB82_83.out;have hnc74:=NB83_82.out;have hcz75_0:=zc0 BK82;have hcz75_1:=zc1 BK82;have hcz75_2:=zc2 BK82;have hcz75_3:=zc3 BK82;have hcz75_4:w60.cell? ⟨gb82,4,none⟩=some (.int .i64 a1_4):=zc4 BK82;have hcz75_5:w60.cell? ⟨gb82,5,none⟩=some (.slice A1_5 l1_5.length c1_5):=zc5 BK82;have hfz75_0:=zf BK82;have hcz76_0:=zc0 BK83;have hfz76_0:=zf BK83 0
        go_wp2_with (first|(go_at_call 80;(with_reducible refine (solve_Holds.calls k _ _ l0 a1_2 false _ (zD HR0 HB) HC0.out A64.out).mono ?_);rintro e w77 ⟨rfl,hb⟩;replace HO99:=zA (Kd.S_below (zS HO99) hb);replace BK83:=zw BK83 hb;replace BK82:=zw BK82 hb;replace HB:=zu hb;clear hb))
        go_ret
        exact ⟨ze,zv2 HB GE83 GE82⟩
      ·obtain rfl:=Option.some.inj H;have hnb78:=NB82_83.out;have hnc78:=NB83_82.out;have hcz79_0:=zc0 BK82;have hcz79_1:=zc1 BK82;have hcz79_2:=zc2 BK82;have hcz79_3:=zc3 BK82;have hcz79_4:w60.cell? ⟨gb82,4,none⟩=some (.int .i64 a1_4):=zc4 BK82;have hcz79_5:w60.cell? ⟨gb82,5,none⟩=some (.slice A1_5 l1_5.length c1_5):=zc5 BK82;have hfz79_0:=zf BK82
       go_wp2
       go_ret
       exact ⟨ze,zv2 HB GE83 GE82⟩
     ·obtain rfl:=Option.some.inj H;have hnb80:=NB82_83.out;have hnc80:=NB83_82.out;have hcz81_0:=zc0 BK82;have hcz81_1:=zc1 BK82;have hcz81_2:=zc2 BK82;have hcz81_3:=zc3 BK82;have hcz81_4:w60.cell? ⟨gb82,4,none⟩=some (.int .i64 a1_4):=zc4 BK82;have hcz81_5:w60.cell? ⟨gb82,5,none⟩=some (.slice A1_5 l1_5.length c1_5):=zc5 BK82;have hfz81_0:=zf BK82
      go_wp2
      go_ret
      exact ⟨ze,zv2 HB GE83 GE82⟩
    ·(first|rw [c61b0]|(simp only [i64_w,i32_w];rw [c61b0])|skip)
     (try rw [c61b1]);obtain rfl:=Option.some.inj H
     go_wp2
     go_ret
     exact ⟨ze,zv2 HB GE83 GE82⟩
   ·obtain rfl:=Option.some.inj H
    go_wp2
    go_ret
    exact ⟨ze,zv2 HB GE83 GE82⟩
def shared_Check_1_v1.f (k:Nat) (a0_0:Int) (a0_1:Int) (a0_2:Int) (a0_3:Int) (a0_4:Int) (l0_5:List (S103)) (l1_0:List (S63)):Option (Bool):=(shared_right.f k l1_0 a0_0 a0_1 a0_2 a0_3 a0_4 l0_5).bind fun t442=>(some (!t442))
set_option maxHeartbeats 8000000 in
set_option maxRecDepth 100000 in
theorem shared_Check_1_v1.calls (k:Nat) (a0_0:Int) (a0_1:Int) (a0_2:Int) (a0_3:Int) (a0_4:Int) (A0_5:Option Addr) (c0_5:Nat) (l0_5:List (S103)) (gp1_0:Nat) (A1_0:Option Addr) (c1_0:Nat) (l1_0:List (S63)) (r:Bool) (w:World) (hr0_5:Kd.C k103 w A0_5 l0_5.length l0_5) (hc0_5:l0_5.length≤c0_5) (hr1_0:Kd.C k63 w A1_0 l1_0.length l1_0) (hc1_0:l1_0.length≤c1_0) (hb_gp1_0:w.heap[gp1_0]?=some (.cells #[.slice A1_0 l1_0.length c1_0] 22 (0,0))) (h:shared_Check_1_v1.f k a0_0 a0_1 a0_2 a0_3 a0_4 l0_5 l1_0=some r) :
  Calls Tryz.prog 46 #[.agg #[.int .i64 a0_0,.int .i64 a0_1,.int .i64 a0_2,.int .i64 a0_3,.int .i64 a0_4,.slice A0_5 l0_5.length c0_5],.pointer (some ⟨gp1_0,0,none⟩)] w fun e w'=>e=.returned (.bool r)∧Below w.heap.size w w':=by
 have HR0_5:=zA hr0_5;have HC0_5:=zA hc0_5;clear hr0_5 hc0_5;have HR1_0:=zA hr1_0;have HC1_0:=zA hc1_0;clear hr1_0 hc1_0;have BK93:=zA hb_gp1_0;clear hb_gp1_0;have HB:=zA (Below.refl w.heap.size w);have H:((shared_right.f k l1_0 a0_0 a0_1 a0_2 a0_3 a0_4 l0_5).bind fun t442=>(some (!t442)))=some r:=h;clear h;obtain ⟨t442,A3,H⟩:=zo H;obtain rfl:=Option.some.inj H
 go_enter Tryz.func46,Tryz.ntmps46
 go_wp2_with (first|((with_reducible refine gd 2 rfl ?_);refine zx #[.int .i64 a0_0,.int .i64 a0_1,.int .i64 a0_2,.int .i64 a0_3,.int .i64 a0_4,.slice A0_5 l0_5.length c0_5] 42 ?_;intro gb89 hg w4 BK89 hb GW89 HB1;have GE89:=GW89;have NB93_89:=zL hg BK93;have NB89_93:=zLs NB93_89;replace BK93:=zw BK93 hb;clear HB hb hg;have HB:=HB1;clear HB1;have hnb5:=NB93_89.out;have hnc5:=NB89_93.out;have hcz6_0:w4.cell? ⟨gp1_0,0,none⟩=some (.slice A1_0 l1_0.length c1_0):=zc0 BK93;have hfz6_0:=zf BK93 0;have hcz7_0:=zc0 BK89;have hcz7_1:=zc1 BK89;have hcz7_2:=zc2 BK89;have hcz7_3:=zc3 BK89;have hcz7_4:w4.cell? ⟨gb89,4,none⟩=some (.int .i64 a0_4):=zc4 BK89;have hcz7_5:w4.cell? ⟨gb89,5,none⟩=some (.slice A0_5 l0_5.length c0_5):=zc5 BK89;have hfz7_0:=zf BK89)|((with_reducible refine gate_callee (f:=47) rfl ?_);refine zgo 6 Tryz.func47 #[.slice A1_0 l1_0.length c1_0,.agg #[.int .i64 a0_0,.int .i64 a0_1,.int .i64 a0_2,.int .i64 a0_3,.int .i64 a0_4,.slice A0_5 l0_5.length c0_5]] ?_;(with_reducible refine (shared_right.calls k _ _ l1_0 a0_0 a0_1 a0_2 a0_3 a0_4 _ _ l0_5 t442 _ (zD HR1_0 HB) HC1_0.out (zD HR0_5 HB) HC0_5.out A3.out).mono ?_);rintro e w8 ⟨rfl,hb⟩;refine ⟨_,rfl,?_⟩;replace BK93:=zw BK93 hb;replace BK89:=zw BK89 hb;replace HB:=zu hb;clear hb))
 go_ret
 exact ⟨ze,zv1 HB GE89⟩
def api_Evidence_shared_Check_1_v1.l0:Nat→List (S42)→Int→Int→List (S63)→Option (Int)
 | 0,_,_,_,_=>none
 | k+1,x0,x7,x8,x115=>if x8<x7 then (if 0≤x8 then (if x8<(x0.length:Int) then ((shared_Check_1_v1.f k ((rd_T42 x0 x8).f0) ((rd_T42 x0 x8).f1) ((rd_T42 x0 x8).f2) ((rd_T42 x0 x8).f3) ((rd_T42 x0 x8).f4) ((rd_T42 x0 x8).f5.f0) x115).bind fun t445=>(if t445=true then (some x8) else (api_Evidence_shared_Check_1_v1.l0 k x0 x7 (wrap64 (x8+1)) x115))) else (none)) else (none)) else (some (-1))
def api_Evidence_shared_Check_1_v1.f (k:Nat) (l0:List (S42)) (l1_0:List (S63)):Option (Int):=api_Evidence_shared_Check_1_v1.l0 k l0 (l0.length:Int) 0 l1_0
set_option maxHeartbeats 8000000 in
set_option maxRecDepth 100000 in
theorem api_Evidence_shared_Check_1_v1.calls (k:Nat) (A0:Option Addr) (c0:Nat) (l0:List (S42)) (gp1_0:Nat) (A1_0:Option Addr) (c1_0:Nat) (l1_0:List (S63)) (r:Int) (w:World) (hr0:Kd.C k42 w A0 l0.length l0) (hc0:l0.length≤c0) (hr1_0:Kd.C k63 w A1_0 l1_0.length l1_0) (hc1_0:l1_0.length≤c1_0) (hb_gp1_0:w.heap[gp1_0]?=some (.cells #[.slice A1_0 l1_0.length c1_0] 22 (0,0))) (h:api_Evidence_shared_Check_1_v1.f k l0 l1_0=some r) :
  Calls Tryz.prog 78 #[.slice A0 l0.length c0,.func (.func 46) #[] #[.pointer (some ⟨gp1_0,0,none⟩)]] w fun e w'=>e=.returned (.int .i64 r)∧Below w.heap.size w w':=by
 have HR0:=zA hr0;have HC0:=zA hc0;clear hr0 hc0;have HR1_0:=zA hr1_0;have HC1_0:=zA hc1_0;clear hr1_0 hc1_0;have BK443:=zA hb_gp1_0;clear hb_gp1_0;have HB:=zA (Below.refl w.heap.size w);have H:(api_Evidence_shared_Check_1_v1.l0 k l0 (l0.length:Int) 0 l1_0)=some r:=h;clear h;have H':=zA H;clear H
 go_enter Tryz.func78,Tryz.ntmps78
 go_wp2
 go_loopg [8] k (fun kq v8 w'=>∃ (x8_1:Int),v8=.int .i64 x8_1∧Aside0 (api_Evidence_shared_Check_1_v1.l0 kq l0 (l0.length:Int) x8_1 l1_0=some r)∧Aside0 (kq≤k)∧Aside0 (w'.heap[gp1_0]?=some (.cells #[(.slice A1_0 l1_0.length c1_0)] 22 (0,0)))∧Aside0 (Below w.heap.size w w'))
 case atStart=>exact ⟨(0),zT,H',⟨Nat.le_refl _⟩,⟨by refine zj ?_;exact BK443.out⟩,⟨zv0 HB⟩⟩
 case round=>
  clear H';obtain ⟨x8_1,rfl,HA,HK1,BK443,HB⟩:=hrel
  cases gk with
  | zero=>exact absurd HA.out (by simp [api_Evidence_shared_Check_1_v1.l0])
  | succ k1=>
   have H:=HA.out;clear HA;simp only [api_Evidence_shared_Check_1_v1.l0] at H
   rcases ifd H with ⟨c3b0,H⟩|⟨c3b0,H⟩
   ·obtain ⟨c4b0,H⟩:=ifd1 H;obtain ⟨c5b0,H⟩:=ifd1 H;obtain ⟨t445,A6,H⟩:=zo H;have HC7:=zA H;clear H;obtain ⟨p87,q87,ad87,A87_5,c87_5,e87,hx87_0,hx87_1,hx87_2,hx87_3,hx87_4,hx87_5,hl87_5,hi87_5⟩:=zp (at_T42 HR0.out x8_1)
    cases e87
    replace hx87_0:=zd HB hx87_0;replace hx87_1:=zd HB hx87_1;replace hx87_2:=zd HB hx87_2;replace hx87_3:=zd HB hx87_3;replace hx87_4:=zd HB hx87_4;replace hx87_5:=zd HB hx87_5;have HR87_5:=zA hi87_5;have HC87_5:=zA hl87_5;clear hi87_5 hl87_5;replace p87:=eq_true p87;replace q87:=eq_true q87
    go_upto_if 16 with (first|(go_at_call 46;(with_reducible refine (shared_Check_1_v1.calls k1 ((rd_T42 l0 x8_1).f0) ((rd_T42 l0 x8_1).f1) ((rd_T42 l0 x8_1).f2) ((rd_T42 l0 x8_1).f3) ((rd_T42 l0 x8_1).f4) _ _ ((rd_T42 l0 x8_1).f5.f0) gp1_0 A1_0 c1_0 l1_0 t445 _ (zD HR87_5 HB) HC87_5.out (zD HR1_0 HB) HC1_0.out ?side5 A6.out).mono ?_);(case side5=>refine zj ?_;exact BK443.out);rintro e w8 ⟨rfl,hb⟩;replace BK443:=zw BK443 hb;replace HB:=zu hb;clear hb))
    (try simp only [Act.put,zi,zs,zt]);have H:=HC7.out;clear HC7
    by_cases c9:t445=true
    ·subst c9
     have H1:(some x8_1)=some r:=by rw [if_pos rfl] at H;exact H
     clear H;have H:=H1;clear H1;obtain rfl:=Option.some.inj H
     go_wp2
     go_ret
     exact ⟨ze,zv0 HB⟩
    ·replace c9:=Bool.eq_false_iff.mpr c9;subst c9
     have H1:(api_Evidence_shared_Check_1_v1.l0 k1 l0 (l0.length:Int) (wrap64 (x8_1+1)) l1_0)=some r:=by rw [if_neg (show ¬ (false=true) by decide)] at H;exact H
     clear H;have H:=H1;clear H1;have H':=zA H;clear H
     go_wp2
     go_roundg k1
     case measure=>have:=HK1.out;omega
     case rel=>exact ⟨(wrap64 (x8_1+1)),zT,H',⟨by have:=HK1.out;omega⟩,⟨by refine zj ?_;exact BK443.out⟩,⟨zv0 HB⟩⟩
   ·obtain rfl:=Option.some.inj H
    go_wp2
    go_ret
    exact ⟨ze,zv0 HB⟩
def api_Evidence_shared_Check_1.f (k:Nat) (l0:List (S42)) (l1_0:List (S63)):Option (Bool):=(api_Evidence_shared_Check_1_v1.f k l0 l1_0).bind fun t447=>(some (decide (t447≥0)))
set_option maxHeartbeats 8000000 in
set_option maxRecDepth 100000 in
theorem api_Evidence_shared_Check_1.calls (k:Nat) (A0:Option Addr) (c0:Nat) (l0:List (S42)) (gp1_0:Nat) (A1_0:Option Addr) (c1_0:Nat) (l1_0:List (S63)) (r:Bool) (w:World) (hr0:Kd.C k42 w A0 l0.length l0) (hc0:l0.length≤c0) (hr1_0:Kd.C k63 w A1_0 l1_0.length l1_0) (hc1_0:l1_0.length≤c1_0) (hb_gp1_0:w.heap[gp1_0]?=some (.cells #[.slice A1_0 l1_0.length c1_0] 22 (0,0))) (h:api_Evidence_shared_Check_1.f k l0 l1_0=some r) :
  Calls Tryz.prog 45 #[.slice A0 l0.length c0,.func (.func 46) #[] #[.pointer (some ⟨gp1_0,0,none⟩)]] w fun e w'=>e=.returned (.bool r)∧Below w.heap.size w w':=by
 have HR0:=zA hr0;have HC0:=zA hc0;clear hr0 hc0;have HR1_0:=zA hr1_0;have HC1_0:=zA hc1_0;clear hr1_0 hc1_0;have BK446:=zA hb_gp1_0;clear hb_gp1_0;have HB:=zA (Below.refl w.heap.size w);have H:((api_Evidence_shared_Check_1_v1.f k l0 l1_0).bind fun t447=>(some (decide (t447≥0))))=some r:=h;clear h;obtain ⟨t447,A3,H⟩:=zo H;obtain rfl:=Option.some.inj H
 go_enter Tryz.func45,Tryz.ntmps45
 go_wp2_with (first|((with_reducible refine gate_callee (f:=78) rfl ?_);refine zgo 7 Tryz.func78 #[.slice A0 l0.length c0,.func (.func 46) #[] #[.pointer (some ⟨gp1_0,0,none⟩)]] ?_;(with_reducible refine (api_Evidence_shared_Check_1_v1.calls k _ _ l0 gp1_0 A1_0 c1_0 l1_0 t447 _ ?side1 HC0.out ?side3 HC1_0.out ?side5 A3.out).mono ?_);(case side1=>repeat (first|exact HR0.out|(with_reducible refine Kd.C_alloc ?_ _)|(with_reducible refine Kd.C_drewN ?_ _)|(with_reducible refine Kd.C_drew ?_)));(case side3=>repeat (first|exact HR1_0.out|(with_reducible refine Kd.C_alloc ?_ _)|(with_reducible refine Kd.C_drewN ?_ _)|(with_reducible refine Kd.C_drew ?_)));(case side5=>refine zj ?_;exact BK446.out);rintro e w4 ⟨rfl,hb⟩;refine ⟨_,rfl,?_⟩;replace BK446:=zw BK446 hb;replace HB:=zu hb;clear hb))
 go_ret
 exact ⟨ze,zv0 HB⟩
def shared_Check.l0:Nat→List (S42)→List Int→List (S42)→Int→Int→List (S63)→Option (Bool)
 | 0,_,_,_,_,_,_=>none
 | k+1,x1,x5,x13,x14,x15,x100=>if x15<x14 then (if 0≤x15 then (if x15<(x13.length:Int) then (if x5.length<17592186044416 then (shared_Check.l0 k x1 (x5++[(rd_T42 x13 x15).f0]) x13 x14 (wrap64 (x15+1)) x100) else (none)) else (none)) else (none)) else ((solve_First.f k x100).bind fun bt455=>(if bt455.2=0 then ((solve_Vars.f k x100).bind fun t457=>((slices_Equal_int_int.f k x5 t457).bind fun t460=>(if t460=true then ((api_Evidence_shared_Check_1.f k x1 x100).bind fun t461=>(some (!t461))) else (some false)))) else (some false)))
def shared_Check.f (k:Nat) (l0:List (S63)) (l1:List (S42)):Option (Bool):=(shared_given.f k l0).bind fun t449=>(if t449=0 then (shared_Check.l0 k l1 ([]:List Int) l1 (l1.length:Int) 0 l0) else (some false))
set_option maxHeartbeats 8000000 in
set_option maxRecDepth 100000 in
theorem shared_Check.calls (k:Nat) (A0:Option Addr) (c0:Nat) (l0:List (S63)) (A1:Option Addr) (c1:Nat) (l1:List (S42)) (r:Bool) (w:World) (hr0:Kd.C k63 w A0 l0.length l0) (hc0:l0.length≤c0) (hr1:Kd.C k42 w A1 l1.length l1) (hc1:l1.length≤c1) (h:shared_Check.f k l0 l1=some r) :
  Calls Tryz.prog 13 #[.slice A0 l0.length c0,.slice A1 l1.length c1] w fun e w'=>e=.returned (.bool r)∧Below w.heap.size w w':=by
 have HR0:=zA hr0;have HC0:=zA hc0;clear hr0 hc0;have HR1:=zA hr1;have HC1:=zA hc1;clear hr1 hc1;have HB:=zA (Below.refl w.heap.size w);have H:((shared_given.f k l0).bind fun t449=>(if t449=0 then (shared_Check.l0 k l1 ([]:List Int) l1 (l1.length:Int) 0 l0) else (some false)))=some r:=h;clear h;obtain ⟨t449,A3,H⟩:=zo H;have HC4:=zA H;clear H
 go_enter Tryz.func13,Tryz.ntmps13
 go_upto_if 12 with (first|((with_reducible refine gd 2 rfl ?_);refine zx #[.slice A0 l0.length c0] 22 ?_;intro gb84 hg w5 BK84 hb GW84 HB1;have GE84:=GW84;clear HB hb hg;have HB:=HB1;clear HB1;have hcz6_0:=zc0 BK84;have hfz6_0:=zf BK84 0)|((with_reducible refine gate_callee (f:=43) rfl ?_);refine zgo 11 Tryz.func43 #[.slice A0 l0.length c0] ?_;(with_reducible refine (shared_given.calls k _ _ l0 t449 _ (zD HR0 HB) HC0.out A3.out).mono ?_);rintro e w7 ⟨rfl,hb⟩;refine ⟨_,rfl,?_⟩;replace BK84:=zw BK84 hb;replace HB:=zu hb;clear hb))
 (try simp only [Act.put,zi,zs,zt]);have H:=HC4.out;clear HC4
 rcases ife H with ⟨c8b0,c8b1,H⟩|⟨c8,c8b0,c8b1,H⟩
 ·(first|rw [c8b0]|(simp only [i64_w,i32_w];rw [c8b0])|skip)
  (try rw [c8b1]);have H':=zA H;clear H
  go_wp2
  go_loopg [5,15] k (fun kq v5 v15 w'=>∃ (x5_1:List Int) (x15_1:Int),v15=.int .i64 x15_1∧Aside0 (shared_Check.l0 kq l1 x5_1 l1 (l1.length:Int) x15_1 l0=some r)∧Aside0 (kq≤k)∧Aside0 (Kd.R (Kd.int .i64) 3 w' w.heap.size (fun _=>True) v5 x5_1)∧Aside0 (w'.heap[gb84]?=some (.cells #[(.slice A0 l0.length c0)] 22 (0,0)))∧Aside0 (Below w.heap.size w w'))
  case atStart=>exact ⟨(([]:List Int)),(0),zT,H',⟨Nat.le_refl _⟩,⟨by first|exact Kd.R_nil _ _ _ _ _|exact Kd.N_nil _ _ _ _ _|exact Kd.V_nil _ _ _ _ _|exact Kd.Q_nil _ _ _ _ _|exact Kd.S_nil _ _ _ _ _⟩,⟨by refine zj ?_;exact BK84.out⟩,⟨zv1 HB GE84⟩⟩
  case round=>
   clear H'
   try clear c8
   try clear c8b0
   try clear c8b1
   try clear hcz6_0
   try clear hfz6_0
   obtain ⟨x5_1,x15_1,rfl,HA,HK1,HO_5,BK84,HB⟩:=hrel
   cases gk with
   | zero=>exact absurd HA.out (by simp [shared_Check.l0])
   | succ k1=>
    have H:=HA.out;clear HA;simp only [shared_Check.l0] at H
    rcases ifd H with ⟨c9b0,H⟩|⟨c9b0,H⟩
    ·obtain ⟨c10b0,H⟩:=ifd1 H;obtain ⟨c11b0,H⟩:=ifd1 H;obtain ⟨c12,H⟩:=if1 H;have LMc12:=zA c12;clear c12
     first|(replace H:=zyb (x5_1++[(rd_T42 l1 x15_1).f0]) H;obtain ⟨y452,Ny452,H⟩:=H)|(obtain ⟨y452,hy452⟩:=zY (x5_1++[(rd_T42 l1 x15_1).f0]);(try rw (occs:=.pos [1]) [← hy452] at H);have Ny452:=zA hy452;clear hy452)
     have H':=zA H;clear H;obtain ⟨p86,q86,ad86,A86_5,c86_5,e86,hx86_0,hx86_1,hx86_2,hx86_3,hx86_4,hx86_5,hl86_5,hi86_5⟩:=zp (at_T42 HR1.out x15_1)
     cases e86
     replace hx86_0:=zd HB hx86_0;replace hx86_1:=zd HB hx86_1;replace hx86_2:=zd HB hx86_2;replace hx86_3:=zd HB hx86_3;replace hx86_4:=zd HB hx86_4;replace hx86_5:=zd HB hx86_5;have HR86_5:=zA hi86_5;have HC86_5:=zA hl86_5;clear hi86_5 hl86_5;replace p86:=eq_true p86;replace q86:=eq_true q86
     go_wp2_with (first|((with_reducible refine gd 7 rfl ?_);refine zx #[.int .i64 0,.int .i64 0,.int .i64 0,.int .i64 0,.int .i64 0,.slice none 0 0] 42 ?_;intro gb85 hg w13 BK85 hb GW85 HB1;have GE85:=GW85;have NB84_85:=zL hg BK84;have NB85_84:=zLs NB84_85;replace HO_5:=zA (Kd.R_below (zR HO_5) hb);replace BK84:=zw BK84 hb;clear HB hb hg;have HB:=HB1;clear HB1;have hnb14:=NB85_84.out;have hnc14:=NB84_85.out;have hcz15_0:=zc0 BK85;have hcz15_1:=zc1 BK85;have hcz15_2:=zc2 BK85;have hcz15_3:=zc3 BK85;have hcz15_4:w13.cell? ⟨gb85,4,none⟩=some (.int .i64 0):=zc4 BK85;have hcz15_5:w13.cell? ⟨gb85,5,none⟩=some (.slice none 0 0):=zc5 BK85;have hfz15_0:=zf BK85)|((with_reducible refine gate_builtin (b:=.append) (xs:=#[.tmp 19,.tmp 22]) rfl ?_);at_builtin;refine Kd.R_append (Kd.int .i64) (w0:=w) w.heap.size rfl (.tmp 19) (.tmp 22) 43 3 (.int .i64 0) 8 rfl Tryz.underlying43 info3 rfl (by decide) (by omega) u5 x5_1 ((rd_T42 l1 x15_1).f0) [.int .i64 ((rd_T42 l1 x15_1).f0)] (fun _=>True) (fun _=>False) rfl (by first|(go_simp;done)|(go_simp;rfl)) ?aP (fun _ hk=>hk.elim) ?aF ?aO ?aB ?aS ?aL ?_;(case aP=>exact rfl);(case aB=>exact zB);(case aF=>exact (fun _ _=>trivial));(case aO=>exact (by refine zr ?_;exact Kd.R_mono (Kd.R_far (p:=⟨gb85,5,none⟩) (Kd.R_far (p:=⟨gb85,4,none⟩) (Kd.R_far (p:=⟨gb85,3,none⟩) (Kd.R_far (p:=⟨gb85,2,none⟩) (Kd.R_far (p:=⟨gb85,1,none⟩) (Kd.R_far (p:=⟨gb85,0,none⟩) (Kd.R_types HO_5.out BK85.out (by decide)) (fun _ hk=>hk.2) (.int .i64 ((rd_T42 l1 x15_1).f0))) (fun _ hk=>hk.2) (.int .i64 ((rd_T42 l1 x15_1).f1))) (fun _ hk=>hk.2) (.int .i64 ((rd_T42 l1 x15_1).f2))) (fun _ hk=>hk.2) (.int .i64 ((rd_T42 l1 x15_1).f3))) (fun _ hk=>hk.2) (.int .i64 ((rd_T42 l1 x15_1).f4))) (fun _ hk=>hk.2) (.slice A86_5 ((rd_T42 l1 x15_1).f5.f0).length c86_5)) (fun _ hk=>trivial)));(case aS=>exact (below_size zB));(case aL=>have:=LMc12.out;omega);intro v453 w16 ho hb hg hat;rw [← Ny452.out] at ho;have HO454:=zA (ho);replace BK84:=zA (blk_grown (g:=gb84) (o:=.cells #[.slice A0 l0.length c0] 22 (0,0)) (by refine zj ?_;refine blk_far ?_ NB84_85.out _;refine zj ?_;refine blk_far ?_ NB84_85.out _;refine zj ?_;refine blk_far ?_ NB84_85.out _;refine zj ?_;refine blk_far ?_ NB84_85.out _;refine zj ?_;refine blk_far ?_ NB84_85.out _;refine zj ?_;refine blk_far ?_ NB84_85.out _;refine zj ?_;exact BK84.out) hg (Kd.R_ne HO_5.out BK84.out (by decide)));replace BK85:=zA (blk_grown (g:=gb85) (o:=.cells #[.int .i64 ((rd_T42 l1 x15_1).f0),.int .i64 ((rd_T42 l1 x15_1).f1),.int .i64 ((rd_T42 l1 x15_1).f2),.int .i64 ((rd_T42 l1 x15_1).f3),.int .i64 ((rd_T42 l1 x15_1).f4),.slice A86_5 ((rd_T42 l1 x15_1).f5.f0).length c86_5] 42 (0,0)) (by refine zj ?_;refine blk_put (cs:=#[.int .i64 ((rd_T42 l1 x15_1).f0),.int .i64 ((rd_T42 l1 x15_1).f1),.int .i64 ((rd_T42 l1 x15_1).f2),.int .i64 ((rd_T42 l1 x15_1).f3),.int .i64 ((rd_T42 l1 x15_1).f4),.slice none 0 0]) ?_ 5 _ rfl;refine zj ?_;refine blk_put (cs:=#[.int .i64 ((rd_T42 l1 x15_1).f0),.int .i64 ((rd_T42 l1 x15_1).f1),.int .i64 ((rd_T42 l1 x15_1).f2),.int .i64 ((rd_T42 l1 x15_1).f3),.int .i64 0,.slice none 0 0]) ?_ 4 _ rfl;refine zj ?_;refine blk_put (cs:=#[.int .i64 ((rd_T42 l1 x15_1).f0),.int .i64 ((rd_T42 l1 x15_1).f1),.int .i64 ((rd_T42 l1 x15_1).f2),.int .i64 0,.int .i64 0,.slice none 0 0]) ?_ 3 _ rfl;refine zj ?_;refine blk_put (cs:=#[.int .i64 ((rd_T42 l1 x15_1).f0),.int .i64 ((rd_T42 l1 x15_1).f1),.int .i64 0,.int .i64 0,.int .i64 0,.slice none 0 0]) ?_ 2 _ rfl;refine zj ?_;refine blk_put (cs:=#[.int .i64 ((rd_T42 l1 x15_1).f0),.int .i64 0,.int .i64 0,.int .i64 0,.int .i64 0,.slice none 0 0]) ?_ 1 _ rfl;refine zj ?_;refine blk_put (cs:=#[.int .i64 0,.int .i64 0,.int .i64 0,.int .i64 0,.int .i64 0,.slice none 0 0]) ?_ 0 _ rfl;refine zj ?_;exact BK85.out) hg (Kd.R_ne HO_5.out BK85.out (by decide)));replace HB:=zA (hb);clear HO_5;clear ho hb hg hat))
     go_roundg k1
     case measure=>have:=HK1.out;omega
     case rel=>exact ⟨(y452),(wrap64 (x15_1+1)),zT,H',⟨by have:=HK1.out;omega⟩,⟨by refine zr ?_;exact HO454.out⟩,⟨by refine zj ?_;exact BK84.out⟩,⟨zv2 HB GE84 GE85⟩⟩
    ·obtain ⟨t455,t456,A17,H⟩:=zO H
     dsimp only at H
     have HC18:=zA H;clear H;have hcz19_0:=zc0 BK84;have hfz19_0:=zf BK84 0
     go_upto_if 31 with (first|((with_reducible refine gate_callee (f:=44) rfl ?_);refine zgo 27 Tryz.func44 #[.slice A0 l0.length c0] ?_;(with_reducible refine (solve_First.calls k1 _ _ l0 t455 t456 _ (zD HR0 HB) HC0.out A17.out).mono ?_);rintro e w20 ⟨rfl,hb⟩;refine ⟨_,rfl,?_⟩;replace HO_5:=zA (Kd.R_below (zR HO_5) hb);replace BK84:=zw BK84 hb;replace HB:=zu hb;clear hb))
     (try simp only [Act.put,zi,zs,zt]);have H:=HC18.out;clear HC18
     rcases ife H with ⟨c21b0,c21b1,H⟩|⟨c21,c21b0,c21b1,H⟩
     ·(first|rw [c21b0]|(simp only [i64_w,i32_w];rw [c21b0])|skip)
      (try rw [c21b1]);obtain ⟨t457,A22,H⟩:=zo H;obtain ⟨t460,A23,H⟩:=zo H
      by_cases c24:t460=true
      ·subst c24
       have H1:((api_Evidence_shared_Check_1.f k1 l1 l0).bind fun t461=>(some (!t461)))=some r:=by rw [if_pos rfl] at H;exact H
       clear H;have H:=H1;clear H1;obtain ⟨t461,A25,H⟩:=zo H;obtain rfl:=Option.some.inj H;have hcz26_0:=zc0 BK84;have hfz26_0:=zf BK84 0
       go_wp2_with (first|((with_reducible refine gate_callee (f:=36) rfl ?_);refine zgo 34 Tryz.func36 #[.slice A0 l0.length c0] ?_;(with_reducible refine (solve_Vars.calls k1 _ _ l0 t457 _ (zD HR0 HB) HC0.out A22.out).mono ?_);rintro e w27 ⟨v458,rfl,ho0,hb⟩;refine ⟨_,rfl,?_⟩;have HO459:=zA (Kd.R_lower (Kd.R_new' ho0 (Kd.R_lt (zR HO_5))) (below_size zB));replace HO_5:=zA (Kd.R_elder' (zR HO_5) (Kd.R_base ho0) hb);replace BK84:=zw BK84 hb;replace HB:=zu hb;clear hb;(try clear ho0);obtain ⟨Ao28,co28,eo28⟩:=Kd.R_slice HO_5.out;subst eo28;obtain ⟨Ao29,co29,eo29⟩:=Kd.R_slice HO459.out;subst eo29)|((with_reducible refine gate_callee (f:=26) rfl ?_);refine zgo 35 Tryz.func26 #[.slice Ao28 x5_1.length co28,.slice Ao29 t457.length co29] ?_;(with_reducible refine (slices_Equal_int_int.calls k1 _ _ x5_1 _ _ t457 true _ ?side1 ?side2 ?side3 ?side4 A23.out).mono ?_);(case side1=>exact zC (Kd.R_reads' HO_5.out).2.2);(case side2=>exact (Kd.R_reads' HO_5.out).2.1);(case side3=>exact zC (Kd.R_reads' HO459.out).2.2);(case side4=>exact (Kd.R_reads' HO459.out).2.1);rintro e w' ⟨rfl,⟨nd,rfl⟩⟩;refine ⟨_,rfl,?_⟩)|(go_at_call 45;(with_reducible refine (api_Evidence_shared_Check_1.calls k1 _ _ l1 gb84 A0 c0 l0 t461 _ ?side1 HC1.out ?side3 HC0.out ?side5 A25.out).mono ?_);(case side1=>repeat (first|exact (Kd.C_below HR1.out zB)|(with_reducible refine Kd.C_alloc ?_ _)|(with_reducible refine Kd.C_drewN ?_ _)|(with_reducible refine Kd.C_drew ?_)));(case side3=>repeat (first|exact (Kd.C_below HR0.out zB)|(with_reducible refine Kd.C_alloc ?_ _)|(with_reducible refine Kd.C_drewN ?_ _)|(with_reducible refine Kd.C_drew ?_)));(case side5=>refine zj ?_;exact BK84.out);rintro e w30 ⟨rfl,hb⟩;replace HO_5:=zA (Kd.R_below (zR HO_5) hb);replace HO459:=zA (Kd.R_below (zR HO459) hb);replace BK84:=zw BK84 hb;replace HB:=zu hb;clear hb))
       go_ret
       exact ⟨ze,zv1 HB GE84⟩
      ·replace c24:=Bool.eq_false_iff.mpr c24;subst c24
       have H1:(some false)=some r:=by rw [if_neg (show ¬ (false=true) by decide)] at H;exact H
       clear H;have H:=H1;clear H1;obtain rfl:=Option.some.inj H;have hcz31_0:=zc0 BK84;have hfz31_0:=zf BK84 0
       go_wp2_with (first|((with_reducible refine gate_callee (f:=36) rfl ?_);refine zgo 34 Tryz.func36 #[.slice A0 l0.length c0] ?_;(with_reducible refine (solve_Vars.calls k1 _ _ l0 t457 _ (zD HR0 HB) HC0.out A22.out).mono ?_);rintro e w32 ⟨v458,rfl,ho0,hb⟩;refine ⟨_,rfl,?_⟩;have HO459:=zA (Kd.R_lower (Kd.R_new' ho0 (Kd.R_lt (zR HO_5))) (below_size zB));replace HO_5:=zA (Kd.R_elder' (zR HO_5) (Kd.R_base ho0) hb);replace BK84:=zw BK84 hb;replace HB:=zu hb;clear hb;(try clear ho0);obtain ⟨Ao33,co33,eo33⟩:=Kd.R_slice HO_5.out;subst eo33;obtain ⟨Ao34,co34,eo34⟩:=Kd.R_slice HO459.out;subst eo34)|((with_reducible refine gate_callee (f:=26) rfl ?_);refine zgo 35 Tryz.func26 #[.slice Ao33 x5_1.length co33,.slice Ao34 t457.length co34] ?_;(with_reducible refine (slices_Equal_int_int.calls k1 _ _ x5_1 _ _ t457 false _ ?side1 ?side2 ?side3 ?side4 A23.out).mono ?_);(case side1=>exact zC (Kd.R_reads' HO_5.out).2.2);(case side2=>exact (Kd.R_reads' HO_5.out).2.1);(case side3=>exact zC (Kd.R_reads' HO459.out).2.2);(case side4=>exact (Kd.R_reads' HO459.out).2.1);rintro e w' ⟨rfl,⟨nd,rfl⟩⟩;refine ⟨_,rfl,?_⟩))
       go_ret
       exact ⟨ze,zv1 HB GE84⟩
     ·(first|rw [c21b0]|(simp only [i64_w,i32_w];rw [c21b0])|skip)
      (try rw [c21b1]);obtain rfl:=Option.some.inj H
      go_wp2
      go_ret
      exact ⟨ze,zv1 HB GE84⟩
 ·(first|rw [c8b0]|(simp only [i64_w,i32_w];rw [c8b0])|skip)
  (try rw [c8b1]);obtain rfl:=Option.some.inj H
  go_wp2
  go_ret
  exact ⟨ze,zv1 HB GE84⟩
def shared_value.f (k:Nat) (l0:List (S63)) (a1:Int):Option (Int):=(shared_with.f k l0 a1 0).bind fun bt462=>((shared_with.f k l0 a1 1).bind fun bt467=>(if bt462.2.2=true then (if bt467.2.2=true then (some 3) else (some 1)) else (some 2)))
set_option maxHeartbeats 8000000 in
set_option maxRecDepth 100000 in
theorem shared_value.calls (k:Nat) (A0:Option Addr) (c0:Nat) (l0:List (S63)) (a1:Int) (r:Int) (w:World) (hr0:Kd.C k63 w A0 l0.length l0) (hc0:l0.length≤c0) (h:shared_value.f k l0 a1=some r) :
  Calls Tryz.prog 58 #[.slice A0 l0.length c0,.int .i64 a1] w fun e w'=>e=.returned (.int .i64 r)∧Below w.heap.size w w':=by
 have HR0:=zA hr0;have HC0:=zA hc0;clear hr0 hc0;have HB:=zA (Below.refl w.heap.size w);have H:((shared_with.f k l0 a1 0).bind fun bt462=>((shared_with.f k l0 a1 1).bind fun bt467=>(if bt462.2.2=true then (if bt467.2.2=true then (some 3) else (some 1)) else (some 2))))=some r:=h;clear h;replace H:=Option.bind_eq_some_iff.mp H;obtain ⟨⟨t462,t463,t464⟩,A30,H⟩:=H;replace H:((shared_with.f k l0 a1 1).bind fun bt467=>(if t464=true then (if bt467.2.2=true then (some 3) else (some 1)) else (some 2)))=some r:=H;have A3:=zA A30;clear A30;replace H:=Option.bind_eq_some_iff.mp H;obtain ⟨⟨t467,t468,t469⟩,A40,H⟩:=H;replace H:(if t464=true then (if t469=true then (some 3) else (some 1)) else (some 2))=some r:=H;have A4:=zA A40;clear A40;have HC5:=zA H;clear H
 go_enter Tryz.func58,Tryz.ntmps58
 go_upto_region 3 with (first|((with_reducible refine gate_callee (f:=71) rfl ?_);refine zgo 14 Tryz.func71 #[.slice A0 l0.length c0,.int .i64 a1,.int .i64 0] ?_;(with_reducible refine (shared_with.calls k _ _ l0 a1 0 t462 t463 t464 _ ?side1 HC0.out A3.out).mono ?_);(case side1=>repeat (first|exact HR0.out|(with_reducible refine Kd.C_alloc ?_ _)|(with_reducible refine Kd.C_drewN ?_ _)|(with_reducible refine Kd.C_drew ?_)));rintro e w6 ⟨v465,rfl,ho0,hb⟩;refine ⟨_,rfl,?_⟩;have HO466:=zA (Kd.S_lower ho0 (below_size zB));replace HB:=zu hb;clear hb;(try clear ho0))|((with_reducible refine gate_callee (f:=71) rfl ?_);refine zgo 21 Tryz.func71 #[.slice A0 l0.length c0,.int .i64 a1,.int .i64 1] ?_;(with_reducible refine (shared_with.calls k _ _ l0 a1 1 t467 t468 t469 _ (zD HR0 HB) HC0.out A4.out).mono ?_);rintro e w7 ⟨v470,rfl,ho0,hb⟩;refine ⟨_,rfl,?_⟩;have HO471:=zA (Kd.S_lower (Kd.S_new' ho0 (Kd.S_lt (zS HO466))) (below_size zB));replace HO466:=zA (Kd.S_elder' (zS HO466) (Kd.S_base ho0) hb);replace HB:=zu hb;clear hb;(try clear ho0)))
 (try simp only [Act.put,zi,zs,zt]);have H:=HC5.out;clear HC5
 by_cases c8:t464=true
 ·subst c8
  have H1:(if t469=true then (some 3) else (some 1))=some r:=by rw [if_pos rfl] at H;exact H
  clear H;have H:=H1;clear H1
  by_cases c9:t469=true
  ·subst c9
   have H1:(some 3)=some r:=by rw [if_pos rfl] at H;exact H
   clear H;have H:=H1;clear H1;obtain rfl:=Option.some.inj H
   go_wp2
   go_ret
   exact ⟨ze,zv0 HB⟩
  ·replace c9:=Bool.eq_false_iff.mpr c9;subst c9
   have H1:(some 1)=some r:=by rw [if_neg (show ¬ (false=true) by decide)] at H;exact H
   clear H;have H:=H1;clear H1;obtain rfl:=Option.some.inj H
   go_wp2
   go_ret
   exact ⟨ze,zv0 HB⟩
 ·replace c8:=Bool.eq_false_iff.mpr c8;subst c8
  have H1:(some 2)=some r:=by rw [if_neg (show ¬ (false=true) by decide)] at H;exact H
  clear H;have H:=H1;clear H1;obtain rfl:=Option.some.inj H
  go_wp2
  go_ret
  exact ⟨ze,zv0 HB⟩
def api_Table_59.f (l0:List (S63)):Option ((List (S63))):=(some (([]:List (S63)):List (S63))).bind fun y90=>(if y90.length+l0.length<2932031007402 then (some (y90++l0)) else (none))
set_option maxHeartbeats 8000000 in
set_option maxRecDepth 100000 in
theorem api_Table_59.calls (P0_:Nat→Prop) (A0:Option Addr) (c0:Nat) (l0:List (S63)) (r:List (S63)) (w:World) (hs0:Kd.V k63 63 w w.heap.size (fun k_=>P0_ k_) (.slice A0 l0.length c0) l0) (h:api_Table_59.f l0=some r) :
  Calls Tryz.prog 59 #[.slice A0 l0.length c0] w fun e w'=>∃ v0_:Value,e=.returned (v0_)∧Kd.N k63 63 w' w.heap.size (fun k_=>(P0_ k_∨w.heap.size≤k_)) v0_ r∧Below w.heap.size w w':=by
 have HO0:=zA (show Kd.V k63 63 w w.heap.size (fun k_=>(P0_ k_∨w.heap.size≤k_)) (.slice A0 l0.length c0) l0 from Kd.V_mono hs0 (fun k_ hk=>.inl hk));have HB:=zA (Below.refl w.heap.size w);have H:((some (([]:List (S63)):List (S63))).bind fun y90=>(if y90.length+l0.length<2932031007402 then (some (y90++l0)) else (none)))=some r:=h;clear h
 have hnq_:∀ (w:World) (a:Option Addr) (n c n' c':Nat),(binOp .eql 22 (.slice a n c) (.slice none n' c')).run Tryz.prog w=.ok (.bool a.isNone) w:=fun w a n c n' c'=>Lib.run_eql_slice_nil w _ _ a n c n' c' Tryz.underlying22
 rcases A0 with _|adn0
 ·obtain rfl:l0=[]:=(by rcases l0 with _|⟨x_,xs_⟩;(· rfl);(· obtain ⟨_,_,e_,_⟩:=Kd.C_get (Kd.V_reads' HO0.out).2.2 z63 0 (by omega) (by simp);cases e_))
  simp only [List.length_nil,List.nil_append] at H
  (first|rw [if_pos (by omega)] at H|simp at H)
  try simp only [Option.some.injEq] at H
  subst H
  go_enter Tryz.func59,Tryz.ntmps59
  go_wp2
  go_ret
  first|exact ⟨_,rfl,Kd.R_nil _ _ _ _ _,Below.refl _ _⟩|exact ⟨_,rfl,Kd.S_nil _ _ _ _ _,Below.refl _ _⟩|exact ⟨_,rfl,Kd.V_nil _ _ _ _ _,Below.refl _ _⟩|exact ⟨_,rfl,Kd.N_nil _ _ _ _ _,Below.refl _ _⟩
 ·replace H:=H
  first|(replace H:=zyb (([]:List (S63))) H;obtain ⟨y90,Ny90,H⟩:=H)|(obtain ⟨y90,hy90⟩:=zY (([]:List (S63)));(try rw (occs:=.pos [1]) [← hy90] at H);have Ny90:=zA hy90;clear hy90)
  obtain ⟨c2,H⟩:=if1 H;have LMc2:=zA c2;clear c2
  first|(replace H:=zyb (y90++l0) H;obtain ⟨y475,Ny475,H⟩:=H)|(obtain ⟨y475,hy475⟩:=zY (y90++l0);(try rw (occs:=.pos [1]) [← hy475] at H);have Ny475:=zA hy475;clear hy475)
  obtain rfl:=Option.some.inj H
  go_enter Tryz.func59,Tryz.ntmps59
  go_wp2_with (first|((with_reducible refine gate_dst (N:=5) rfl ?_);refine Kd.N_lit k63 _ 63 ?hg (N':=5) ?hd (xs:=([]:List (S63))) (inner:=[]) (ok:=(fun k_=>(P0_ k_∨w.heap.size≤k_))) (okp:=(fun k_=>(P0_ k_∨w.heap.size≤k_))) ?hr ?hp (fun _ hk=>hk) ((show ∀ k_,w.heap.size≤k_→(fun k_=>(P0_ k_∨w.heap.size≤k_)) k_ from fun k_ hk=>(.inr (Nat.le_trans (below_size zB) hk))) _ (Nat.le_refl _)) (Below.refl _ _) (Nat.le_refl _) (by simp) ?_;(case hd=>rfl);(case hg=>rfl);(case hr=>first|(go_simp;done)|(go_simp;rfl));(case hp=>exact (Reps.none _ _));intro v473 w3 ho4 hb hg_ hnew_;clear hg_ hnew_;(first|rw [← Ny90.out] at ho4|(simp only [Int.reduceToNat] at ho4;rw [← Ny90.out] at ho4));have HO474:=zA (Kd.N_lower ho4 (below_size zB));replace HO0:=zA (Kd.V_elder' (zV HO0) (Kd.N_base ho4) hb);replace HB:=zu hb;clear hb ho4)|((with_reducible refine gate_builtin (b:=.append) (xs:=#[.tmp 5,.tmp 6]) rfl ?_);at_builtin;refine Kd.N_append_rows k63 (w0:=w) w.heap.size rfl (.tmp 5) (.tmp 6) 22 63 (.agg #[(.slice none 0 0),(.slice none 0 0)]) 48 rfl Tryz.underlying22 info63 rfl (by decide) (by omega) v473 y90 l0 _ _ _ (fun k_=>(P0_ k_∨w.heap.size≤k_)) (fun k_=>((fun k_=>(P0_ k_∨w.heap.size≤k_))) k_∧some k_≠(v473:Value).ownBlock) rfl rfl ?aO ?aR (fun _ hk=>hk) ?aF ?aB ?aS ?aL ?_;(case aR=>exact (by skip;exact Kd.V_F (Kd.V_mono (ok':=(fun k_=>((fun k_=>(P0_ k_∨w.heap.size≤k_))) k_∧some k_≠(v473:Value).ownBlock)) (HO0.out) (fun k_ hk=>⟨hk.1,hk.2⟩))));(case aB=>exact zB);(case aF=>exact (fun k_ hk=>(.inr (Nat.le_trans (below_size zB) hk))));(case aO=>exact (zN HO474));(case aS=>exact (below_size zB));(case aL=>have:=LMc2.out;omega);intro v476 w5 ho hb hg hat;rw [← Ny475.out] at ho;have HO477:=zA (ho);replace HO0:=zA (Kd.V_afterv (ok:=(fun k_=>(P0_ k_∨w.heap.size≤k_))) (zV HO0) hg hat);replace HB:=zA (hb);clear HO474;clear ho hb hg hat))
  go_ret
  exact ⟨_,ze,by (with_reducible repeat (first|apply Kd.N_alloc|apply Kd.N_drewN|apply Kd.N_drew));exact HO477.out,zv0 HB⟩
def shared_both.f (a0:Int) (a1:Int) (a2:Bool):Option (List Int×List Int):=if a2=true then (some ((([a0,a1]:List Int)),(([0,3]:List Int)))) else (some ((([a0,a1]:List Int)),(([1,2]:List Int))))
set_option maxHeartbeats 8000000 in
set_option maxRecDepth 100000 in
theorem shared_both.calls (a0:Int) (a1:Int) (a2:Bool) (r1:List Int) (r2:List Int) (w:World) (h:shared_both.f a0 a1 a2=some (r1,r2)) :
  Calls Tryz.prog 60 #[.int .i64 a0,.int .i64 a1,.bool a2] w fun e w'=>∃ v0_ v1_:Value,e=.returned (.agg #[v0_,v1_])∧Kd.R (Kd.int .i64) 3 w' w.heap.size (fun k_=>some k_≠(v1_:Value).ownBlock) v0_ r1∧Kd.R (Kd.int .i64) 3 w' w.heap.size (fun k_=>some k_≠(v0_:Value).ownBlock) v1_ r2∧Below w.heap.size w w':=by
 have HB:=zA (Below.refl w.heap.size w);have H:(if a2=true then (some ((([a0,a1]:List Int)),(([0,3]:List Int)))) else (some ((([a0,a1]:List Int)),(([1,2]:List Int)))))=some (r1,r2):=h;clear h;have HC4:=zA H;clear H
 go_enter Tryz.func60,Tryz.ntmps60
 go_upto_if 7 with (first|((with_reducible refine gd 6 rfl ?_);refine zx #[.slice none 0 0,.slice none 0 0] 63 ?_;intro gb88 hg w5 BK88 hb GW88 HB1;have GE88:=GW88;clear HB hb hg;have HB:=HB1;clear HB1))
 (try simp only [Act.put,zi,zs,zt]);have H:=HC4.out;clear HC4
 by_cases c6:a2=true
 ·subst c6
  have H1:(some ((([a0,a1]:List Int)),(([0,3]:List Int))))=some (r1,r2):=by rw [if_pos rfl] at H;exact H
  clear H;have H:=H1;clear H1
  first|(replace H:=zyb (([a0,a1]:List Int)) H;obtain ⟨y91,Ny91,H⟩:=H)|(obtain ⟨y91,hy91⟩:=zY (([a0,a1]:List Int));(try rw (occs:=.pos [1]) [← hy91] at H);have Ny91:=zA hy91;clear hy91)
  first|(replace H:=zyb (([0,3]:List Int)) H;obtain ⟨y94,Ny94,H⟩:=H)|(obtain ⟨y94,hy94⟩:=zY (([0,3]:List Int));(try rw (occs:=.pos [1]) [← hy94] at H);have Ny94:=zA hy94;clear hy94)
  simp only [Option.some.injEq,Prod.mk.injEq] at H;obtain ⟨rfl,rfl⟩:=H
  go_wp2_with (first|((with_reducible refine gate_dst (N:=10) rfl ?_);refine Kd.R_lit (Kd.int .i64) _ 3 ?hg (N:=10) ?hd (xs:=([a0,a1]:List Int)) (inner:=[.int .i64 a0,.int .i64 a1]) (ok:=fun _=>True) (okp:=fun _=>True) ?hr ?hp (fun _ hk=>hk) trivial (Below.refl _ _) (Nat.le_refl _) (by simp) ?_;(case hd=>rfl);(case hg=>rfl);(case hr=>first|(go_simp;done)|(go_simp;rfl));(case hp=>exact (Reps.one (show Kd.M (Kd.int .i64) _ _ _ a0 [.int .i64 a0] from rfl) (Reps.one (show Kd.M (Kd.int .i64) _ _ _ a1 [.int .i64 a1] from rfl) (Reps.none _ _))));intro v480 w7 ho8 hb hg_ hnew_;clear hg_ hnew_;(first|rw [← Ny91.out] at ho8|(simp only [Int.reduceToNat] at ho8;rw [← Ny91.out] at ho8));have HO481:=zA (Kd.R_lower ho8 (below_size zB));replace BK88:=zw BK88 hb;replace HB:=zu hb;clear hb ho8)|((with_reducible refine gate_dst (N:=11) rfl ?_);refine Kd.R_lit (Kd.int .i64) _ 3 ?hg (N:=11) ?hd (xs:=([0,3]:List Int)) (inner:=[.int .i64 0,.int .i64 3]) (ok:=fun _=>True) (okp:=fun _=>True) ?hr ?hp (fun _ hk=>hk) trivial (Below.refl _ _) (Nat.le_refl _) (by simp) ?_;(case hd=>rfl);(case hg=>rfl);(case hr=>first|(go_simp;done)|(go_simp;rfl));(case hp=>exact (Reps.one (show Kd.M (Kd.int .i64) _ _ _ 0 [.int .i64 0] from rfl) (Reps.one (show Kd.M (Kd.int .i64) _ _ _ 3 [.int .i64 3] from rfl) (Reps.none _ _))));intro v483 w9 ho10 hb hg_ hnew_;clear hg_ hnew_;(first|rw [← Ny94.out] at ho10|(simp only [Int.reduceToNat] at ho10;rw [← Ny94.out] at ho10));have HO484:=zA (Kd.R_lower (Kd.R_new' ho10 (Kd.R_lt (zR HO481))) (below_size zB));replace HO481:=zA (Kd.R_elder' (zR HO481) (Kd.R_base ho10) hb);replace BK88:=zw BK88 hb;replace HB:=zu hb;clear hb ho10;obtain ⟨Ao11,co11,eo11⟩:=Kd.R_slice HO484.out;subst eo11;obtain ⟨Ao12,co12,eo12⟩:=Kd.R_slice HO481.out;subst eo12;have hcz13_0:=zc0 BK88;have hcz13_1:=zc1 BK88;have hfz13_0:=zf BK88))
  refine bodyPost_ret (results_cell_row rfl _ _ gb88 63 #[.slice Ao12 y91.length co12,.slice Ao11 y94.length co11] (0,0) _ rfl (by refine zj ?_;refine blk_put (cs:=#[.slice Ao12 y91.length co12,.slice none 0 0]) ?_ 1 _ rfl;refine zj ?_;refine blk_put (cs:=#[.slice none 0 0,.slice none 0 0]) ?_ 0 _ rfl;refine zj ?_;exact BK88.out) Tryz.underlying63 rfl zK) rfl ?_;exact ⟨_,_,ze,by refine zr ?_;exact Kd.R_mono (Kd.R_far (p:=⟨gb88,1,none⟩) (Kd.R_far (p:=⟨gb88,0,none⟩) (Kd.R_types HO481.out BK88.out (by decide)) (fun _ hk=>hk.2) (.slice Ao12 y91.length co12)) (fun _ hk=>hk.2) (.slice Ao11 y94.length co11)) (fun _ hk=>hk.1.2),by refine zr ?_;exact Kd.R_mono (Kd.R_far (p:=⟨gb88,1,none⟩) (Kd.R_far (p:=⟨gb88,0,none⟩) (Kd.R_types HO484.out BK88.out (by decide)) (fun _ hk=>hk.2) (.slice Ao12 y91.length co12)) (fun _ hk=>hk.2) (.slice Ao11 y94.length co11)) (fun _ hk=>hk.1.2),zv1 HB GE88⟩
 ·replace c6:=Bool.eq_false_iff.mpr c6;subst c6
  have H1:(some ((([a0,a1]:List Int)),(([1,2]:List Int))))=some (r1,r2):=by rw [if_neg (show ¬ (false=true) by decide)] at H;exact H
  clear H;have H:=H1;clear H1
  first|(replace H:=zyb (([a0,a1]:List Int)) H;obtain ⟨y92,Ny92,H⟩:=H)|(obtain ⟨y92,hy92⟩:=zY (([a0,a1]:List Int));(try rw (occs:=.pos [1]) [← hy92] at H);have Ny92:=zA hy92;clear hy92)
  first|(replace H:=zyb (([1,2]:List Int)) H;obtain ⟨y95,Ny95,H⟩:=H)|(obtain ⟨y95,hy95⟩:=zY (([1,2]:List Int));(try rw (occs:=.pos [1]) [← hy95] at H);have Ny95:=zA hy95;clear hy95)
  simp only [Option.some.injEq,Prod.mk.injEq] at H;obtain ⟨rfl,rfl⟩:=H
  go_wp2_with (first|((with_reducible refine gate_dst (N:=15) rfl ?_);refine Kd.R_lit (Kd.int .i64) _ 3 ?hg (N:=15) ?hd (xs:=([a0,a1]:List Int)) (inner:=[.int .i64 a0,.int .i64 a1]) (ok:=fun _=>True) (okp:=fun _=>True) ?hr ?hp (fun _ hk=>hk) trivial (Below.refl _ _) (Nat.le_refl _) (by simp) ?_;(case hd=>rfl);(case hg=>rfl);(case hr=>first|(go_simp;done)|(go_simp;rfl));(case hp=>exact (Reps.one (show Kd.M (Kd.int .i64) _ _ _ a0 [.int .i64 a0] from rfl) (Reps.one (show Kd.M (Kd.int .i64) _ _ _ a1 [.int .i64 a1] from rfl) (Reps.none _ _))));intro v486 w14 ho15 hb hg_ hnew_;clear hg_ hnew_;(first|rw [← Ny92.out] at ho15|(simp only [Int.reduceToNat] at ho15;rw [← Ny92.out] at ho15));have HO487:=zA (Kd.R_lower ho15 (below_size zB));replace BK88:=zw BK88 hb;replace HB:=zu hb;clear hb ho15)|((with_reducible refine gate_dst (N:=16) rfl ?_);refine Kd.R_lit (Kd.int .i64) _ 3 ?hg (N:=16) ?hd (xs:=([1,2]:List Int)) (inner:=[.int .i64 1,.int .i64 2]) (ok:=fun _=>True) (okp:=fun _=>True) ?hr ?hp (fun _ hk=>hk) trivial (Below.refl _ _) (Nat.le_refl _) (by simp) ?_;(case hd=>rfl);(case hg=>rfl);(case hr=>first|(go_simp;done)|(go_simp;rfl));(case hp=>exact (Reps.one (show Kd.M (Kd.int .i64) _ _ _ 1 [.int .i64 1] from rfl) (Reps.one (show Kd.M (Kd.int .i64) _ _ _ 2 [.int .i64 2] from rfl) (Reps.none _ _))));intro v489 w16 ho17 hb hg_ hnew_;clear hg_ hnew_;(first|rw [← Ny95.out] at ho17|(simp only [Int.reduceToNat] at ho17;rw [← Ny95.out] at ho17));have HO490:=zA (Kd.R_lower (Kd.R_new' ho17 (Kd.R_lt (zR HO487))) (below_size zB));replace HO487:=zA (Kd.R_elder' (zR HO487) (Kd.R_base ho17) hb);replace BK88:=zw BK88 hb;replace HB:=zu hb;clear hb ho17;obtain ⟨Ao18,co18,eo18⟩:=Kd.R_slice HO490.out;subst eo18;obtain ⟨Ao19,co19,eo19⟩:=Kd.R_slice HO487.out;subst eo19;have hcz20_0:=zc0 BK88;have hcz20_1:=zc1 BK88;have hfz20_0:=zf BK88))
  refine bodyPost_ret (results_cell_row rfl _ _ gb88 63 #[.slice Ao19 y92.length co19,.slice Ao18 y95.length co18] (0,0) _ rfl (by refine zj ?_;refine blk_put (cs:=#[.slice Ao19 y92.length co19,.slice none 0 0]) ?_ 1 _ rfl;refine zj ?_;refine blk_put (cs:=#[.slice none 0 0,.slice none 0 0]) ?_ 0 _ rfl;refine zj ?_;exact BK88.out) Tryz.underlying63 rfl zK) rfl ?_;exact ⟨_,_,ze,by refine zr ?_;exact Kd.R_mono (Kd.R_far (p:=⟨gb88,1,none⟩) (Kd.R_far (p:=⟨gb88,0,none⟩) (Kd.R_types HO487.out BK88.out (by decide)) (fun _ hk=>hk.2) (.slice Ao19 y92.length co19)) (fun _ hk=>hk.2) (.slice Ao18 y95.length co18)) (fun _ hk=>hk.1.2),by refine zr ?_;exact Kd.R_mono (Kd.R_far (p:=⟨gb88,1,none⟩) (Kd.R_far (p:=⟨gb88,0,none⟩) (Kd.R_types HO490.out BK88.out (by decide)) (fun _ hk=>hk.2) (.slice Ao19 y92.length co19)) (fun _ hk=>hk.2) (.slice Ao18 y95.length co18)) (fun _ hk=>hk.1.2),zv1 HB GE88⟩
def shared_Linked_1_v1.f (k:Nat) (a0:Int) (l1_0:List (S63)):Option (Bool):=(shared_value.f k l1_0 a0).bind fun t492=>(some (t492 != 3))
set_option maxHeartbeats 8000000 in
set_option maxRecDepth 100000 in
theorem shared_Linked_1_v1.calls (k:Nat) (a0:Int) (gp1_0:Nat) (A1_0:Option Addr) (c1_0:Nat) (l1_0:List (S63)) (r:Bool) (w:World) (hr1_0:Kd.C k63 w A1_0 l1_0.length l1_0) (hc1_0:l1_0.length≤c1_0) (hb_gp1_0:w.heap[gp1_0]?=some (.cells #[.slice A1_0 l1_0.length c1_0] 22 (0,0))) (h:shared_Linked_1_v1.f k a0 l1_0=some r) :
  Calls Tryz.prog 57 #[.int .i64 a0,.pointer (some ⟨gp1_0,0,none⟩)] w fun e w'=>e=.returned (.bool r)∧Below w.heap.size w w':=by
 have HR1_0:=zA hr1_0;have HC1_0:=zA hc1_0;clear hr1_0 hc1_0;have BK491:=zA hb_gp1_0;clear hb_gp1_0;have HB:=zA (Below.refl w.heap.size w);have H:((shared_value.f k l1_0 a0).bind fun t492=>(some (t492 != 3)))=some r:=h;clear h;obtain ⟨t492,A3,H⟩:=zo H;obtain rfl:=Option.some.inj H;have hcz4_0:w.cell? ⟨gp1_0,0,none⟩=some (.slice A1_0 l1_0.length c1_0):=zc0 BK491;have hfz4_0:=zf BK491 0
 go_enter Tryz.func57,Tryz.ntmps57
 go_wp2_with (first|((with_reducible refine gate_callee (f:=58) rfl ?_);refine zgo 6 Tryz.func58 #[.slice A1_0 l1_0.length c1_0,.int .i64 a0] ?_;(with_reducible refine (shared_value.calls k _ _ l1_0 a0 t492 _ ?side1 HC1_0.out A3.out).mono ?_);(case side1=>repeat (first|exact HR1_0.out|(with_reducible refine Kd.C_alloc ?_ _)|(with_reducible refine Kd.C_drewN ?_ _)|(with_reducible refine Kd.C_drew ?_)));rintro e w5 ⟨rfl,hb⟩;refine ⟨_,rfl,?_⟩;replace BK491:=zw BK491 hb;replace HB:=zu hb;clear hb))
 go_ret
 exact ⟨ze,zv0 HB⟩
end Go.Proofs.YtngpkbbljnbojaaGreat.L
