import Derived.Test.YtngpkbbljnbojaaI0
import Derived.Test.YtngpkbbljnbojaaI1
import Derived.Test.YtngpkbbljnbojaaI2
import Derived.Test.YtngpkbbljnbojaaI4
import Derived.Test.YtngpkbbljnbojaaI7
import Derived.Test.YtngpkbbljnbojaaI9
namespace Go.Proofs.Ytngpkbbljnbojaa.I
open Go.RowKit Go.Proofs.YtngpkbbljnbojaaW.PrintWords Go.Proofs.YtngpkbbljnbojaaW.PrintLast Go.Proofs.YtngpkbbljnbojaaW.PrintMore
attribute [local go_sem] max2_int min2_int max_two min_two max_three min_three max_four min_four
set_option linter.unusedVariables false
set_option linter.unusedSimpArgs false
attribute [local go_sem high] eqA59
def shared_right.f (k:Nat) (l0:List (S34)) (a1_0:Int) (a1_1:Int) (a1_2:Int) (a1_3:Int) (a1_4:Int) (l1_5:List (S116)):Option (Bool):=if a1_1=3 then (if a1_2=0 then (if (l1_5.length:Int)=0 then ((shared_right_1_v1.f k a1_3 0 l0 a1_0 a1_1 a1_2 a1_3 a1_4 l1_5).bind fun t534=>(if t534=true then ((shared_right_1_v1.f k a1_4 1 l0 a1_0 a1_1 a1_2 a1_3 a1_4 l1_5).bind fun t99=>(some t99)) else (some false))) else (some false)) else (some false)) else (if a1_1=1 then ((solve_Given.f k l0 a1_0 (wrap64 (2 - a1_1))).bind fun bt95=>(if bt95.2=0 then (if a1_3=0 then (if a1_4=0 then ((solve_Holds.f k l0 a1_2).bind fun t540=>(if t540=true then ((solve_Check.f k bt95.1 l1_5).bind fun t92=>(some t92)) else (some false))) else (some false)) else (some false)) else (some false))) else (if a1_1=2 then ((solve_Given.f k l0 a1_0 (wrap64 (2 - a1_1))).bind fun bt96=>(if bt96.2=0 then (if a1_3=0 then (if a1_4=0 then ((solve_Holds.f k l0 a1_2).bind fun t546=>(if t546=true then ((solve_Check.f k bt96.1 l1_5).bind fun t93=>(some t93)) else (some false))) else (some false)) else (some false)) else (some false))) else (some false)))
theorem shared_right.mono:∀ a0 a1 a2 a3 a4 a5 a6 k,LeO (shared_right.f k a0 a1 a2 a3 a4 a5 a6) (shared_right.f (k+1) a0 a1 a2 a3 a4 a5 a6):=by
 intro a0 a1 a2 a3 a4 a5 a6 k
 unfold shared_right.f
 repeat' first
   | (with_reducible exact shared_right_1_v1.mono _ _ _ _ _ _ _ _ _ _)
   | (with_reducible exact solve_Check.mono _ _ _)
   | (with_reducible exact solve_Given.mono _ _ _ _)
   | (with_reducible exact solve_Holds.mono _ _ _)
   | (with_reducible exact LeO.refl _)
   | (with_reducible exact LeO.none _)
   | (with_reducible refine LeO.ite ?_ ?_)
   | (with_reducible refine LeO.bind ?_ (fun _=>?_))
   | exact LeO.none _
   | refine LeO.ite ?_ ?_
   | refine LeO.bind ?_ (fun _=>?_)
set_option maxHeartbeats 8000000 in
set_option maxRecDepth 100000 in
theorem shared_right.calls (k:Nat) (A0:Option Addr) (c0:Nat) (l0:List (S34)) (a1_0:Int) (a1_1:Int) (a1_2:Int) (a1_3:Int) (a1_4:Int) (A1_5:Option Addr) (c1_5:Nat) (l1_5:List (S116)) (r:Bool) (w:World) (hr0:Kd.C k34 w A0 l0.length l0) (hc0:l0.length≤c0) (hr1_5:Kd.C k116 w A1_5 l1_5.length l1_5) (hc1_5:l1_5.length≤c1_5) (h:shared_right.f k l0 a1_0 a1_1 a1_2 a1_3 a1_4 l1_5=some r) :
  Calls Try.prog 49 #[.slice A0 l0.length c0,.agg #[.int .i64 a1_0,.int .i64 a1_1,.int .i64 a1_2,.int .i64 a1_3,.int .i64 a1_4,.slice A1_5 l1_5.length c1_5]] w fun e w'=>e=.returned (.bool r)∧Below w.heap.size w w':=by
 have hu22:=Try.underlying22;have hu65:=Try.underlying65;have hu3:=Try.underlying3;have hu61:=Try.underlying61;have hu63:=Try.underlying63;have HR0:=zA hr0;have HC0:=zA hc0;clear hr0 hc0;have HR1_5:=zA hr1_5;have HC1_5:=zA hc1_5;clear hr1_5 hc1_5;have HB:=zA (Below.refl w.heap.size w);have H:(if a1_1=3 then (if a1_2=0 then (if (l1_5.length:Int)=0 then ((shared_right_1_v1.f k a1_3 0 l0 a1_0 a1_1 a1_2 a1_3 a1_4 l1_5).bind fun t534=>(if t534=true then ((shared_right_1_v1.f k a1_4 1 l0 a1_0 a1_1 a1_2 a1_3 a1_4 l1_5).bind fun t99=>(some t99)) else (some false))) else (some false)) else (some false)) else (if a1_1=1 then ((solve_Given.f k l0 a1_0 (wrap64 (2 - a1_1))).bind fun bt95=>(if bt95.2=0 then (if a1_3=0 then (if a1_4=0 then ((solve_Holds.f k l0 a1_2).bind fun t540=>(if t540=true then ((solve_Check.f k bt95.1 l1_5).bind fun t92=>(some t92)) else (some false))) else (some false)) else (some false)) else (some false))) else (if a1_1=2 then ((solve_Given.f k l0 a1_0 (wrap64 (2 - a1_1))).bind fun bt96=>(if bt96.2=0 then (if a1_3=0 then (if a1_4=0 then ((solve_Holds.f k l0 a1_2).bind fun t546=>(if t546=true then ((solve_Check.f k bt96.1 l1_5).bind fun t93=>(some t93)) else (some false))) else (some false)) else (some false)) else (some false))) else (some false))))=some r:=h;clear h;have HC3:=zA H;clear H
 go_enter Try.func49,Try.ntmps49
 go_upto_if 11 with (first|((with_reducible refine gate_dst (N:=2) rfl ?_);(try (refine gate_guard (by rfl) ?_;dsimp only));refine box_event ?hg (N:=2) ?hd (cs:=#[.slice A0 l0.length c0]) (t:=22) ?hr ?_;(case hd=>rfl);(case hg=>rfl);(case hr=>first|(go_simp;done)|(go_simp;rfl));intro gb83 hg w4 hbox hb;have BK83:=zA (hbox);have GW83:=zA (zG hg (below_size zB):w.heap.size≤gb83);have GE83:=GW83;replace HB:=zA (below_step zB hb);clear hb hbox hg)|((with_reducible refine gate_dst (N:=3) rfl ?_);(try (refine gate_guard (by rfl) ?_;dsimp only));refine box_event ?hg (N:=3) ?hd (cs:=#[.int .i64 a1_0,.int .i64 a1_1,.int .i64 a1_2,.int .i64 a1_3,.int .i64 a1_4,.slice A1_5 l1_5.length c1_5]) (t:=65) ?hr ?_;(case hd=>rfl);(case hg=>rfl);(case hr=>first|(go_simp;done)|(go_simp;rfl));intro gb82 hg w5 hbox hb;have BK82:=zA (hbox);have GW82:=zA (zG hg (below_size zB):w.heap.size≤gb82);have GE82:=GW82;have NB83_82:=zA ((zl hg (zk BK83):gb83≠gb82));have NB82_83:=zA ((zg hg (zk BK83):gb82≠gb83));replace BK83:=zA (zb BK83 hb);replace HB:=zA (below_step zB hb);clear hb hbox hg;have hnb6:=NB82_83.out;have hnc6:=NB83_82.out;have hcz7_0:w5.cell? ⟨gb82,0,none⟩=some (.int .i64 a1_0):=(blk_cell BK82.out 0).trans rfl;have hcz7_1:w5.cell? ⟨gb82,1,none⟩=some (.int .i64 a1_1):=(blk_cell BK82.out 1).trans rfl;have hcz7_2:w5.cell? ⟨gb82,2,none⟩=some (.int .i64 a1_2):=(blk_cell BK82.out 2).trans rfl;have hcz7_3:w5.cell? ⟨gb82,3,none⟩=some (.int .i64 a1_3):=(blk_cell BK82.out 3).trans rfl;have hcz7_4:w5.cell? ⟨gb82,4,none⟩=some (.int .i64 a1_4):=(blk_cell BK82.out 4).trans rfl;have hcz7_5:w5.cell? ⟨gb82,5,none⟩=some (.slice A1_5 l1_5.length c1_5):=(blk_cell BK82.out 5).trans rfl;have hfz7_0:=blk_frozen BK82.out 0;have hfz7_1:=blk_frozen BK82.out 1;have hfz7_2:=blk_frozen BK82.out 2;have hfz7_3:=blk_frozen BK82.out 3;have hfz7_4:=blk_frozen BK82.out 4;have hfz7_5:=blk_frozen BK82.out 5))
 (try simp only [Act.put,zi,zs,zt]);have H:=HC3.out;clear HC3
 by_cases c8:a1_1=3
 ·rw [if_pos c8] at H;have c8b0:(a1_1 == 3)=true:=beq_iff_eq.mpr c8;have c8b1:(a1_1 != 3)=false:=bne_eq_false_iff_eq.mpr c8;clear c8
  (first|rw [c8b0]|(simp only [i64_w,i32_w];rw [c8b0])|skip)
  (try rw [c8b1])
  by_cases c9:a1_2=0
  ·rw [if_pos c9] at H;have c9b0:(a1_2 == 0)=true:=beq_iff_eq.mpr c9;have c9b1:(a1_2 != 0)=false:=bne_eq_false_iff_eq.mpr c9;clear c9
   by_cases c10:(l1_5.length:Int)=0
   ·rw [if_pos c10] at H;have c10b0:((l1_5.length:Int) == 0)=true:=beq_iff_eq.mpr c10;have c10b1:((l1_5.length:Int) != 0)=false:=bne_eq_false_iff_eq.mpr c10;clear c10;replace H:=Option.bind_eq_some_iff.mp H;obtain ⟨t534,A110,H⟩:=H;replace H:(if t534=true then ((shared_right_1_v1.f k a1_4 1 l0 a1_0 a1_1 a1_2 a1_3 a1_4 l1_5).bind fun t99=>(some t99)) else (some false))=some r:=H;have A11:=zA A110;clear A110
    by_cases c12:t534=true
    ·subst c12
     have H1:((shared_right_1_v1.f k a1_4 1 l0 a1_0 a1_1 a1_2 a1_3 a1_4 l1_5).bind fun t99=>(some t99))=some r:=by rw [if_pos rfl] at H;exact H
     clear H;have H:=H1;clear H1;replace H:=Option.bind_eq_some_iff.mp H;obtain ⟨t99,A130,H⟩:=H;replace H:(some t99)=some r:=H;have A13:=zA A130;clear A130;obtain rfl:=Option.some.inj H;have hnb14:=NB82_83.out;have hnc14:=NB83_82.out;have hcz15_0:w5.cell? ⟨gb82,0,none⟩=some (.int .i64 a1_0):=(blk_cell BK82.out 0).trans rfl;have hcz15_1:w5.cell? ⟨gb82,1,none⟩=some (.int .i64 a1_1):=(blk_cell BK82.out 1).trans rfl;have hcz15_2:w5.cell? ⟨gb82,2,none⟩=some (.int .i64 a1_2):=(blk_cell BK82.out 2).trans rfl;have hcz15_3:w5.cell? ⟨gb82,3,none⟩=some (.int .i64 a1_3):=(blk_cell BK82.out 3).trans rfl;have hcz15_4:w5.cell? ⟨gb82,4,none⟩=some (.int .i64 a1_4):=(blk_cell BK82.out 4).trans rfl;have hcz15_5:w5.cell? ⟨gb82,5,none⟩=some (.slice A1_5 l1_5.length c1_5):=(blk_cell BK82.out 5).trans rfl;have hfz15_0:=blk_frozen BK82.out 0;have hfz15_1:=blk_frozen BK82.out 1;have hfz15_2:=blk_frozen BK82.out 2;have hfz15_3:=blk_frozen BK82.out 3;have hfz15_4:=blk_frozen BK82.out 4;have hfz15_5:=blk_frozen BK82.out 5
     go_wp2_with (first|(go_at_call 63;(with_reducible refine (shared_right_1_v1.calls k a1_3 0 gb83 A0 c0 l0 gb82 a1_0 a1_1 a1_2 a1_3 a1_4 A1_5 c1_5 l1_5 true _ ?side1 ?side2 ?side3 ?side4 ?side5 ?side6 A11.out).mono ?_);(case side1=>exact zC (Kd.C_below HR0.out HB.out));(case side2=>exact HC0.out);(case side3=>refine zj ?_;exact BK83.out);(case side4=>exact zC (Kd.C_below HR1_5.out HB.out));(case side5=>exact HC1_5.out);(case side6=>refine zj ?_;exact BK82.out);rintro e w16 ⟨rfl,hb⟩;replace BK83:=zA (zb BK83 hb);replace BK82:=zA (zb BK82 hb);replace HB:=zA (below_step zB hb);(try clear hb);(try clear hb2);(try clear hk);(try clear hi);have hcz17_0:w16.cell? ⟨gb82,0,none⟩=some (.int .i64 a1_0):=(blk_cell BK82.out 0).trans rfl;have hcz17_1:w16.cell? ⟨gb82,1,none⟩=some (.int .i64 a1_1):=(blk_cell BK82.out 1).trans rfl;have hcz17_2:w16.cell? ⟨gb82,2,none⟩=some (.int .i64 a1_2):=(blk_cell BK82.out 2).trans rfl;have hcz17_3:w16.cell? ⟨gb82,3,none⟩=some (.int .i64 a1_3):=(blk_cell BK82.out 3).trans rfl;have hcz17_4:w16.cell? ⟨gb82,4,none⟩=some (.int .i64 a1_4):=(blk_cell BK82.out 4).trans rfl;have hcz17_5:w16.cell? ⟨gb82,5,none⟩=some (.slice A1_5 l1_5.length c1_5):=(blk_cell BK82.out 5).trans rfl;have hfz17_0:=blk_frozen BK82.out 0;have hfz17_1:=blk_frozen BK82.out 1;have hfz17_2:=blk_frozen BK82.out 2;have hfz17_3:=blk_frozen BK82.out 3;have hfz17_4:=blk_frozen BK82.out 4;have hfz17_5:=blk_frozen BK82.out 5)|(go_at_call 63;(with_reducible refine (shared_right_1_v1.calls k a1_4 1 gb83 A0 c0 l0 gb82 a1_0 a1_1 a1_2 a1_3 a1_4 A1_5 c1_5 l1_5 t99 _ ?side1 ?side2 ?side3 ?side4 ?side5 ?side6 A13.out).mono ?_);(case side1=>exact zC (Kd.C_below HR0.out HB.out));(case side2=>exact HC0.out);(case side3=>refine zj ?_;exact BK83.out);(case side4=>exact zC (Kd.C_below HR1_5.out HB.out));(case side5=>exact HC1_5.out);(case side6=>refine zj ?_;exact BK82.out);rintro e w18 ⟨rfl,hb⟩;replace BK83:=zA (zb BK83 hb);replace BK82:=zA (zb BK82 hb);replace HB:=zA (below_step zB hb);(try clear hb);(try clear hb2);(try clear hk);(try clear hi)))
     go_ret
     exact ⟨ze,zv2 HB GE83 GE82⟩
    ·replace c12:=Bool.eq_false_iff.mpr c12;subst c12
     have H1:(some false)=some r:=by rw [if_neg (show ¬ (false=true) by decide)] at H;exact H
     clear H;have H:=H1;clear H1;obtain rfl:=Option.some.inj H;have hnb19:=NB82_83.out;have hnc19:=NB83_82.out;have hcz20_0:w5.cell? ⟨gb82,0,none⟩=some (.int .i64 a1_0):=(blk_cell BK82.out 0).trans rfl;have hcz20_1:w5.cell? ⟨gb82,1,none⟩=some (.int .i64 a1_1):=(blk_cell BK82.out 1).trans rfl;have hcz20_2:w5.cell? ⟨gb82,2,none⟩=some (.int .i64 a1_2):=(blk_cell BK82.out 2).trans rfl;have hcz20_3:w5.cell? ⟨gb82,3,none⟩=some (.int .i64 a1_3):=(blk_cell BK82.out 3).trans rfl;have hcz20_4:w5.cell? ⟨gb82,4,none⟩=some (.int .i64 a1_4):=(blk_cell BK82.out 4).trans rfl;have hcz20_5:w5.cell? ⟨gb82,5,none⟩=some (.slice A1_5 l1_5.length c1_5):=(blk_cell BK82.out 5).trans rfl;have hfz20_0:=blk_frozen BK82.out 0;have hfz20_1:=blk_frozen BK82.out 1;have hfz20_2:=blk_frozen BK82.out 2;have hfz20_3:=blk_frozen BK82.out 3;have hfz20_4:=blk_frozen BK82.out 4;have hfz20_5:=blk_frozen BK82.out 5
     go_wp2_with (first|(go_at_call 63;(with_reducible refine (shared_right_1_v1.calls k a1_3 0 gb83 A0 c0 l0 gb82 a1_0 a1_1 a1_2 a1_3 a1_4 A1_5 c1_5 l1_5 false _ ?side1 ?side2 ?side3 ?side4 ?side5 ?side6 A11.out).mono ?_);(case side1=>exact zC (Kd.C_below HR0.out HB.out));(case side2=>exact HC0.out);(case side3=>refine zj ?_;exact BK83.out);(case side4=>exact zC (Kd.C_below HR1_5.out HB.out));(case side5=>exact HC1_5.out);(case side6=>refine zj ?_;exact BK82.out);rintro e w21 ⟨rfl,hb⟩;replace BK83:=zA (zb BK83 hb);replace BK82:=zA (zb BK82 hb);replace HB:=zA (below_step zB hb);(try clear hb);(try clear hb2);(try clear hk);(try clear hi)))
     go_ret
     exact ⟨ze,zv2 HB GE83 GE82⟩
   ·rw [if_neg c10] at H;have c10b0:((l1_5.length:Int) == 0)=false:=beq_eq_false_iff_ne.mpr c10;have c10b1:((l1_5.length:Int) != 0)=true:=bne_iff_ne.mpr c10
    have c10b2:¬ (l1_5=[]):=fun h_=>c10 (by rw [h_];rfl)
    obtain rfl:=Option.some.inj H;have hnb22:=NB82_83.out;have hnc22:=NB83_82.out;have hcz23_0:w5.cell? ⟨gb82,0,none⟩=some (.int .i64 a1_0):=(blk_cell BK82.out 0).trans rfl;have hcz23_1:w5.cell? ⟨gb82,1,none⟩=some (.int .i64 a1_1):=(blk_cell BK82.out 1).trans rfl;have hcz23_2:w5.cell? ⟨gb82,2,none⟩=some (.int .i64 a1_2):=(blk_cell BK82.out 2).trans rfl;have hcz23_3:w5.cell? ⟨gb82,3,none⟩=some (.int .i64 a1_3):=(blk_cell BK82.out 3).trans rfl;have hcz23_4:w5.cell? ⟨gb82,4,none⟩=some (.int .i64 a1_4):=(blk_cell BK82.out 4).trans rfl;have hcz23_5:w5.cell? ⟨gb82,5,none⟩=some (.slice A1_5 l1_5.length c1_5):=(blk_cell BK82.out 5).trans rfl;have hfz23_0:=blk_frozen BK82.out 0;have hfz23_1:=blk_frozen BK82.out 1;have hfz23_2:=blk_frozen BK82.out 2;have hfz23_3:=blk_frozen BK82.out 3;have hfz23_4:=blk_frozen BK82.out 4;have hfz23_5:=blk_frozen BK82.out 5
    go_wp2
    go_ret
    exact ⟨ze,zv2 HB GE83 GE82⟩
  ·rw [if_neg c9] at H;have c9b0:(a1_2 == 0)=false:=beq_eq_false_iff_ne.mpr c9;have c9b1:(a1_2 != 0)=true:=bne_iff_ne.mpr c9;obtain rfl:=Option.some.inj H;have hnb24:=NB82_83.out;have hnc24:=NB83_82.out;have hcz25_0:w5.cell? ⟨gb82,0,none⟩=some (.int .i64 a1_0):=(blk_cell BK82.out 0).trans rfl;have hcz25_1:w5.cell? ⟨gb82,1,none⟩=some (.int .i64 a1_1):=(blk_cell BK82.out 1).trans rfl;have hcz25_2:w5.cell? ⟨gb82,2,none⟩=some (.int .i64 a1_2):=(blk_cell BK82.out 2).trans rfl;have hcz25_3:w5.cell? ⟨gb82,3,none⟩=some (.int .i64 a1_3):=(blk_cell BK82.out 3).trans rfl;have hcz25_4:w5.cell? ⟨gb82,4,none⟩=some (.int .i64 a1_4):=(blk_cell BK82.out 4).trans rfl;have hcz25_5:w5.cell? ⟨gb82,5,none⟩=some (.slice A1_5 l1_5.length c1_5):=(blk_cell BK82.out 5).trans rfl;have hfz25_0:=blk_frozen BK82.out 0;have hfz25_1:=blk_frozen BK82.out 1;have hfz25_2:=blk_frozen BK82.out 2;have hfz25_3:=blk_frozen BK82.out 3;have hfz25_4:=blk_frozen BK82.out 4;have hfz25_5:=blk_frozen BK82.out 5
   go_wp2
   go_ret
   exact ⟨ze,zv2 HB GE83 GE82⟩
 ·rw [if_neg c8] at H;have c8b0:(a1_1 == 3)=false:=beq_eq_false_iff_ne.mpr c8;have c8b1:(a1_1 != 3)=true:=bne_iff_ne.mpr c8
  (first|rw [c8b0]|(simp only [i64_w,i32_w];rw [c8b0])|skip)
  (try rw [c8b1])
  by_cases c26:a1_1=1
  ·rw [if_pos c26] at H;have c26b0:(a1_1 == 1)=true:=beq_iff_eq.mpr c26;have c26b1:(a1_1 != 1)=false:=bne_eq_false_iff_eq.mpr c26;clear c26;replace H:=Option.bind_eq_some_iff.mp H;obtain ⟨⟨t95,t537⟩,A270,H⟩:=H;replace H:(if t537=0 then (if a1_3=0 then (if a1_4=0 then ((solve_Holds.f k l0 a1_2).bind fun t540=>(if t540=true then ((solve_Check.f k t95 l1_5).bind fun t92=>(some t92)) else (some false))) else (some false)) else (some false)) else (some false))=some r:=H;have A27:=zA A270;clear A270;have HC28:=zA H;clear H;have hnb29:=NB83_82.out;have hnc29:=NB82_83.out;have hcz30_0:w5.cell? ⟨gb83,0,none⟩=some (.slice A0 l0.length c0):=(blk_cell BK83.out 0).trans rfl;have hfz30_0:=blk_frozen BK83.out 0;have hcz31_0:w5.cell? ⟨gb82,0,none⟩=some (.int .i64 a1_0):=(blk_cell BK82.out 0).trans rfl;have hcz31_1:w5.cell? ⟨gb82,1,none⟩=some (.int .i64 a1_1):=(blk_cell BK82.out 1).trans rfl;have hcz31_2:w5.cell? ⟨gb82,2,none⟩=some (.int .i64 a1_2):=(blk_cell BK82.out 2).trans rfl;have hcz31_3:w5.cell? ⟨gb82,3,none⟩=some (.int .i64 a1_3):=(blk_cell BK82.out 3).trans rfl;have hcz31_4:w5.cell? ⟨gb82,4,none⟩=some (.int .i64 a1_4):=(blk_cell BK82.out 4).trans rfl;have hcz31_5:w5.cell? ⟨gb82,5,none⟩=some (.slice A1_5 l1_5.length c1_5):=(blk_cell BK82.out 5).trans rfl;have hfz31_0:=blk_frozen BK82.out 0;have hfz31_1:=blk_frozen BK82.out 1;have hfz31_2:=blk_frozen BK82.out 2;have hfz31_3:=blk_frozen BK82.out 3;have hfz31_4:=blk_frozen BK82.out 4;have hfz31_5:=blk_frozen BK82.out 5
   go_upto_region 8 with (first|((with_reducible refine gate_callee (f:=65) rfl ?_);refine goesL_ (some 45) rfl rfl Try.func65 zK rfl #[.slice A0 l0.length c0,.int .i64 a1_0,.int .i64 (wrap64 (2 - a1_1))] rfl zM ?_;(with_reducible refine (solve_Given.calls k _ _ l0 a1_0 (wrap64 (2 - a1_1)) t95 t537 _ ?side1 ?side2 A27.out).mono ?_);(case side1=>exact zC (Kd.C_below HR0.out HB.out));(case side2=>exact HC0.out);rintro e w32 ⟨v538,rfl,ho0,hb⟩;refine ⟨_,rfl,?_⟩;have HO539:=zA (Kd.S_lower ho0 (below_size zB));replace BK83:=zA (zb BK83 hb);replace BK82:=zA (zb BK82 hb);replace HB:=zA (below_step zB hb);(try clear hb);(try clear hb2);(try clear hk);(try clear hi);(try clear ho0)))
   (try simp only [Act.put,zi,zs,zt]);have H:=HC28.out;clear HC28
   by_cases c33:t537=0
   ·rw [if_pos c33] at H;have c33b0:(t537 == 0)=true:=beq_iff_eq.mpr c33;have c33b1:(t537 != 0)=false:=bne_eq_false_iff_eq.mpr c33;clear c33
    (first|rw [c33b0]|(simp only [i64_w,i32_w];rw [c33b0])|skip)
    (try rw [c33b1])
    by_cases c34:a1_3=0
    ·rw [if_pos c34] at H;have c34b0:(a1_3 == 0)=true:=beq_iff_eq.mpr c34;have c34b1:(a1_3 != 0)=false:=bne_eq_false_iff_eq.mpr c34;clear c34
     by_cases c35:a1_4=0
     ·rw [if_pos c35] at H;have c35b0:(a1_4 == 0)=true:=beq_iff_eq.mpr c35;have c35b1:(a1_4 != 0)=false:=bne_eq_false_iff_eq.mpr c35;clear c35;replace H:=Option.bind_eq_some_iff.mp H;obtain ⟨t540,A360,H⟩:=H;replace H:(if t540=true then ((solve_Check.f k t95 l1_5).bind fun t92=>(some t92)) else (some false))=some r:=H;have A36:=zA A360;clear A360
      by_cases c37:t540=true
      ·subst c37
       have H1:((solve_Check.f k t95 l1_5).bind fun t92=>(some t92))=some r:=by rw [if_pos rfl] at H;exact H
       clear H;have H:=H1;clear H1;replace H:=Option.bind_eq_some_iff.mp H;obtain ⟨t92,A380,H⟩:=H;replace H:(some t92)=some r:=H;have A38:=zA A380;clear A380;obtain rfl:=Option.some.inj H;have hnb39:=NB82_83.out;have hnc39:=NB83_82.out;have hcz40_0:w32.cell? ⟨gb82,0,none⟩=some (.int .i64 a1_0):=(blk_cell BK82.out 0).trans rfl;have hcz40_1:w32.cell? ⟨gb82,1,none⟩=some (.int .i64 a1_1):=(blk_cell BK82.out 1).trans rfl;have hcz40_2:w32.cell? ⟨gb82,2,none⟩=some (.int .i64 a1_2):=(blk_cell BK82.out 2).trans rfl;have hcz40_3:w32.cell? ⟨gb82,3,none⟩=some (.int .i64 a1_3):=(blk_cell BK82.out 3).trans rfl;have hcz40_4:w32.cell? ⟨gb82,4,none⟩=some (.int .i64 a1_4):=(blk_cell BK82.out 4).trans rfl;have hcz40_5:w32.cell? ⟨gb82,5,none⟩=some (.slice A1_5 l1_5.length c1_5):=(blk_cell BK82.out 5).trans rfl;have hfz40_0:=blk_frozen BK82.out 0;have hfz40_1:=blk_frozen BK82.out 1;have hfz40_2:=blk_frozen BK82.out 2;have hfz40_3:=blk_frozen BK82.out 3;have hfz40_4:=blk_frozen BK82.out 4;have hfz40_5:=blk_frozen BK82.out 5;have hcz41_0:w32.cell? ⟨gb83,0,none⟩=some (.slice A0 l0.length c0):=(blk_cell BK83.out 0).trans rfl;have hfz41_0:=blk_frozen BK83.out 0
       go_wp2_with (first|(go_at_call 64;(with_reducible refine (solve_Holds.calls k _ _ l0 a1_2 true _ ?side1 ?side2 A36.out).mono ?_);(case side1=>exact zC (Kd.C_below HR0.out HB.out));(case side2=>exact HC0.out);rintro e w42 ⟨rfl,hb⟩;replace HO539:=zA (Kd.S_below (zS HO539) hb);replace BK83:=zA (zb BK83 hb);replace BK82:=zA (zb BK82 hb);replace HB:=zA (below_step zB hb);(try clear hb);(try clear hb2);(try clear hk);(try clear hi);have hcz43_0:w42.cell? ⟨gb82,0,none⟩=some (.int .i64 a1_0):=(blk_cell BK82.out 0).trans rfl;have hcz43_1:w42.cell? ⟨gb82,1,none⟩=some (.int .i64 a1_1):=(blk_cell BK82.out 1).trans rfl;have hcz43_2:w42.cell? ⟨gb82,2,none⟩=some (.int .i64 a1_2):=(blk_cell BK82.out 2).trans rfl;have hcz43_3:w42.cell? ⟨gb82,3,none⟩=some (.int .i64 a1_3):=(blk_cell BK82.out 3).trans rfl;have hcz43_4:w42.cell? ⟨gb82,4,none⟩=some (.int .i64 a1_4):=(blk_cell BK82.out 4).trans rfl;have hcz43_5:w42.cell? ⟨gb82,5,none⟩=some (.slice A1_5 l1_5.length c1_5):=(blk_cell BK82.out 5).trans rfl;have hfz43_0:=blk_frozen BK82.out 0;have hfz43_1:=blk_frozen BK82.out 1;have hfz43_2:=blk_frozen BK82.out 2;have hfz43_3:=blk_frozen BK82.out 3;have hfz43_4:=blk_frozen BK82.out 4;have hfz43_5:=blk_frozen BK82.out 5;obtain ⟨Ao44,co44,eo44⟩:=Kd.S_slice HO539.out;subst eo44)|(go_at_call 66;(with_reducible refine (solve_Check.calls k _ _ t95 _ _ l1_5 t92 _ ?side1 ?side2 ?side3 ?side4 A38.out).mono ?_);(case side1=>exact zC (Kd.S_reads' HO539.out).2.2);(case side2=>exact (Kd.S_reads' HO539.out).2.1);(case side3=>exact zC (Kd.C_below HR1_5.out HB.out));(case side4=>exact HC1_5.out);rintro e w45 ⟨rfl,hb⟩;replace HO539:=zA (Kd.S_below (zS HO539) hb);replace BK83:=zA (zb BK83 hb);replace BK82:=zA (zb BK82 hb);replace HB:=zA (below_step zB hb);(try clear hb);(try clear hb2);(try clear hk);(try clear hi)))
       go_ret
       exact ⟨ze,zv2 HB GE83 GE82⟩
      ·replace c37:=Bool.eq_false_iff.mpr c37;subst c37
       have H1:(some false)=some r:=by rw [if_neg (show ¬ (false=true) by decide)] at H;exact H
       clear H;have H:=H1;clear H1;obtain rfl:=Option.some.inj H;have hnb46:=NB82_83.out;have hnc46:=NB83_82.out;have hcz47_0:w32.cell? ⟨gb82,0,none⟩=some (.int .i64 a1_0):=(blk_cell BK82.out 0).trans rfl;have hcz47_1:w32.cell? ⟨gb82,1,none⟩=some (.int .i64 a1_1):=(blk_cell BK82.out 1).trans rfl;have hcz47_2:w32.cell? ⟨gb82,2,none⟩=some (.int .i64 a1_2):=(blk_cell BK82.out 2).trans rfl;have hcz47_3:w32.cell? ⟨gb82,3,none⟩=some (.int .i64 a1_3):=(blk_cell BK82.out 3).trans rfl;have hcz47_4:w32.cell? ⟨gb82,4,none⟩=some (.int .i64 a1_4):=(blk_cell BK82.out 4).trans rfl;have hcz47_5:w32.cell? ⟨gb82,5,none⟩=some (.slice A1_5 l1_5.length c1_5):=(blk_cell BK82.out 5).trans rfl;have hfz47_0:=blk_frozen BK82.out 0;have hfz47_1:=blk_frozen BK82.out 1;have hfz47_2:=blk_frozen BK82.out 2;have hfz47_3:=blk_frozen BK82.out 3;have hfz47_4:=blk_frozen BK82.out 4;have hfz47_5:=blk_frozen BK82.out 5;have hcz48_0:w32.cell? ⟨gb83,0,none⟩=some (.slice A0 l0.length c0):=(blk_cell BK83.out 0).trans rfl;have hfz48_0:=blk_frozen BK83.out 0
       go_wp2_with (first|(go_at_call 64;(with_reducible refine (solve_Holds.calls k _ _ l0 a1_2 false _ ?side1 ?side2 A36.out).mono ?_);(case side1=>exact zC (Kd.C_below HR0.out HB.out));(case side2=>exact HC0.out);rintro e w49 ⟨rfl,hb⟩;replace HO539:=zA (Kd.S_below (zS HO539) hb);replace BK83:=zA (zb BK83 hb);replace BK82:=zA (zb BK82 hb);replace HB:=zA (below_step zB hb);(try clear hb);(try clear hb2);(try clear hk);(try clear hi)))
       go_ret
       exact ⟨ze,zv2 HB GE83 GE82⟩
     ·rw [if_neg c35] at H;have c35b0:(a1_4 == 0)=false:=beq_eq_false_iff_ne.mpr c35;have c35b1:(a1_4 != 0)=true:=bne_iff_ne.mpr c35;obtain rfl:=Option.some.inj H;have hnb50:=NB82_83.out;have hnc50:=NB83_82.out;have hcz51_0:w32.cell? ⟨gb82,0,none⟩=some (.int .i64 a1_0):=(blk_cell BK82.out 0).trans rfl;have hcz51_1:w32.cell? ⟨gb82,1,none⟩=some (.int .i64 a1_1):=(blk_cell BK82.out 1).trans rfl;have hcz51_2:w32.cell? ⟨gb82,2,none⟩=some (.int .i64 a1_2):=(blk_cell BK82.out 2).trans rfl;have hcz51_3:w32.cell? ⟨gb82,3,none⟩=some (.int .i64 a1_3):=(blk_cell BK82.out 3).trans rfl;have hcz51_4:w32.cell? ⟨gb82,4,none⟩=some (.int .i64 a1_4):=(blk_cell BK82.out 4).trans rfl;have hcz51_5:w32.cell? ⟨gb82,5,none⟩=some (.slice A1_5 l1_5.length c1_5):=(blk_cell BK82.out 5).trans rfl;have hfz51_0:=blk_frozen BK82.out 0;have hfz51_1:=blk_frozen BK82.out 1;have hfz51_2:=blk_frozen BK82.out 2;have hfz51_3:=blk_frozen BK82.out 3;have hfz51_4:=blk_frozen BK82.out 4;have hfz51_5:=blk_frozen BK82.out 5
      go_wp2
      go_ret
      exact ⟨ze,zv2 HB GE83 GE82⟩
    ·rw [if_neg c34] at H;have c34b0:(a1_3 == 0)=false:=beq_eq_false_iff_ne.mpr c34;have c34b1:(a1_3 != 0)=true:=bne_iff_ne.mpr c34;obtain rfl:=Option.some.inj H;have hnb52:=NB82_83.out;have hnc52:=NB83_82.out;have hcz53_0:w32.cell? ⟨gb82,0,none⟩=some (.int .i64 a1_0):=(blk_cell BK82.out 0).trans rfl;have hcz53_1:w32.cell? ⟨gb82,1,none⟩=some (.int .i64 a1_1):=(blk_cell BK82.out 1).trans rfl;have hcz53_2:w32.cell? ⟨gb82,2,none⟩=some (.int .i64 a1_2):=(blk_cell BK82.out 2).trans rfl;have hcz53_3:w32.cell? ⟨gb82,3,none⟩=some (.int .i64 a1_3):=(blk_cell BK82.out 3).trans rfl;have hcz53_4:w32.cell? ⟨gb82,4,none⟩=some (.int .i64 a1_4):=(blk_cell BK82.out 4).trans rfl;have hcz53_5:w32.cell? ⟨gb82,5,none⟩=some (.slice A1_5 l1_5.length c1_5):=(blk_cell BK82.out 5).trans rfl;have hfz53_0:=blk_frozen BK82.out 0;have hfz53_1:=blk_frozen BK82.out 1;have hfz53_2:=blk_frozen BK82.out 2;have hfz53_3:=blk_frozen BK82.out 3;have hfz53_4:=blk_frozen BK82.out 4;have hfz53_5:=blk_frozen BK82.out 5
     go_wp2
     go_ret
     exact ⟨ze,zv2 HB GE83 GE82⟩
   ·rw [if_neg c33] at H;have c33b0:(t537 == 0)=false:=beq_eq_false_iff_ne.mpr c33;have c33b1:(t537 != 0)=true:=bne_iff_ne.mpr c33
    (first|rw [c33b0]|(simp only [i64_w,i32_w];rw [c33b0])|skip)
    (try rw [c33b1]);obtain rfl:=Option.some.inj H
    go_wp2
    go_ret
    exact ⟨ze,zv2 HB GE83 GE82⟩
  ·rw [if_neg c26] at H;have c26b0:(a1_1 == 1)=false:=beq_eq_false_iff_ne.mpr c26;have c26b1:(a1_1 != 1)=true:=bne_iff_ne.mpr c26
   by_cases c54:a1_1=2
   ·rw [if_pos c54] at H;have c54b0:(a1_1 == 2)=true:=beq_iff_eq.mpr c54;have c54b1:(a1_1 != 2)=false:=bne_eq_false_iff_eq.mpr c54;clear c54;replace H:=Option.bind_eq_some_iff.mp H;obtain ⟨⟨t96,t543⟩,A550,H⟩:=H;replace H:(if t543=0 then (if a1_3=0 then (if a1_4=0 then ((solve_Holds.f k l0 a1_2).bind fun t546=>(if t546=true then ((solve_Check.f k t96 l1_5).bind fun t93=>(some t93)) else (some false))) else (some false)) else (some false)) else (some false))=some r:=H;have A55:=zA A550;clear A550;have HC56:=zA H;clear H;have hnb57:=NB83_82.out;have hnc57:=NB82_83.out;have hcz58_0:w5.cell? ⟨gb83,0,none⟩=some (.slice A0 l0.length c0):=(blk_cell BK83.out 0).trans rfl;have hfz58_0:=blk_frozen BK83.out 0;have hcz59_0:w5.cell? ⟨gb82,0,none⟩=some (.int .i64 a1_0):=(blk_cell BK82.out 0).trans rfl;have hcz59_1:w5.cell? ⟨gb82,1,none⟩=some (.int .i64 a1_1):=(blk_cell BK82.out 1).trans rfl;have hcz59_2:w5.cell? ⟨gb82,2,none⟩=some (.int .i64 a1_2):=(blk_cell BK82.out 2).trans rfl;have hcz59_3:w5.cell? ⟨gb82,3,none⟩=some (.int .i64 a1_3):=(blk_cell BK82.out 3).trans rfl;have hcz59_4:w5.cell? ⟨gb82,4,none⟩=some (.int .i64 a1_4):=(blk_cell BK82.out 4).trans rfl;have hcz59_5:w5.cell? ⟨gb82,5,none⟩=some (.slice A1_5 l1_5.length c1_5):=(blk_cell BK82.out 5).trans rfl;have hfz59_0:=blk_frozen BK82.out 0;have hfz59_1:=blk_frozen BK82.out 1;have hfz59_2:=blk_frozen BK82.out 2;have hfz59_3:=blk_frozen BK82.out 3;have hfz59_4:=blk_frozen BK82.out 4;have hfz59_5:=blk_frozen BK82.out 5
    go_upto_region 8 with (first|((with_reducible refine gate_callee (f:=65) rfl ?_);refine goesL_ (some 45) rfl rfl Try.func65 zK rfl #[.slice A0 l0.length c0,.int .i64 a1_0,.int .i64 (wrap64 (2 - a1_1))] rfl zM ?_;(with_reducible refine (solve_Given.calls k _ _ l0 a1_0 (wrap64 (2 - a1_1)) t96 t543 _ ?side1 ?side2 A55.out).mono ?_);(case side1=>exact zC (Kd.C_below HR0.out HB.out));(case side2=>exact HC0.out);rintro e w60 ⟨v544,rfl,ho0,hb⟩;refine ⟨_,rfl,?_⟩;have HO545:=zA (Kd.S_lower ho0 (below_size zB));replace BK83:=zA (zb BK83 hb);replace BK82:=zA (zb BK82 hb);replace HB:=zA (below_step zB hb);(try clear hb);(try clear hb2);(try clear hk);(try clear hi);(try clear ho0)))
    (try simp only [Act.put,zi,zs,zt]);have H:=HC56.out;clear HC56
    by_cases c61:t543=0
    ·rw [if_pos c61] at H;have c61b0:(t543 == 0)=true:=beq_iff_eq.mpr c61;have c61b1:(t543 != 0)=false:=bne_eq_false_iff_eq.mpr c61;clear c61
     (first|rw [c61b0]|(simp only [i64_w,i32_w];rw [c61b0])|skip)
     (try rw [c61b1])
     by_cases c62:a1_3=0
     ·rw [if_pos c62] at H;have c62b0:(a1_3 == 0)=true:=beq_iff_eq.mpr c62;have c62b1:(a1_3 != 0)=false:=bne_eq_false_iff_eq.mpr c62;clear c62
      by_cases c63:a1_4=0
      ·rw [if_pos c63] at H;have c63b0:(a1_4 == 0)=true:=beq_iff_eq.mpr c63;have c63b1:(a1_4 != 0)=false:=bne_eq_false_iff_eq.mpr c63;clear c63;replace H:=Option.bind_eq_some_iff.mp H;obtain ⟨t546,A640,H⟩:=H;replace H:(if t546=true then ((solve_Check.f k t96 l1_5).bind fun t93=>(some t93)) else (some false))=some r:=H;have A64:=zA A640;clear A640
       by_cases c65:t546=true
       ·subst c65
        have H1:((solve_Check.f k t96 l1_5).bind fun t93=>(some t93))=some r:=by rw [if_pos rfl] at H;exact H
        clear H;have H:=H1;clear H1;replace H:=Option.bind_eq_some_iff.mp H;obtain ⟨t93,A660,H⟩:=H;replace H:(some t93)=some r:=H;have A66:=zA A660;clear A660;obtain rfl:=Option.some.inj H;have hnb67:=NB82_83.out;have hnc67:=NB83_82.out;have hcz68_0:w60.cell? ⟨gb82,0,none⟩=some (.int .i64 a1_0):=(blk_cell BK82.out 0).trans rfl;have hcz68_1:w60.cell? ⟨gb82,1,none⟩=some (.int .i64 a1_1):=(blk_cell BK82.out 1).trans rfl;have hcz68_2:w60.cell? ⟨gb82,2,none⟩=some (.int .i64 a1_2):=(blk_cell BK82.out 2).trans rfl;have hcz68_3:w60.cell? ⟨gb82,3,none⟩=some (.int .i64 a1_3):=(blk_cell BK82.out 3).trans rfl;have hcz68_4:w60.cell? ⟨gb82,4,none⟩=some (.int .i64 a1_4):=(blk_cell BK82.out 4).trans rfl;have hcz68_5:w60.cell? ⟨gb82,5,none⟩=some (.slice A1_5 l1_5.length c1_5):=(blk_cell BK82.out 5).trans rfl;have hfz68_0:=blk_frozen BK82.out 0;have hfz68_1:=blk_frozen BK82.out 1;have hfz68_2:=blk_frozen BK82.out 2;have hfz68_3:=blk_frozen BK82.out 3;have hfz68_4:=blk_frozen BK82.out 4;have hfz68_5:=blk_frozen BK82.out 5;have hcz69_0:w60.cell? ⟨gb83,0,none⟩=some (.slice A0 l0.length c0):=(blk_cell BK83.out 0).trans rfl;have hfz69_0:=blk_frozen BK83.out 0
        go_wp2_with (first|(go_at_call 64;(with_reducible refine (solve_Holds.calls k _ _ l0 a1_2 true _ ?side1 ?side2 A64.out).mono ?_);(case side1=>exact zC (Kd.C_below HR0.out HB.out));(case side2=>exact HC0.out);rintro e w70 ⟨rfl,hb⟩;replace HO545:=zA (Kd.S_below (zS HO545) hb);replace BK83:=zA (zb BK83 hb);replace BK82:=zA (zb BK82 hb);replace HB:=zA (below_step zB hb);(try clear hb);(try clear hb2);(try clear hk);(try clear hi);have hcz71_0:w70.cell? ⟨gb82,0,none⟩=some (.int .i64 a1_0):=(blk_cell BK82.out 0).trans rfl;have hcz71_1:w70.cell? ⟨gb82,1,none⟩=some (.int .i64 a1_1):=(blk_cell BK82.out 1).trans rfl;have hcz71_2:w70.cell? ⟨gb82,2,none⟩=some (.int .i64 a1_2):=(blk_cell BK82.out 2).trans rfl;have hcz71_3:w70.cell? ⟨gb82,3,none⟩=some (.int .i64 a1_3):=(blk_cell BK82.out 3).trans rfl;have hcz71_4:w70.cell? ⟨gb82,4,none⟩=some (.int .i64 a1_4):=(blk_cell BK82.out 4).trans rfl;have hcz71_5:w70.cell? ⟨gb82,5,none⟩=some (.slice A1_5 l1_5.length c1_5):=(blk_cell BK82.out 5).trans rfl;have hfz71_0:=blk_frozen BK82.out 0;have hfz71_1:=blk_frozen BK82.out 1;have hfz71_2:=blk_frozen BK82.out 2;have hfz71_3:=blk_frozen BK82.out 3;have hfz71_4:=blk_frozen BK82.out 4;have hfz71_5:=blk_frozen BK82.out 5;obtain ⟨Ao72,co72,eo72⟩:=Kd.S_slice HO545.out;subst eo72)|(go_at_call 66;(with_reducible refine (solve_Check.calls k _ _ t96 _ _ l1_5 t93 _ ?side1 ?side2 ?side3 ?side4 A66.out).mono ?_);(case side1=>exact zC (Kd.S_reads' HO545.out).2.2);(case side2=>exact (Kd.S_reads' HO545.out).2.1);(case side3=>exact zC (Kd.C_below HR1_5.out HB.out));(case side4=>exact HC1_5.out);rintro e w73 ⟨rfl,hb⟩;replace HO545:=zA (Kd.S_below (zS HO545) hb);replace BK83:=zA (zb BK83 hb);replace BK82:=zA (zb BK82 hb);replace HB:=zA (below_step zB hb);(try clear hb);(try clear hb2);(try clear hk);(try clear hi)))
        go_ret
        exact ⟨ze,zv2 HB GE83 GE82⟩
       ·replace c65:=Bool.eq_false_iff.mpr c65;subst c65
        have H1:(some false)=some r:=by rw [if_neg (show ¬ (false=true) by decide)] at H;exact H
        clear H;have H:=H1;clear H1;obtain rfl:=Option.some.inj H;have hnb74:=NB82_83.out;have hnc74:=NB83_82.out;have hcz75_0:w60.cell? ⟨gb82,0,none⟩=some (.int .i64 a1_0):=(blk_cell BK82.out 0).trans rfl;have hcz75_1:w60.cell? ⟨gb82,1,none⟩=some (.int .i64 a1_1):=(blk_cell BK82.out 1).trans rfl;have hcz75_2:w60.cell? ⟨gb82,2,none⟩=some (.int .i64 a1_2):=(blk_cell BK82.out 2).trans rfl;have hcz75_3:w60.cell? ⟨gb82,3,none⟩=some (.int .i64 a1_3):=(blk_cell BK82.out 3).trans rfl;have hcz75_4:w60.cell? ⟨gb82,4,none⟩=some (.int .i64 a1_4):=(blk_cell BK82.out 4).trans rfl;have hcz75_5:w60.cell? ⟨gb82,5,none⟩=some (.slice A1_5 l1_5.length c1_5):=(blk_cell BK82.out 5).trans rfl;have hfz75_0:=blk_frozen BK82.out 0;have hfz75_1:=blk_frozen BK82.out 1;have hfz75_2:=blk_frozen BK82.out 2;have hfz75_3:=blk_frozen BK82.out 3;have hfz75_4:=blk_frozen BK82.out 4;have hfz75_5:=blk_frozen BK82.out 5;have hcz76_0:w60.cell? ⟨gb83,0,none⟩=some (.slice A0 l0.length c0):=(blk_cell BK83.out 0).trans rfl;have hfz76_0:=blk_frozen BK83.out 0
        go_wp2_with (first|(go_at_call 64;(with_reducible refine (solve_Holds.calls k _ _ l0 a1_2 false _ ?side1 ?side2 A64.out).mono ?_);(case side1=>exact zC (Kd.C_below HR0.out HB.out));(case side2=>exact HC0.out);rintro e w77 ⟨rfl,hb⟩;replace HO545:=zA (Kd.S_below (zS HO545) hb);replace BK83:=zA (zb BK83 hb);replace BK82:=zA (zb BK82 hb);replace HB:=zA (below_step zB hb);(try clear hb);(try clear hb2);(try clear hk);(try clear hi)))
        go_ret
        exact ⟨ze,zv2 HB GE83 GE82⟩
      ·rw [if_neg c63] at H;have c63b0:(a1_4 == 0)=false:=beq_eq_false_iff_ne.mpr c63;have c63b1:(a1_4 != 0)=true:=bne_iff_ne.mpr c63;obtain rfl:=Option.some.inj H;have hnb78:=NB82_83.out;have hnc78:=NB83_82.out;have hcz79_0:w60.cell? ⟨gb82,0,none⟩=some (.int .i64 a1_0):=(blk_cell BK82.out 0).trans rfl;have hcz79_1:w60.cell? ⟨gb82,1,none⟩=some (.int .i64 a1_1):=(blk_cell BK82.out 1).trans rfl;have hcz79_2:w60.cell? ⟨gb82,2,none⟩=some (.int .i64 a1_2):=(blk_cell BK82.out 2).trans rfl;have hcz79_3:w60.cell? ⟨gb82,3,none⟩=some (.int .i64 a1_3):=(blk_cell BK82.out 3).trans rfl;have hcz79_4:w60.cell? ⟨gb82,4,none⟩=some (.int .i64 a1_4):=(blk_cell BK82.out 4).trans rfl;have hcz79_5:w60.cell? ⟨gb82,5,none⟩=some (.slice A1_5 l1_5.length c1_5):=(blk_cell BK82.out 5).trans rfl;have hfz79_0:=blk_frozen BK82.out 0;have hfz79_1:=blk_frozen BK82.out 1;have hfz79_2:=blk_frozen BK82.out 2;have hfz79_3:=blk_frozen BK82.out 3;have hfz79_4:=blk_frozen BK82.out 4;have hfz79_5:=blk_frozen BK82.out 5
       go_wp2
       go_ret
       exact ⟨ze,zv2 HB GE83 GE82⟩
     ·rw [if_neg c62] at H;have c62b0:(a1_3 == 0)=false:=beq_eq_false_iff_ne.mpr c62;have c62b1:(a1_3 != 0)=true:=bne_iff_ne.mpr c62;obtain rfl:=Option.some.inj H;have hnb80:=NB82_83.out;have hnc80:=NB83_82.out;have hcz81_0:w60.cell? ⟨gb82,0,none⟩=some (.int .i64 a1_0):=(blk_cell BK82.out 0).trans rfl;have hcz81_1:w60.cell? ⟨gb82,1,none⟩=some (.int .i64 a1_1):=(blk_cell BK82.out 1).trans rfl;have hcz81_2:w60.cell? ⟨gb82,2,none⟩=some (.int .i64 a1_2):=(blk_cell BK82.out 2).trans rfl;have hcz81_3:w60.cell? ⟨gb82,3,none⟩=some (.int .i64 a1_3):=(blk_cell BK82.out 3).trans rfl;have hcz81_4:w60.cell? ⟨gb82,4,none⟩=some (.int .i64 a1_4):=(blk_cell BK82.out 4).trans rfl;have hcz81_5:w60.cell? ⟨gb82,5,none⟩=some (.slice A1_5 l1_5.length c1_5):=(blk_cell BK82.out 5).trans rfl;have hfz81_0:=blk_frozen BK82.out 0;have hfz81_1:=blk_frozen BK82.out 1;have hfz81_2:=blk_frozen BK82.out 2;have hfz81_3:=blk_frozen BK82.out 3;have hfz81_4:=blk_frozen BK82.out 4;have hfz81_5:=blk_frozen BK82.out 5
      go_wp2
      go_ret
      exact ⟨ze,zv2 HB GE83 GE82⟩
    ·rw [if_neg c61] at H;have c61b0:(t543 == 0)=false:=beq_eq_false_iff_ne.mpr c61;have c61b1:(t543 != 0)=true:=bne_iff_ne.mpr c61
     (first|rw [c61b0]|(simp only [i64_w,i32_w];rw [c61b0])|skip)
     (try rw [c61b1]);obtain rfl:=Option.some.inj H
     go_wp2
     go_ret
     exact ⟨ze,zv2 HB GE83 GE82⟩
   ·rw [if_neg c54] at H;have c54b0:(a1_1 == 2)=false:=beq_eq_false_iff_ne.mpr c54;have c54b1:(a1_1 != 2)=true:=bne_iff_ne.mpr c54;obtain rfl:=Option.some.inj H
    go_wp2
    go_ret
    exact ⟨ze,zv2 HB GE83 GE82⟩
def shared_Check_1_v1.f (k:Nat) (a0_0:Int) (a0_1:Int) (a0_2:Int) (a0_3:Int) (a0_4:Int) (l0_5:List (S116)) (l1_0:List (S34)):Option (Bool):=(shared_right.f k l1_0 a0_0 a0_1 a0_2 a0_3 a0_4 l0_5).bind fun t550=>(some (!t550))
theorem shared_Check_1_v1.mono:∀ a0 a1 a2 a3 a4 a5 a6 k,LeO (shared_Check_1_v1.f k a0 a1 a2 a3 a4 a5 a6) (shared_Check_1_v1.f (k+1) a0 a1 a2 a3 a4 a5 a6):=by
 intro a0 a1 a2 a3 a4 a5 a6 k
 unfold shared_Check_1_v1.f
 repeat' first
   | (with_reducible exact shared_right.mono _ _ _ _ _ _ _ _)
   | (with_reducible exact LeO.refl _)
   | (with_reducible exact LeO.none _)
   | (with_reducible refine LeO.ite ?_ ?_)
   | (with_reducible refine LeO.bind ?_ (fun _=>?_))
   | exact LeO.none _
   | refine LeO.ite ?_ ?_
   | refine LeO.bind ?_ (fun _=>?_)
set_option maxHeartbeats 8000000 in
set_option maxRecDepth 100000 in
theorem shared_Check_1_v1.calls (k:Nat) (a0_0:Int) (a0_1:Int) (a0_2:Int) (a0_3:Int) (a0_4:Int) (A0_5:Option Addr) (c0_5:Nat) (l0_5:List (S116)) (gp1_0:Nat) (A1_0:Option Addr) (c1_0:Nat) (l1_0:List (S34)) (r:Bool) (w:World) (hr0_5:Kd.C k116 w A0_5 l0_5.length l0_5) (hc0_5:l0_5.length≤c0_5) (hr1_0:Kd.C k34 w A1_0 l1_0.length l1_0) (hc1_0:l1_0.length≤c1_0) (hb_gp1_0:w.heap[gp1_0]?=some (.cells #[.slice A1_0 l1_0.length c1_0] 22 (0,0))) (h:shared_Check_1_v1.f k a0_0 a0_1 a0_2 a0_3 a0_4 l0_5 l1_0=some r) :
  Calls Try.prog 48 #[.agg #[.int .i64 a0_0,.int .i64 a0_1,.int .i64 a0_2,.int .i64 a0_3,.int .i64 a0_4,.slice A0_5 l0_5.length c0_5],.pointer (some ⟨gp1_0,0,none⟩)] w fun e w'=>e=.returned (.bool r)∧Below w.heap.size w w':=by
 have hu65:=Try.underlying65;have hu22:=Try.underlying22;have HR0_5:=zA hr0_5;have HC0_5:=zA hc0_5;clear hr0_5 hc0_5;have HR1_0:=zA hr1_0;have HC1_0:=zA hc1_0;clear hr1_0 hc1_0;have BK91:=zA hb_gp1_0;clear hb_gp1_0;have HB:=zA (Below.refl w.heap.size w);have H:((shared_right.f k l1_0 a0_0 a0_1 a0_2 a0_3 a0_4 l0_5).bind fun t550=>(some (!t550)))=some r:=h;clear h;replace H:=Option.bind_eq_some_iff.mp H;obtain ⟨t550,A30,H⟩:=H;replace H:(some (!t550))=some r:=H;have A3:=zA A30;clear A30;obtain rfl:=Option.some.inj H
 go_enter Try.func48,Try.ntmps48
 go_wp2_with (first|((with_reducible refine gate_dst (N:=2) rfl ?_);refine box_event ?hg (N:=2) ?hd (cs:=#[.int .i64 a0_0,.int .i64 a0_1,.int .i64 a0_2,.int .i64 a0_3,.int .i64 a0_4,.slice A0_5 l0_5.length c0_5]) (t:=65) ?hr ?_;(case hd=>rfl);(case hg=>rfl);(case hr=>first|(go_simp;done)|(go_simp;rfl));intro gb88 hg w4 hbox hb;have BK88:=zA (hbox);have GW88:=zA (zG hg (below_size zB):w.heap.size≤gb88);have GE88:=GW88;have NB91_88:=zA ((zl hg (zk BK91):gp1_0≠gb88));have NB88_91:=zA ((zg hg (zk BK91):gb88≠gp1_0));replace BK91:=zA (zb BK91 hb);replace HB:=zA (below_step zB hb);clear hb hbox hg;have hnb5:=NB91_88.out;have hnc5:=NB88_91.out;have hcz6_0:w4.cell? ⟨gp1_0,0,none⟩=some (.slice A1_0 l1_0.length c1_0):=(blk_cell BK91.out 0).trans rfl;have hfz6_0:=blk_frozen BK91.out 0;have hcz7_0:w4.cell? ⟨gb88,0,none⟩=some (.int .i64 a0_0):=(blk_cell BK88.out 0).trans rfl;have hcz7_1:w4.cell? ⟨gb88,1,none⟩=some (.int .i64 a0_1):=(blk_cell BK88.out 1).trans rfl;have hcz7_2:w4.cell? ⟨gb88,2,none⟩=some (.int .i64 a0_2):=(blk_cell BK88.out 2).trans rfl;have hcz7_3:w4.cell? ⟨gb88,3,none⟩=some (.int .i64 a0_3):=(blk_cell BK88.out 3).trans rfl;have hcz7_4:w4.cell? ⟨gb88,4,none⟩=some (.int .i64 a0_4):=(blk_cell BK88.out 4).trans rfl;have hcz7_5:w4.cell? ⟨gb88,5,none⟩=some (.slice A0_5 l0_5.length c0_5):=(blk_cell BK88.out 5).trans rfl;have hfz7_0:=blk_frozen BK88.out 0;have hfz7_1:=blk_frozen BK88.out 1;have hfz7_2:=blk_frozen BK88.out 2;have hfz7_3:=blk_frozen BK88.out 3;have hfz7_4:=blk_frozen BK88.out 4;have hfz7_5:=blk_frozen BK88.out 5)|((with_reducible refine gate_callee (f:=49) rfl ?_);refine goesL_ (some 6) rfl rfl Try.func49 zK rfl #[.slice A1_0 l1_0.length c1_0,.agg #[.int .i64 a0_0,.int .i64 a0_1,.int .i64 a0_2,.int .i64 a0_3,.int .i64 a0_4,.slice A0_5 l0_5.length c0_5]] rfl zM ?_;(with_reducible refine (shared_right.calls k _ _ l1_0 a0_0 a0_1 a0_2 a0_3 a0_4 _ _ l0_5 t550 _ ?side1 ?side2 ?side3 ?side4 A3.out).mono ?_);(case side1=>exact zC (Kd.C_below HR1_0.out HB.out));(case side2=>exact HC1_0.out);(case side3=>exact zC (Kd.C_below HR0_5.out HB.out));(case side4=>exact HC0_5.out);rintro e w8 ⟨rfl,hb⟩;refine ⟨_,rfl,?_⟩;replace BK91:=zA (zb BK91 hb);replace BK88:=zA (zb BK88 hb);replace HB:=zA (below_step zB hb);(try clear hb);(try clear hb2);(try clear hk);(try clear hi)))
 go_ret
 exact ⟨ze,zv1 HB GE88⟩
def api_Evidence_shared_Check_1_v1.l0:Nat→List (S65)→Int→Int→List (S34)→Option (Int)
 | 0,_,_,_,_=>none
 | k+1,x0,x7,x8,x117=>if x8<x7 then (if 0≤x8 then (if x8<(x0.length:Int) then ((shared_Check_1_v1.f k ((rd_T65 x0 x8).f0) ((rd_T65 x0 x8).f1) ((rd_T65 x0 x8).f2) ((rd_T65 x0 x8).f3) ((rd_T65 x0 x8).f4) ((rd_T65 x0 x8).f5.f0) x117).bind fun t553=>(if t553=true then (some x8) else (api_Evidence_shared_Check_1_v1.l0 k x0 x7 (wrap64 (x8+1)) x117))) else (none)) else (none)) else (some (-1))
def api_Evidence_shared_Check_1_v1.f (k:Nat) (l0:List (S65)) (l1_0:List (S34)):Option (Int):=api_Evidence_shared_Check_1_v1.l0 k l0 (l0.length:Int) 0 l1_0
theorem api_Evidence_shared_Check_1_v1.mono_l:∀ k,(∀ y0 y1 y2 y3,LeO (api_Evidence_shared_Check_1_v1.l0 k y0 y1 y2 y3) (api_Evidence_shared_Check_1_v1.l0 (k+1) y0 y1 y2 y3))
 | 0=>fun _ _ _ _ r h=>by simp [api_Evidence_shared_Check_1_v1.l0] at h
 | k+1=>by
  have ih0:=api_Evidence_shared_Check_1_v1.mono_l k
  ·intro y0 y1 y2 y3
   unfold api_Evidence_shared_Check_1_v1.l0
   repeat' first
   | (with_reducible exact ih0 _ _ _ _)
   | (with_reducible exact shared_Check_1_v1.mono _ _ _ _ _ _ _ _)
   | (with_reducible exact LeO.refl _)
   | (with_reducible exact LeO.none _)
   | (with_reducible refine LeO.ite ?_ ?_)
   | (with_reducible refine LeO.bind ?_ (fun _=>?_))
   | exact LeO.none _
   | refine LeO.ite ?_ ?_
   | refine LeO.bind ?_ (fun _=>?_)
theorem api_Evidence_shared_Check_1_v1.mono:∀ a0 a1 k,LeO (api_Evidence_shared_Check_1_v1.f k a0 a1) (api_Evidence_shared_Check_1_v1.f (k+1) a0 a1):=by
 intro a0 a1 k;have ih0:=api_Evidence_shared_Check_1_v1.mono_l k
 unfold api_Evidence_shared_Check_1_v1.f
 repeat' first
   | (with_reducible exact ih0 _ _ _ _)
   | (with_reducible exact shared_Check_1_v1.mono _ _ _ _ _ _ _ _)
   | (with_reducible exact LeO.refl _)
   | (with_reducible exact LeO.none _)
   | (with_reducible refine LeO.ite ?_ ?_)
   | (with_reducible refine LeO.bind ?_ (fun _=>?_))
   | exact LeO.none _
   | refine LeO.ite ?_ ?_
   | refine LeO.bind ?_ (fun _=>?_)
set_option maxHeartbeats 8000000 in
set_option maxRecDepth 100000 in
theorem api_Evidence_shared_Check_1_v1.calls (k:Nat) (A0:Option Addr) (c0:Nat) (l0:List (S65)) (gp1_0:Nat) (A1_0:Option Addr) (c1_0:Nat) (l1_0:List (S34)) (r:Int) (w:World) (hr0:Kd.C k65 w A0 l0.length l0) (hc0:l0.length≤c0) (hr1_0:Kd.C k34 w A1_0 l1_0.length l1_0) (hc1_0:l1_0.length≤c1_0) (hb_gp1_0:w.heap[gp1_0]?=some (.cells #[.slice A1_0 l1_0.length c1_0] 22 (0,0))) (h:api_Evidence_shared_Check_1_v1.f k l0 l1_0=some r) :
  Calls Try.prog 62 #[.slice A0 l0.length c0,.func (.func 48) #[] #[.pointer (some ⟨gp1_0,0,none⟩)]] w fun e w'=>e=.returned (.int .i64 r)∧Below w.heap.size w w':=by
 have hu65:=Try.underlying65;have HR0:=zA hr0;have HC0:=zA hc0;clear hr0 hc0;have HR1_0:=zA hr1_0;have HC1_0:=zA hc1_0;clear hr1_0 hc1_0;have BK551:=zA hb_gp1_0;clear hb_gp1_0;have HB:=zA (Below.refl w.heap.size w);have H:(api_Evidence_shared_Check_1_v1.l0 k l0 (l0.length:Int) 0 l1_0)=some r:=h;clear h;have H':=zA H;clear H
 go_enter Try.func62,Try.ntmps62
 go_wp2
 go_loopg [8] k (fun kq v8 w'=>∃ (x8_1:Int),v8=.int .i64 x8_1∧Aside0 (api_Evidence_shared_Check_1_v1.l0 kq l0 (l0.length:Int) x8_1 l1_0=some r)∧Aside0 (kq≤k)∧Aside0 (w'.heap[gp1_0]?=some (.cells #[(.slice A1_0 l1_0.length c1_0)] 22 (0,0)))∧Aside0 (Below w.heap.size w w'))
 case atStart=>exact ⟨(0),zT,H',⟨Nat.le_refl _⟩,⟨by refine zj ?_;exact BK551.out⟩,⟨zv0 HB⟩⟩
 case round=>
  clear H';obtain ⟨x8_1,rfl,HA,HK1,BK551,HB⟩:=hrel
  cases gk with
  | zero=>exact absurd HA.out (by simp [api_Evidence_shared_Check_1_v1.l0])
  | succ k1=>
   have H:=HA.out;clear HA;simp only [api_Evidence_shared_Check_1_v1.l0] at H
   by_cases c3:x8_1<(l0.length:Int)
   ·rw [if_pos c3] at H;have c3b0:decide (x8_1<(l0.length:Int))=true:=decide_eq_true c3;clear c3
    by_cases c4:0≤x8_1
    ·rw [if_pos c4] at H;have c4b0:decide (0≤x8_1)=true:=decide_eq_true c4;clear c4
     by_cases c5:x8_1<(l0.length:Int)
     ·rw [if_pos c5] at H;have c5b0:decide (x8_1<(l0.length:Int))=true:=decide_eq_true c5;clear c5;replace H:=Option.bind_eq_some_iff.mp H;obtain ⟨t553,A60,H⟩:=H;replace H:(if t553=true then (some x8_1) else (api_Evidence_shared_Check_1_v1.l0 k1 l0 (l0.length:Int) (wrap64 (x8_1+1)) l1_0))=some r:=H;have A6:=zA A60;clear A60;have HC7:=zA H;clear H;have p87:0≤(x8_1:Int):=of_decide_eq_true zh;have q87:x8_1<(l0.length:Int):=of_decide_eq_true zh;obtain ⟨ad87,A87_5,c87_5,e87,hx87_0,hx87_1,hx87_2,hx87_3,hx87_4,hx87_5,hl87_5,hi87_5⟩:=at_T65 HR0.out x8_1 p87 q87
      cases e87
      replace hx87_0:=(HB.out.cell (World.block_lt_of_cell? w _ hx87_0)).trans hx87_0;replace hx87_1:=(HB.out.cell (World.block_lt_of_cell? w _ hx87_1)).trans hx87_1;replace hx87_2:=(HB.out.cell (World.block_lt_of_cell? w _ hx87_2)).trans hx87_2;replace hx87_3:=(HB.out.cell (World.block_lt_of_cell? w _ hx87_3)).trans hx87_3;replace hx87_4:=(HB.out.cell (World.block_lt_of_cell? w _ hx87_4)).trans hx87_4;replace hx87_5:=(HB.out.cell (World.block_lt_of_cell? w _ hx87_5)).trans hx87_5;have HR87_5:=zA hi87_5;have HC87_5:=zA hl87_5;clear hi87_5 hl87_5;replace p87:=eq_true p87;replace q87:=eq_true q87
      go_upto_if 16 with (first|(go_at_call 48;(with_reducible refine (shared_Check_1_v1.calls k1 ((rd_T65 l0 x8_1).f0) ((rd_T65 l0 x8_1).f1) ((rd_T65 l0 x8_1).f2) ((rd_T65 l0 x8_1).f3) ((rd_T65 l0 x8_1).f4) _ _ ((rd_T65 l0 x8_1).f5.f0) gp1_0 A1_0 c1_0 l1_0 t553 _ ?side1 ?side2 ?side3 ?side4 ?side5 A6.out).mono ?_);(case side1=>exact zC (Kd.C_below HR87_5.out HB.out));(case side2=>exact HC87_5.out);(case side3=>exact zC (Kd.C_below HR1_0.out HB.out));(case side4=>exact HC1_0.out);(case side5=>refine zj ?_;exact BK551.out);rintro e w8 ⟨rfl,hb⟩;replace BK551:=zA (zb BK551 hb);replace HB:=zA (below_step zB hb);(try clear hb);(try clear hb2);(try clear hk);(try clear hi)))
      (try simp only [Act.put,zi,zs,zt]);have H:=HC7.out;clear HC7
      by_cases c9:t553=true
      ·subst c9
       have H1:(some x8_1)=some r:=by rw [if_pos rfl] at H;exact H
       clear H;have H:=H1;clear H1;obtain rfl:=Option.some.inj H
       go_wp2
       go_ret
       exact ⟨ze,zv0 HB⟩
      ·replace c9:=Bool.eq_false_iff.mpr c9;subst c9
       have H1:(api_Evidence_shared_Check_1_v1.l0 k1 l0 (l0.length:Int) (wrap64 (x8_1+1)) l1_0)=some r:=by rw [if_neg (show ¬ (false=true) by decide)] at H;exact H
       clear H;have H:=H1;clear H1;have H':=zA H;clear H
       go_wp2
       go_roundg k1
       case measure=>have:=HK1.out;omega
       case rel=>exact ⟨(wrap64 (x8_1+1)),zT,H',⟨by have:=HK1.out;omega⟩,⟨by refine zj ?_;exact BK551.out⟩,⟨zv0 HB⟩⟩
     ·rw [if_neg c5] at H;exact absurd H (by simp)
    ·rw [if_neg c4] at H;exact absurd H (by simp)
   ·rw [if_neg c3] at H;have c3b0:decide (x8_1<(l0.length:Int))=false:=decide_eq_false c3;clear c3;obtain rfl:=Option.some.inj H
    go_wp2
    go_ret
    exact ⟨ze,zv0 HB⟩
def api_Evidence_shared_Check_1.f (k:Nat) (l0:List (S65)) (l1_0:List (S34)):Option (Bool):=(api_Evidence_shared_Check_1_v1.f k l0 l1_0).bind fun t555=>(some (decide (t555≥0)))
theorem api_Evidence_shared_Check_1.mono:∀ a0 a1 k,LeO (api_Evidence_shared_Check_1.f k a0 a1) (api_Evidence_shared_Check_1.f (k+1) a0 a1):=by
 intro a0 a1 k
 unfold api_Evidence_shared_Check_1.f
 repeat' first
   | (with_reducible exact api_Evidence_shared_Check_1_v1.mono _ _ _)
   | (with_reducible exact LeO.refl _)
   | (with_reducible exact LeO.none _)
   | (with_reducible refine LeO.ite ?_ ?_)
   | (with_reducible refine LeO.bind ?_ (fun _=>?_))
   | exact LeO.none _
   | refine LeO.ite ?_ ?_
   | refine LeO.bind ?_ (fun _=>?_)
set_option maxHeartbeats 8000000 in
set_option maxRecDepth 100000 in
theorem api_Evidence_shared_Check_1.calls (k:Nat) (A0:Option Addr) (c0:Nat) (l0:List (S65)) (gp1_0:Nat) (A1_0:Option Addr) (c1_0:Nat) (l1_0:List (S34)) (r:Bool) (w:World) (hr0:Kd.C k65 w A0 l0.length l0) (hc0:l0.length≤c0) (hr1_0:Kd.C k34 w A1_0 l1_0.length l1_0) (hc1_0:l1_0.length≤c1_0) (hb_gp1_0:w.heap[gp1_0]?=some (.cells #[.slice A1_0 l1_0.length c1_0] 22 (0,0))) (h:api_Evidence_shared_Check_1.f k l0 l1_0=some r) :
  Calls Try.prog 47 #[.slice A0 l0.length c0,.func (.func 48) #[] #[.pointer (some ⟨gp1_0,0,none⟩)]] w fun e w'=>e=.returned (.bool r)∧Below w.heap.size w w':=by
 have HR0:=zA hr0;have HC0:=zA hc0;clear hr0 hc0;have HR1_0:=zA hr1_0;have HC1_0:=zA hc1_0;clear hr1_0 hc1_0;have BK554:=zA hb_gp1_0;clear hb_gp1_0;have HB:=zA (Below.refl w.heap.size w);have H:((api_Evidence_shared_Check_1_v1.f k l0 l1_0).bind fun t555=>(some (decide (t555≥0))))=some r:=h;clear h;replace H:=Option.bind_eq_some_iff.mp H;obtain ⟨t555,A30,H⟩:=H;replace H:(some (decide (t555≥0)))=some r:=H;have A3:=zA A30;clear A30;obtain rfl:=Option.some.inj H
 go_enter Try.func47,Try.ntmps47
 go_wp2_with (first|((with_reducible refine gate_callee (f:=62) rfl ?_);refine goesL_ (some 7) rfl rfl Try.func62 zK rfl #[.slice A0 l0.length c0,.func (.func 48) #[] #[.pointer (some ⟨gp1_0,0,none⟩)]] rfl zM ?_;(with_reducible refine (api_Evidence_shared_Check_1_v1.calls k _ _ l0 gp1_0 A1_0 c1_0 l1_0 t555 _ ?side1 ?side2 ?side3 ?side4 ?side5 A3.out).mono ?_);(case side1=>repeat (first|exact HR0.out|(with_reducible refine Kd.C_alloc ?_ _)|(with_reducible refine Kd.C_drewN ?_ _)|(with_reducible refine Kd.C_drew ?_)));(case side2=>exact HC0.out);(case side3=>repeat (first|exact HR1_0.out|(with_reducible refine Kd.C_alloc ?_ _)|(with_reducible refine Kd.C_drewN ?_ _)|(with_reducible refine Kd.C_drew ?_)));(case side4=>exact HC1_0.out);(case side5=>refine zj ?_;exact BK554.out);rintro e w4 ⟨rfl,hb⟩;refine ⟨_,rfl,?_⟩;replace BK554:=zA (zb BK554 hb);replace HB:=zA (below_step zB hb);(try clear hb);(try clear hb2);(try clear hk);(try clear hi)))
 go_ret
 exact ⟨ze,zv0 HB⟩
def shared_Check.l0:Nat→List (S65)→List Int→List (S65)→Int→Int→List (S34)→Option (Bool)
 | 0,_,_,_,_,_,_=>none
 | k+1,x1,x5,x13,x14,x15,x105=>if x15<x14 then (if 0≤x15 then (if x15<(x13.length:Int) then (if x5.length<17592186044416 then (shared_Check.l0 k x1 (x5++[(rd_T65 x13 x15).f0]) x13 x14 (wrap64 (x15+1)) x105) else (none)) else (none)) else (none)) else ((solve_First.f k x105).bind fun bt563=>(if bt563.2=0 then ((solve_Vars.f k x105).bind fun t97=>((slices_Equal_int_int.f k x5 t97).bind fun t568=>(if t568=true then ((api_Evidence_shared_Check_1.f k x1 x105).bind fun t94=>(some (!t94))) else (some false)))) else (some false)))
def shared_Check.f (k:Nat) (l0:List (S34)) (l1:List (S65)):Option (Bool):=(shared_given.f k l0).bind fun t98=>(if t98=0 then (shared_Check.l0 k l1 ([]:List Int) l1 (l1.length:Int) 0 l0) else (some false))
theorem shared_Check.mono_l:∀ k,(∀ y0 y1 y2 y3 y4 y5,LeO (shared_Check.l0 k y0 y1 y2 y3 y4 y5) (shared_Check.l0 (k+1) y0 y1 y2 y3 y4 y5))
 | 0=>fun _ _ _ _ _ _ r h=>by simp [shared_Check.l0] at h
 | k+1=>by
  have ih0:=shared_Check.mono_l k
  ·intro y0 y1 y2 y3 y4 y5
   unfold shared_Check.l0
   repeat' first
   | (with_reducible exact ih0 _ _ _ _ _ _)
   | (with_reducible exact api_Evidence_shared_Check_1.mono _ _ _)
   | (with_reducible exact shared_given.mono _ _)
   | (with_reducible exact slices_Equal_int_int.mono _ _ _)
   | (with_reducible exact solve_First.mono _ _)
   | (with_reducible exact solve_Vars.mono _ _)
   | (with_reducible exact LeO.refl _)
   | (with_reducible exact LeO.none _)
   | (with_reducible refine LeO.ite ?_ ?_)
   | (with_reducible refine LeO.bind ?_ (fun _=>?_))
   | exact LeO.none _
   | refine LeO.ite ?_ ?_
   | refine LeO.bind ?_ (fun _=>?_)
theorem shared_Check.mono:∀ a0 a1 k,LeO (shared_Check.f k a0 a1) (shared_Check.f (k+1) a0 a1):=by
 intro a0 a1 k;have ih0:=shared_Check.mono_l k
 unfold shared_Check.f
 repeat' first
   | (with_reducible exact ih0 _ _ _ _ _ _)
   | (with_reducible exact api_Evidence_shared_Check_1.mono _ _ _)
   | (with_reducible exact shared_given.mono _ _)
   | (with_reducible exact slices_Equal_int_int.mono _ _ _)
   | (with_reducible exact solve_First.mono _ _)
   | (with_reducible exact solve_Vars.mono _ _)
   | (with_reducible exact LeO.refl _)
   | (with_reducible exact LeO.none _)
   | (with_reducible refine LeO.ite ?_ ?_)
   | (with_reducible refine LeO.bind ?_ (fun _=>?_))
   | exact LeO.none _
   | refine LeO.ite ?_ ?_
   | refine LeO.bind ?_ (fun _=>?_)
set_option maxHeartbeats 8000000 in
set_option maxRecDepth 100000 in
theorem shared_Check.calls (k:Nat) (A0:Option Addr) (c0:Nat) (l0:List (S34)) (A1:Option Addr) (c1:Nat) (l1:List (S65)) (r:Bool) (w:World) (hr0:Kd.C k34 w A0 l0.length l0) (hc0:l0.length≤c0) (hr1:Kd.C k65 w A1 l1.length l1) (hc1:l1.length≤c1) (h:shared_Check.f k l0 l1=some r) :
  Calls Try.prog 23 #[.slice A0 l0.length c0,.slice A1 l1.length c1] w fun e w'=>e=.returned (.bool r)∧Below w.heap.size w w':=by
 have hu22:=Try.underlying22;have hu65:=Try.underlying65;have hu3:=Try.underlying3;have HR0:=zA hr0;have HC0:=zA hc0;clear hr0 hc0;have HR1:=zA hr1;have HC1:=zA hc1;clear hr1 hc1;have HB:=zA (Below.refl w.heap.size w);have H:((shared_given.f k l0).bind fun t98=>(if t98=0 then (shared_Check.l0 k l1 ([]:List Int) l1 (l1.length:Int) 0 l0) else (some false)))=some r:=h;clear h;replace H:=Option.bind_eq_some_iff.mp H;obtain ⟨t98,A30,H⟩:=H;replace H:(if t98=0 then (shared_Check.l0 k l1 ([]:List Int) l1 (l1.length:Int) 0 l0) else (some false))=some r:=H;have A3:=zA A30;clear A30;have HC4:=zA H;clear H
 go_enter Try.func23,Try.ntmps23
 go_upto_if 12 with (first|((with_reducible refine gate_dst (N:=2) rfl ?_);refine box_event ?hg (N:=2) ?hd (cs:=#[.slice A0 l0.length c0]) (t:=22) ?hr ?_;(case hd=>rfl);(case hg=>rfl);(case hr=>first|(go_simp;done)|(go_simp;rfl));intro gb84 hg w5 hbox hb;have BK84:=zA (hbox);have GW84:=zA (zG hg (below_size zB):w.heap.size≤gb84);have GE84:=GW84;replace HB:=zA (below_step zB hb);clear hb hbox hg;have hcz6_0:w5.cell? ⟨gb84,0,none⟩=some (.slice A0 l0.length c0):=(blk_cell BK84.out 0).trans rfl;have hfz6_0:=blk_frozen BK84.out 0)|((with_reducible refine gate_callee (f:=27) rfl ?_);refine goesL_ (some 11) rfl rfl Try.func27 zK rfl #[.slice A0 l0.length c0] rfl zM ?_;(with_reducible refine (shared_given.calls k _ _ l0 t98 _ ?side1 ?side2 A3.out).mono ?_);(case side1=>exact zC (Kd.C_below HR0.out HB.out));(case side2=>exact HC0.out);rintro e w7 ⟨rfl,hb⟩;refine ⟨_,rfl,?_⟩;replace BK84:=zA (zb BK84 hb);replace HB:=zA (below_step zB hb);(try clear hb);(try clear hb2);(try clear hk);(try clear hi)))
 (try simp only [Act.put,zi,zs,zt]);have H:=HC4.out;clear HC4
 by_cases c8:t98=0
 ·rw [if_pos c8] at H;have c8b0:(t98 == 0)=true:=beq_iff_eq.mpr c8;have c8b1:(t98 != 0)=false:=bne_eq_false_iff_eq.mpr c8;clear c8
  (first|rw [c8b0]|(simp only [i64_w,i32_w];rw [c8b0])|skip)
  (try rw [c8b1]);have H':=zA H;clear H
  go_wp2
  go_loopg [5,15] k (fun kq v5 v15 w'=>∃ (x5_1:List Int) (x15_1:Int),v15=.int .i64 x15_1∧Aside0 (shared_Check.l0 kq l1 x5_1 l1 (l1.length:Int) x15_1 l0=some r)∧Aside0 (kq≤k)∧Aside0 (Kd.R (Kd.int .i64) 3 w' w.heap.size (fun _=>True) v5 x5_1)∧Aside0 (w'.heap[gb84]?=some (.cells #[(.slice A0 l0.length c0)] 22 (0,0)))∧Aside0 (Below w.heap.size w w'))
  case atStart=>exact ⟨(([]:List Int)),(0),zT,H',⟨Nat.le_refl _⟩,⟨by first|exact Kd.R_nil _ _ _ _ _|exact Kd.N_nil _ _ _ _ _|exact Kd.V_nil _ _ _ _ _|exact Kd.Q_nil _ _ _ _ _|exact Kd.S_nil _ _ _ _ _⟩,⟨by refine zj ?_;exact BK84.out⟩,⟨zv1 HB GE84⟩⟩
  case round=>
   clear H'
   try clear c8
   try clear c8b0
   try clear c8b1
   try clear hcz6_0
   try clear hfz6_0
   obtain ⟨x5_1,x15_1,rfl,HA,HK1,HO_5,BK84,HB⟩:=hrel
   cases gk with
   | zero=>exact absurd HA.out (by simp [shared_Check.l0])
   | succ k1=>
    have H:=HA.out;clear HA;simp only [shared_Check.l0] at H
    by_cases c9:x15_1<(l1.length:Int)
    ·rw [if_pos c9] at H;have c9b0:decide (x15_1<(l1.length:Int))=true:=decide_eq_true c9;clear c9
     by_cases c10:0≤x15_1
     ·rw [if_pos c10] at H;have c10b0:decide (0≤x15_1)=true:=decide_eq_true c10;clear c10
      by_cases c11:x15_1<(l1.length:Int)
      ·rw [if_pos c11] at H;have c11b0:decide (x15_1<(l1.length:Int))=true:=decide_eq_true c11;clear c11
       by_cases c12:x5_1.length<17592186044416
       ·rw [if_pos c12] at H;have LMc12:=zA c12;clear c12
        obtain ⟨y560,hy560⟩:∃ y_:List Int,y_=(x5_1++[(rd_T65 l1 x15_1).f0]):=⟨_,rfl⟩
        replace H:(shared_Check.l0 k1 l1 y560 l1 (l1.length:Int) (wrap64 (x15_1+1)) l0)=some r:=by first|(rw [hy560];with_reducible exact H)|(have H2_:=(Option.bind_some _ _).symm.trans H;rw [hy560];with_reducible exact H2_)|(have H2_:=(Option.bind_some _ _).symm.trans H;with_reducible exact H2_)|with_reducible exact H|(rw [hy560];exact H)|exact H
        have Ny560:=zA hy560;clear hy560;have H':=zA H;clear H;have p85:0≤(x15_1:Int):=of_decide_eq_true zh;have q85:x15_1<(l1.length:Int):=of_decide_eq_true zh;obtain ⟨ad85,A85_5,c85_5,e85,hx85_0,hx85_1,hx85_2,hx85_3,hx85_4,hx85_5,hl85_5,hi85_5⟩:=at_T65 HR1.out x15_1 p85 q85
        cases e85
        replace hx85_0:=(HB.out.cell (World.block_lt_of_cell? w _ hx85_0)).trans hx85_0;replace hx85_1:=(HB.out.cell (World.block_lt_of_cell? w _ hx85_1)).trans hx85_1;replace hx85_2:=(HB.out.cell (World.block_lt_of_cell? w _ hx85_2)).trans hx85_2;replace hx85_3:=(HB.out.cell (World.block_lt_of_cell? w _ hx85_3)).trans hx85_3;replace hx85_4:=(HB.out.cell (World.block_lt_of_cell? w _ hx85_4)).trans hx85_4;replace hx85_5:=(HB.out.cell (World.block_lt_of_cell? w _ hx85_5)).trans hx85_5;have HR85_5:=zA hi85_5;have HC85_5:=zA hl85_5;clear hi85_5 hl85_5;replace p85:=eq_true p85;replace q85:=eq_true q85
        go_wp2_with (first|((with_reducible refine gate_dst (N:=7) rfl ?_);refine box_event ?hg (N:=7) ?hd (cs:=#[.int .i64 0,.int .i64 0,.int .i64 0,.int .i64 0,.int .i64 0,.slice none 0 0]) (t:=65) ?hr ?_;(case hd=>rfl);(case hg=>rfl);(case hr=>first|(go_simp;done)|(go_simp;rfl));intro gb86 hg w13 hbox hb;have BK86:=zA (hbox);have GW86:=zA (zG hg (below_size zB):w.heap.size≤gb86);have GE86:=GW86;have NB84_86:=zA ((zl hg (zk BK84):gb84≠gb86));have NB86_84:=zA ((zg hg (zk BK84):gb86≠gb84));replace HO_5:=zA (Kd.R_below (zR HO_5) hb);replace BK84:=zA (zb BK84 hb);replace HB:=zA (below_step zB hb);clear hb hbox hg;have hnb14:=NB86_84.out;have hnc14:=NB84_86.out;have hcz15_0:w13.cell? ⟨gb86,0,none⟩=some (.int .i64 0):=(blk_cell BK86.out 0).trans rfl;have hcz15_1:w13.cell? ⟨gb86,1,none⟩=some (.int .i64 0):=(blk_cell BK86.out 1).trans rfl;have hcz15_2:w13.cell? ⟨gb86,2,none⟩=some (.int .i64 0):=(blk_cell BK86.out 2).trans rfl;have hcz15_3:w13.cell? ⟨gb86,3,none⟩=some (.int .i64 0):=(blk_cell BK86.out 3).trans rfl;have hcz15_4:w13.cell? ⟨gb86,4,none⟩=some (.int .i64 0):=(blk_cell BK86.out 4).trans rfl;have hcz15_5:w13.cell? ⟨gb86,5,none⟩=some (.slice none 0 0):=(blk_cell BK86.out 5).trans rfl;have hfz15_0:=blk_frozen BK86.out 0;have hfz15_1:=blk_frozen BK86.out 1;have hfz15_2:=blk_frozen BK86.out 2;have hfz15_3:=blk_frozen BK86.out 3;have hfz15_4:=blk_frozen BK86.out 4;have hfz15_5:=blk_frozen BK86.out 5)|((with_reducible refine gate_builtin (b:=.append) (xs:=#[.tmp 19,.tmp 22]) rfl ?_);at_builtin;refine Kd.R_append (Kd.int .i64) (w0:=w) w.heap.size rfl (.tmp 19) (.tmp 22) 29 3 (.int .i64 0) 8 rfl Try.underlying29 info3 rfl (by decide) (by omega) u5 x5_1 ((rd_T65 l1 x15_1).f0) [.int .i64 ((rd_T65 l1 x15_1).f0)] (fun _=>True) (fun _=>False) rfl (by first|(go_simp;done)|(go_simp;rfl)) ?aP (fun _ hk=>hk.elim) ?aF ?aO ?aB ?aS ?aL ?_;(case aP=>exact rfl);(case aB=>exact zB);(case aF=>exact (fun _ _=>trivial));(case aO=>exact (by refine zr ?_;exact Kd.R_mono (Kd.R_far (p:=⟨gb86,5,none⟩) (Kd.R_far (p:=⟨gb86,4,none⟩) (Kd.R_far (p:=⟨gb86,3,none⟩) (Kd.R_far (p:=⟨gb86,2,none⟩) (Kd.R_far (p:=⟨gb86,1,none⟩) (Kd.R_far (p:=⟨gb86,0,none⟩) (Kd.R_types HO_5.out BK86.out (by decide)) (fun _ hk=>hk.2) (.int .i64 ((rd_T65 l1 x15_1).f0))) (fun _ hk=>hk.2) (.int .i64 ((rd_T65 l1 x15_1).f1))) (fun _ hk=>hk.2) (.int .i64 ((rd_T65 l1 x15_1).f2))) (fun _ hk=>hk.2) (.int .i64 ((rd_T65 l1 x15_1).f3))) (fun _ hk=>hk.2) (.int .i64 ((rd_T65 l1 x15_1).f4))) (fun _ hk=>hk.2) (.slice A85_5 ((rd_T65 l1 x15_1).f5.f0).length c85_5)) (fun _ hk=>trivial)));(case aS=>exact (below_size zB));(case aL=>have:=LMc12.out;omega);intro v561 w16 ho hb hg hat;rw [← Ny560.out] at ho;have HO562:=zA (ho);replace BK84:=zA (blk_grown (g:=gb84) (o:=.cells #[.slice A0 l0.length c0] 22 (0,0)) (by refine zj ?_;refine blk_far ?_ NB84_86.out _;refine zj ?_;refine blk_far ?_ NB84_86.out _;refine zj ?_;refine blk_far ?_ NB84_86.out _;refine zj ?_;refine blk_far ?_ NB84_86.out _;refine zj ?_;refine blk_far ?_ NB84_86.out _;refine zj ?_;refine blk_far ?_ NB84_86.out _;refine zj ?_;exact BK84.out) hg (Kd.R_ne HO_5.out BK84.out (by decide)));replace BK86:=zA (blk_grown (g:=gb86) (o:=.cells #[.int .i64 ((rd_T65 l1 x15_1).f0),.int .i64 ((rd_T65 l1 x15_1).f1),.int .i64 ((rd_T65 l1 x15_1).f2),.int .i64 ((rd_T65 l1 x15_1).f3),.int .i64 ((rd_T65 l1 x15_1).f4),.slice A85_5 ((rd_T65 l1 x15_1).f5.f0).length c85_5] 65 (0,0)) (by refine zj ?_;refine blk_put (cs:=#[.int .i64 ((rd_T65 l1 x15_1).f0),.int .i64 ((rd_T65 l1 x15_1).f1),.int .i64 ((rd_T65 l1 x15_1).f2),.int .i64 ((rd_T65 l1 x15_1).f3),.int .i64 ((rd_T65 l1 x15_1).f4),.slice none 0 0]) ?_ 5 _ rfl;refine zj ?_;refine blk_put (cs:=#[.int .i64 ((rd_T65 l1 x15_1).f0),.int .i64 ((rd_T65 l1 x15_1).f1),.int .i64 ((rd_T65 l1 x15_1).f2),.int .i64 ((rd_T65 l1 x15_1).f3),.int .i64 0,.slice none 0 0]) ?_ 4 _ rfl;refine zj ?_;refine blk_put (cs:=#[.int .i64 ((rd_T65 l1 x15_1).f0),.int .i64 ((rd_T65 l1 x15_1).f1),.int .i64 ((rd_T65 l1 x15_1).f2),.int .i64 0,.int .i64 0,.slice none 0 0]) ?_ 3 _ rfl;refine zj ?_;refine blk_put (cs:=#[.int .i64 ((rd_T65 l1 x15_1).f0),.int .i64 ((rd_T65 l1 x15_1).f1),.int .i64 0,.int .i64 0,.int .i64 0,.slice none 0 0]) ?_ 2 _ rfl;refine zj ?_;refine blk_put (cs:=#[.int .i64 ((rd_T65 l1 x15_1).f0),.int .i64 0,.int .i64 0,.int .i64 0,.int .i64 0,.slice none 0 0]) ?_ 1 _ rfl;refine zj ?_;refine blk_put (cs:=#[.int .i64 0,.int .i64 0,.int .i64 0,.int .i64 0,.int .i64 0,.slice none 0 0]) ?_ 0 _ rfl;refine zj ?_;exact BK86.out) hg (Kd.R_ne HO_5.out BK86.out (by decide)));replace HB:=zA (hb);clear HO_5;clear ho hb hg hat))
        go_roundg k1
        case measure=>have:=HK1.out;omega
        case rel=>exact ⟨(y560),(wrap64 (x15_1+1)),zT,H',⟨by have:=HK1.out;omega⟩,⟨by refine zr ?_;exact HO562.out⟩,⟨by refine zj ?_;exact BK84.out⟩,⟨zv2 HB GE84 GE86⟩⟩
       ·rw [if_neg c12] at H;exact absurd H (by simp)
      ·rw [if_neg c11] at H;exact absurd H (by simp)
     ·rw [if_neg c10] at H;exact absurd H (by simp)
    ·rw [if_neg c9] at H;have c9b0:decide (x15_1<(l1.length:Int))=false:=decide_eq_false c9;clear c9;replace H:=Option.bind_eq_some_iff.mp H;obtain ⟨⟨t563,t564⟩,A170,H⟩:=H;replace H:(if t564=0 then ((solve_Vars.f k1 l0).bind fun t97=>((slices_Equal_int_int.f k1 x5_1 t97).bind fun t568=>(if t568=true then ((api_Evidence_shared_Check_1.f k1 l1 l0).bind fun t94=>(some (!t94))) else (some false)))) else (some false))=some r:=H;have A17:=zA A170;clear A170;have HC18:=zA H;clear H;have hcz19_0:wr.cell? ⟨gb84,0,none⟩=some (.slice A0 l0.length c0):=(blk_cell BK84.out 0).trans rfl;have hfz19_0:=blk_frozen BK84.out 0
     go_upto_if 31 with (first|((with_reducible refine gate_callee (f:=38) rfl ?_);refine goesL_ (some 27) rfl rfl Try.func38 zK rfl #[.slice A0 l0.length c0] rfl zM ?_;(with_reducible refine (solve_First.calls k1 _ _ l0 t563 t564 _ ?side1 ?side2 A17.out).mono ?_);(case side1=>exact zC (Kd.C_below HR0.out HB.out));(case side2=>exact HC0.out);rintro e w20 ⟨rfl,hb⟩;refine ⟨_,rfl,?_⟩;replace HO_5:=zA (Kd.R_below (zR HO_5) hb);replace BK84:=zA (zb BK84 hb);replace HB:=zA (below_step zB hb);(try clear hb);(try clear hb2);(try clear hk);(try clear hi)))
     (try simp only [Act.put,zi,zs,zt]);have H:=HC18.out;clear HC18
     by_cases c21:t564=0
     ·rw [if_pos c21] at H;have c21b0:(t564 == 0)=true:=beq_iff_eq.mpr c21;have c21b1:(t564 != 0)=false:=bne_eq_false_iff_eq.mpr c21;clear c21
      (first|rw [c21b0]|(simp only [i64_w,i32_w];rw [c21b0])|skip)
      (try rw [c21b1]);replace H:=Option.bind_eq_some_iff.mp H;obtain ⟨t97,A220,H⟩:=H;replace H:((slices_Equal_int_int.f k1 x5_1 t97).bind fun t568=>(if t568=true then ((api_Evidence_shared_Check_1.f k1 l1 l0).bind fun t94=>(some (!t94))) else (some false)))=some r:=H;have A22:=zA A220;clear A220;replace H:=Option.bind_eq_some_iff.mp H;obtain ⟨t568,A230,H⟩:=H;replace H:(if t568=true then ((api_Evidence_shared_Check_1.f k1 l1 l0).bind fun t94=>(some (!t94))) else (some false))=some r:=H;have A23:=zA A230;clear A230
      by_cases c24:t568=true
      ·subst c24
       have H1:((api_Evidence_shared_Check_1.f k1 l1 l0).bind fun t94=>(some (!t94)))=some r:=by rw [if_pos rfl] at H;exact H
       clear H;have H:=H1;clear H1;replace H:=Option.bind_eq_some_iff.mp H;obtain ⟨t94,A250,H⟩:=H;replace H:(some (!t94))=some r:=H;have A25:=zA A250;clear A250;obtain rfl:=Option.some.inj H;have hcz26_0:w20.cell? ⟨gb84,0,none⟩=some (.slice A0 l0.length c0):=(blk_cell BK84.out 0).trans rfl;have hfz26_0:=blk_frozen BK84.out 0
       go_wp2_with (first|((with_reducible refine gate_callee (f:=29) rfl ?_);refine goesL_ (some 34) rfl rfl Try.func29 zK rfl #[.slice A0 l0.length c0] rfl zM ?_;(with_reducible refine (solve_Vars.calls k1 _ _ l0 t97 _ ?side1 ?side2 A22.out).mono ?_);(case side1=>exact zC (Kd.C_below HR0.out HB.out));(case side2=>exact HC0.out);rintro e w27 ⟨v566,rfl,ho0,hb⟩;refine ⟨_,rfl,?_⟩;have HO567:=zA (Kd.R_lower (Kd.R_new' ho0 (Kd.R_lt (zR HO_5))) (below_size zB));replace HO_5:=zA (Kd.R_elder' (zR HO_5) (Kd.R_base ho0) hb);replace BK84:=zA (zb BK84 hb);replace HB:=zA (below_step zB hb);(try clear hb);(try clear hb2);(try clear hk);(try clear hi);(try clear ho0);obtain ⟨Ao28,co28,eo28⟩:=Kd.R_slice HO_5.out;subst eo28;obtain ⟨Ao29,co29,eo29⟩:=Kd.R_slice HO567.out;subst eo29)|((with_reducible refine gate_callee (f:=17) rfl ?_);refine goesL_ (some 35) rfl rfl Try.func17 zK rfl #[.slice Ao28 x5_1.length co28,.slice Ao29 t97.length co29] rfl zM ?_;(with_reducible refine (slices_Equal_int_int.calls k1 _ _ x5_1 _ _ t97 true _ ?side1 ?side2 ?side3 ?side4 A23.out).mono ?_);(case side1=>exact zC (Kd.R_reads' HO_5.out).2.2);(case side2=>exact (Kd.R_reads' HO_5.out).2.1);(case side3=>exact zC (Kd.R_reads' HO567.out).2.2);(case side4=>exact (Kd.R_reads' HO567.out).2.1);rintro e w' ⟨rfl,⟨nd,rfl⟩⟩;refine ⟨_,rfl,?_⟩)|(go_at_call 47;(with_reducible refine (api_Evidence_shared_Check_1.calls k1 _ _ l1 gb84 A0 c0 l0 t94 _ ?side1 ?side2 ?side3 ?side4 ?side5 A25.out).mono ?_);(case side1=>repeat (first|exact (Kd.C_below HR1.out zB)|(with_reducible refine Kd.C_alloc ?_ _)|(with_reducible refine Kd.C_drewN ?_ _)|(with_reducible refine Kd.C_drew ?_)));(case side2=>exact HC1.out);(case side3=>repeat (first|exact (Kd.C_below HR0.out zB)|(with_reducible refine Kd.C_alloc ?_ _)|(with_reducible refine Kd.C_drewN ?_ _)|(with_reducible refine Kd.C_drew ?_)));(case side4=>exact HC0.out);(case side5=>refine zj ?_;exact BK84.out);rintro e w30 ⟨rfl,hb⟩;replace HO_5:=zA (Kd.R_below (zR HO_5) hb);replace HO567:=zA (Kd.R_below (zR HO567) hb);replace BK84:=zA (zb BK84 hb);replace HB:=zA (below_step zB hb);(try clear hb);(try clear hb2);(try clear hk);(try clear hi)))
       go_ret
       exact ⟨ze,zv1 HB GE84⟩
      ·replace c24:=Bool.eq_false_iff.mpr c24;subst c24
       have H1:(some false)=some r:=by rw [if_neg (show ¬ (false=true) by decide)] at H;exact H
       clear H;have H:=H1;clear H1;obtain rfl:=Option.some.inj H;have hcz31_0:w20.cell? ⟨gb84,0,none⟩=some (.slice A0 l0.length c0):=(blk_cell BK84.out 0).trans rfl;have hfz31_0:=blk_frozen BK84.out 0
       go_wp2_with (first|((with_reducible refine gate_callee (f:=29) rfl ?_);refine goesL_ (some 34) rfl rfl Try.func29 zK rfl #[.slice A0 l0.length c0] rfl zM ?_;(with_reducible refine (solve_Vars.calls k1 _ _ l0 t97 _ ?side1 ?side2 A22.out).mono ?_);(case side1=>exact zC (Kd.C_below HR0.out HB.out));(case side2=>exact HC0.out);rintro e w32 ⟨v566,rfl,ho0,hb⟩;refine ⟨_,rfl,?_⟩;have HO567:=zA (Kd.R_lower (Kd.R_new' ho0 (Kd.R_lt (zR HO_5))) (below_size zB));replace HO_5:=zA (Kd.R_elder' (zR HO_5) (Kd.R_base ho0) hb);replace BK84:=zA (zb BK84 hb);replace HB:=zA (below_step zB hb);(try clear hb);(try clear hb2);(try clear hk);(try clear hi);(try clear ho0);obtain ⟨Ao33,co33,eo33⟩:=Kd.R_slice HO_5.out;subst eo33;obtain ⟨Ao34,co34,eo34⟩:=Kd.R_slice HO567.out;subst eo34)|((with_reducible refine gate_callee (f:=17) rfl ?_);refine goesL_ (some 35) rfl rfl Try.func17 zK rfl #[.slice Ao33 x5_1.length co33,.slice Ao34 t97.length co34] rfl zM ?_;(with_reducible refine (slices_Equal_int_int.calls k1 _ _ x5_1 _ _ t97 false _ ?side1 ?side2 ?side3 ?side4 A23.out).mono ?_);(case side1=>exact zC (Kd.R_reads' HO_5.out).2.2);(case side2=>exact (Kd.R_reads' HO_5.out).2.1);(case side3=>exact zC (Kd.R_reads' HO567.out).2.2);(case side4=>exact (Kd.R_reads' HO567.out).2.1);rintro e w' ⟨rfl,⟨nd,rfl⟩⟩;refine ⟨_,rfl,?_⟩))
       go_ret
       exact ⟨ze,zv1 HB GE84⟩
     ·rw [if_neg c21] at H;have c21b0:(t564 == 0)=false:=beq_eq_false_iff_ne.mpr c21;have c21b1:(t564 != 0)=true:=bne_iff_ne.mpr c21
      (first|rw [c21b0]|(simp only [i64_w,i32_w];rw [c21b0])|skip)
      (try rw [c21b1]);obtain rfl:=Option.some.inj H
      go_wp2
      go_ret
      exact ⟨ze,zv1 HB GE84⟩
 ·rw [if_neg c8] at H;have c8b0:(t98 == 0)=false:=beq_eq_false_iff_ne.mpr c8;have c8b1:(t98 != 0)=true:=bne_iff_ne.mpr c8
  (first|rw [c8b0]|(simp only [i64_w,i32_w];rw [c8b0])|skip)
  (try rw [c8b1]);obtain rfl:=Option.some.inj H
  go_wp2
  go_ret
  exact ⟨ze,zv1 HB GE84⟩
def api_Link.l0:Nat→List (S59)→List (S59)→Int→Int→Option (Bool)
 | 0,_,_,_,_=>none
 | k+1,x0,x1,x12,x13=>if x13<x12 then (if 0≤x13 then (if x13<(x0.length:Int) then (if x13<(x1.length:Int) then (if (!(((rd_T59 x0 x13).f0) == ((rd_T59 x1 x13).f0))||(!(((rd_T59 x0 x13).f1) == ((rd_T59 x1 x13).f1))||(!(((rd_T59 x0 x13).f2) == ((rd_T59 x1 x13).f2)))))=true then (some false) else (api_Link.l0 k x0 x1 x12 (wrap64 (x13+1)))) else (none)) else (none)) else (none)) else (some true)
def api_Link.f (k:Nat) (l0:List (S59)) (l1:List (S59)):Option (Bool):=if (l0.length:Int)=(l1.length:Int) then (api_Link.l0 k l0 l1 (l0.length:Int) 0) else (some false)
theorem api_Link.mono_l:∀ k,(∀ y0 y1 y2 y3,LeO (api_Link.l0 k y0 y1 y2 y3) (api_Link.l0 (k+1) y0 y1 y2 y3))
 | 0=>fun _ _ _ _ r h=>by simp [api_Link.l0] at h
 | k+1=>by
  have ih0:=api_Link.mono_l k
  ·intro y0 y1 y2 y3
   unfold api_Link.l0
   repeat' first
   | (with_reducible exact ih0 _ _ _ _)
   | (with_reducible exact LeO.refl _)
   | (with_reducible exact LeO.none _)
   | (with_reducible refine LeO.ite ?_ ?_)
   | (with_reducible refine LeO.bind ?_ (fun _=>?_))
   | exact LeO.none _
   | refine LeO.ite ?_ ?_
   | refine LeO.bind ?_ (fun _=>?_)
theorem api_Link.mono:∀ a0 a1 k,LeO (api_Link.f k a0 a1) (api_Link.f (k+1) a0 a1):=by
 intro a0 a1 k;have ih0:=api_Link.mono_l k
 unfold api_Link.f
 repeat' first
   | (with_reducible exact ih0 _ _ _ _)
   | (with_reducible exact LeO.refl _)
   | (with_reducible exact LeO.none _)
   | (with_reducible refine LeO.ite ?_ ?_)
   | (with_reducible refine LeO.bind ?_ (fun _=>?_))
   | exact LeO.none _
   | refine LeO.ite ?_ ?_
   | refine LeO.bind ?_ (fun _=>?_)
set_option maxHeartbeats 8000000 in
set_option maxRecDepth 100000 in
theorem api_Link.calls (k:Nat) (A0:Option Addr) (c0:Nat) (l0:List (S59)) (A1:Option Addr) (c1:Nat) (l1:List (S59)) (r:Bool) (w:World) (hr0:Kd.C k59 w A0 l0.length l0) (hc0:l0.length≤c0) (hr1:Kd.C k59 w A1 l1.length l1) (hc1:l1.length≤c1) (h:api_Link.f k l0 l1=some r) :
  Calls Try.prog 24 #[.slice A0 l0.length c0,.slice A1 l1.length c1] w fun e w'=>e=.returned (.bool r)∧Drawn0 w w':=by
 have hu59:=Try.underlying59;have HR0:=zA hr0;have HC0:=zA hc0;clear hr0 hc0;have HR1:=zA hr1;have HC1:=zA hc1;clear hr1 hc1;have H:(if (l0.length:Int)=(l1.length:Int) then (api_Link.l0 k l0 l1 (l0.length:Int) 0) else (some false))=some r:=h;clear h
 by_cases c3:(l0.length:Int)=(l1.length:Int)
 ·rw [if_pos c3] at H;have c3b0:((l0.length:Int) == (l1.length:Int))=true:=beq_iff_eq.mpr c3;have c3b1:((l0.length:Int) != (l1.length:Int))=false:=bne_eq_false_iff_eq.mpr c3
  have c3b2:(l0.length == l1.length)=true:=by first|simpa using c3|(simp at c3 ⊢;omega)
  clear c3;have H':=zA H;clear H
  go_enter Try.func24,Try.ntmps24
  go_wp2
  repeat (go_quiet (fail);try go_wp2)
  go_loopg [13] k (fun kq v13 w'=>∃ (x13_1:Int),v13=.int .i64 x13_1∧Aside0 (api_Link.l0 kq l0 l1 (l0.length:Int) x13_1=some r)∧Aside0 (kq≤k)∧Drawn0 w w')
  case atStart=>exact ⟨(0),zT,H',⟨Nat.le_refl _⟩,by repeat (first|exact Drawn0.refl _|apply Drawn0.step)⟩
  case round=>
   clear H'
   try clear c3
   try clear c3b0
   try clear c3b1
   try clear c3b2
   obtain ⟨x13_1,rfl,HA,HK1,⟨m1,rfl⟩⟩:=hrel
   cases gk with
   | zero=>exact absurd HA.out (by simp [api_Link.l0])
   | succ k1=>
    have H:=HA.out;clear HA;simp only [api_Link.l0] at H
    by_cases c4:x13_1<(l0.length:Int)
    ·rw [if_pos c4] at H;have c4b0:decide (x13_1<(l0.length:Int))=true:=decide_eq_true c4;clear c4
     by_cases c5:0≤x13_1
     ·rw [if_pos c5] at H;have c5b0:decide (0≤x13_1)=true:=decide_eq_true c5;clear c5
      by_cases c6:x13_1<(l0.length:Int)
      ·rw [if_pos c6] at H;have c6b0:decide (x13_1<(l0.length:Int))=true:=decide_eq_true c6;clear c6
       by_cases c7:x13_1<(l1.length:Int)
       ·rw [if_pos c7] at H;have c7b0:decide (x13_1<(l1.length:Int))=true:=decide_eq_true c7;clear c7
        by_cases c8:(!(((rd_T59 l0 x13_1).f0) == ((rd_T59 l1 x13_1).f0))||(!(((rd_T59 l0 x13_1).f1) == ((rd_T59 l1 x13_1).f1))||(!(((rd_T59 l0 x13_1).f2) == ((rd_T59 l1 x13_1).f2)))))=true
        ·rw [if_pos c8] at H;have c8b0:(!(((rd_T59 l0 x13_1).f0) == ((rd_T59 l1 x13_1).f0))||(!(((rd_T59 l0 x13_1).f1) == ((rd_T59 l1 x13_1).f1))||(!(((rd_T59 l0 x13_1).f2) == ((rd_T59 l1 x13_1).f2)))))=true:=c8;clear c8;obtain rfl:=Option.some.inj H;have p89:0≤(x13_1:Int):=of_decide_eq_true zh;have q89:x13_1<(l0.length:Int):=of_decide_eq_true zh;obtain ⟨ad89,e89,hx89_0,hx89_1,hx89_2⟩:=at_T59 HR0.out x13_1 p89 q89
         cases e89
         replace p89:=eq_true p89;replace q89:=eq_true q89;have p90:0≤(x13_1:Int):=of_decide_eq_true zh;have q90:x13_1<(l1.length:Int):=of_decide_eq_true zh;obtain ⟨ad90,e90,hx90_0,hx90_1,hx90_2⟩:=at_T59 HR1.out x13_1 p90 q90
         cases e90
         replace p90:=eq_true p90;replace q90:=eq_true q90
         go_wp2
         repeat (go_quiet (fail);try go_wp2)
         go_ret
         exact ⟨by first|rfl|(simp;done)|(simp [*];done),by repeat (first|exact Drawn0.refl _|apply Drawn0.step)⟩
        ·rw [if_neg c8] at H
         have c8b0:(!(((rd_T59 l0 x13_1).f0) == ((rd_T59 l1 x13_1).f0))||(!(((rd_T59 l0 x13_1).f1) == ((rd_T59 l1 x13_1).f1))||(!(((rd_T59 l0 x13_1).f2) == ((rd_T59 l1 x13_1).f2)))))=false:=by simpa using c8
         clear c8;have H':=zA H;clear H;have p89:0≤(x13_1:Int):=of_decide_eq_true zh;have q89:x13_1<(l0.length:Int):=of_decide_eq_true zh;obtain ⟨ad89,e89,hx89_0,hx89_1,hx89_2⟩:=at_T59 HR0.out x13_1 p89 q89
         cases e89
         replace p89:=eq_true p89;replace q89:=eq_true q89;have p90:0≤(x13_1:Int):=of_decide_eq_true zh;have q90:x13_1<(l1.length:Int):=of_decide_eq_true zh;obtain ⟨ad90,e90,hx90_0,hx90_1,hx90_2⟩:=at_T59 HR1.out x13_1 p90 q90
         cases e90
         replace p90:=eq_true p90;replace q90:=eq_true q90
         go_wp2
         repeat (go_quiet (fail);try go_wp2)
         go_roundg k1
         case measure=>have:=HK1.out;omega
         case rel=>exact ⟨(wrap64 (x13_1+1)),zT,H',⟨by have:=HK1.out;omega⟩,by repeat (first|exact Drawn0.refl _|apply Drawn0.step)⟩
       ·rw [if_neg c7] at H;exact absurd H (by simp)
      ·rw [if_neg c6] at H;exact absurd H (by simp)
     ·rw [if_neg c5] at H;exact absurd H (by simp)
    ·rw [if_neg c4] at H;have c4b0:decide (x13_1<(l0.length:Int))=false:=decide_eq_false c4;clear c4;obtain rfl:=Option.some.inj H
     go_wp2
     repeat (go_quiet (fail);try go_wp2)
     go_ret
     exact ⟨by first|rfl|(simp;done)|(simp [*];done),by repeat (first|exact Drawn0.refl _|apply Drawn0.step)⟩
 ·rw [if_neg c3] at H;have c3b0:((l0.length:Int) == (l1.length:Int))=false:=beq_eq_false_iff_ne.mpr c3;have c3b1:((l0.length:Int) != (l1.length:Int))=true:=bne_iff_ne.mpr c3
  have c3b2:(l0.length == l1.length)=false:=by first|simpa using c3|(simp at c3 ⊢;omega)
  obtain rfl:=Option.some.inj H
  go_enter Try.func24,Try.ntmps24
  go_wp2
  repeat (go_quiet (fail);try go_wp2)
  go_ret
  exact ⟨by first|rfl|(simp;done)|(simp [*];done),by repeat (first|exact Drawn0.refl _|apply Drawn0.step)⟩
end Go.Proofs.Ytngpkbbljnbojaa.I
