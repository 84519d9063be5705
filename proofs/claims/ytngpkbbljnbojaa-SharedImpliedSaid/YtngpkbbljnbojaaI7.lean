import Derived.Test.YtngpkbbljnbojaaI0
import Derived.Test.YtngpkbbljnbojaaI2
import Derived.Test.YtngpkbbljnbojaaI4
import Derived.Test.YtngpkbbljnbojaaI6
namespace Go.Proofs.Ytngpkbbljnbojaa.I
open Go.RowKit Go.Proofs.YtngpkbbljnbojaaW.PrintWords Go.Proofs.YtngpkbbljnbojaaW.PrintLast Go.Proofs.YtngpkbbljnbojaaW.PrintMore
attribute [local go_sem] max2_int min2_int max_two min_two max_three min_three max_four min_four
set_option linter.unusedVariables false
set_option linter.unusedSimpArgs false
def shared_evidence.f (k:Nat) (l0:List (S34)) (a1:Int):Option (Int×Int×Int×Int×Int×(List (S116))×Int):=(shared_with.f k l0 a1 0).bind fun bt67=>((shared_with.f k l0 a1 1).bind fun bt56=>(if bt67.2.2=true then (if bt56.2.2=true then (some (a1,3,0,bt67.2.1,bt56.2.1,([]:List (S116)),0)) else ((solve_Refute.f k bt56.1).bind fun bt43=>(some (a1,1,bt67.2.1,0,0,bt43.1,bt43.2)))) else ((solve_Refute.f k bt67.1).bind fun bt59=>(some (a1,2,bt56.2.1,0,0,bt59.1,bt59.2)))))
theorem shared_evidence.mono:∀ a0 a1 k,LeO (shared_evidence.f k a0 a1) (shared_evidence.f (k+1) a0 a1):=by
 intro a0 a1 k
 unfold shared_evidence.f
 repeat' first
   | (with_reducible exact shared_with.mono _ _ _ _)
   | (with_reducible exact solve_Refute.mono _ _)
   | (with_reducible exact LeO.refl _)
   | (with_reducible exact LeO.none _)
   | (with_reducible refine LeO.ite ?_ ?_)
   | (with_reducible refine LeO.bind ?_ (fun _=>?_))
   | exact LeO.none _
   | refine LeO.ite ?_ ?_
   | refine LeO.bind ?_ (fun _=>?_)
set_option maxHeartbeats 8000000 in
set_option maxRecDepth 100000 in
theorem shared_evidence.calls (k:Nat) (A0:Option Addr) (c0:Nat) (l0:List (S34)) (a1:Int) (r1:Int) (r2:Int) (r3:Int) (r4:Int) (r5:Int) (r6:List (S116)) (r7:Int) (w:World) (hr0:Kd.C k34 w A0 l0.length l0) (hc0:l0.length≤c0) (h:shared_evidence.f k l0 a1=some (r1,r2,r3,r4,r5,r6,r7)) :
  Calls Try.prog 46 #[.slice A0 l0.length c0,.int .i64 a1] w fun e w'=>∃ v5_:Value,e=.returned (.tuple #[.agg #[.int .i64 r1,.int .i64 r2,.int .i64 r3,.int .i64 r4,.int .i64 r5,v5_],.int .i64 r7])∧Kd.R k116 116 w' w.heap.size (fun _=>True) v5_ r6∧Below w.heap.size w w':=by
 have hu65:=Try.underlying65;have hu3:=Try.underlying3;have hu63:=Try.underlying63;have HR0:=zA hr0;have HC0:=zA hc0;clear hr0 hc0;have HB:=zA (Below.refl w.heap.size w);have H:((shared_with.f k l0 a1 0).bind fun bt67=>((shared_with.f k l0 a1 1).bind fun bt56=>(if bt67.2.2=true then (if bt56.2.2=true then (some (a1,3,0,bt67.2.1,bt56.2.1,([]:List (S116)),0)) else ((solve_Refute.f k bt56.1).bind fun bt43=>(some (a1,1,bt67.2.1,0,0,bt43.1,bt43.2)))) else ((solve_Refute.f k bt67.1).bind fun bt59=>(some (a1,2,bt56.2.1,0,0,bt59.1,bt59.2))))))=some (r1,r2,r3,r4,r5,r6,r7):=h;clear h;replace H:=Option.bind_eq_some_iff.mp H;obtain ⟨⟨t67,t44,t91⟩,A30,H⟩:=H;replace H:((shared_with.f k l0 a1 1).bind fun bt56=>(if t91=true then (if bt56.2.2=true then (some (a1,3,0,t44,bt56.2.1,([]:List (S116)),0)) else ((solve_Refute.f k bt56.1).bind fun bt43=>(some (a1,1,t44,0,0,bt43.1,bt43.2)))) else ((solve_Refute.f k t67).bind fun bt59=>(some (a1,2,bt56.2.1,0,0,bt59.1,bt59.2)))))=some (r1,r2,r3,r4,r5,r6,r7):=H;have A3:=zA A30;clear A30;replace H:=Option.bind_eq_some_iff.mp H;obtain ⟨⟨t56,t66,t92⟩,A40,H⟩:=H;replace H:(if t91=true then (if t92=true then (some (a1,3,0,t44,t66,([]:List (S116)),0)) else ((solve_Refute.f k t56).bind fun bt43=>(some (a1,1,t44,0,0,bt43.1,bt43.2)))) else ((solve_Refute.f k t67).bind fun bt59=>(some (a1,2,t66,0,0,bt59.1,bt59.2))))=some (r1,r2,r3,r4,r5,r6,r7):=H;have A4:=zA A40;clear A40;have HC5:=zA H;clear H
 go_enter Try.func46,Try.ntmps46
 go_upto_region 7 with (first|((with_reducible refine gate_dst (N:=4) rfl ?_);refine box_event ?hg (N:=4) ?hd (cs:=#[.int .i64 0,.int .i64 0,.int .i64 0,.int .i64 0,.int .i64 0,.slice none 0 0]) (t:=65) ?hr ?_;(case hd=>rfl);(case hg=>rfl);(case hr=>first|(go_simp;done)|(go_simp;rfl));intro gb35 hg w6 hbox hb;have BK35:=zA (hbox);have GW35:=zA (zG hg (below_size zB):w.heap.size≤gb35);have GE35:=GW35;replace HB:=zA (below_step zB hb);clear hb hbox hg)|((with_reducible refine gate_dst (N:=6) rfl ?_);refine box_event ?hg (N:=6) ?hd (cs:=#[.int .i64 0,.int .i64 0,.int .i64 0,.int .i64 0,.int .i64 0,.slice none 0 0]) (t:=65) ?hr ?_;(case hd=>rfl);(case hg=>rfl);(case hr=>first|(go_simp;done)|(go_simp;rfl));intro gb33 hg w7 hbox hb;have BK33:=zA (hbox);have GW33:=zA (zG hg (below_size zB):w.heap.size≤gb33);have GE33:=GW33;have NB35_33:=zA ((zl hg (zk BK35):gb35≠gb33));have NB33_35:=zA ((zg hg (zk BK35):gb33≠gb35));replace BK35:=zA (zb BK35 hb);replace HB:=zA (below_step zB hb);clear hb hbox hg;have hnb8:=NB33_35.out;have hnc8:=NB35_33.out;have hcz9_0:w7.cell? ⟨gb33,0,none⟩=some (.int .i64 0):=(blk_cell BK33.out 0).trans rfl;have hcz9_1:w7.cell? ⟨gb33,1,none⟩=some (.int .i64 0):=(blk_cell BK33.out 1).trans rfl;have hcz9_2:w7.cell? ⟨gb33,2,none⟩=some (.int .i64 0):=(blk_cell BK33.out 2).trans rfl;have hcz9_3:w7.cell? ⟨gb33,3,none⟩=some (.int .i64 0):=(blk_cell BK33.out 3).trans rfl;have hcz9_4:w7.cell? ⟨gb33,4,none⟩=some (.int .i64 0):=(blk_cell BK33.out 4).trans rfl;have hcz9_5:w7.cell? ⟨gb33,5,none⟩=some (.slice none 0 0):=(blk_cell BK33.out 5).trans rfl;have hfz9_0:=blk_frozen BK33.out 0;have hfz9_1:=blk_frozen BK33.out 1;have hfz9_2:=blk_frozen BK33.out 2;have hfz9_3:=blk_frozen BK33.out 3;have hfz9_4:=blk_frozen BK33.out 4;have hfz9_5:=blk_frozen BK33.out 5)|((with_reducible refine gate_callee (f:=52) rfl ?_);refine goesL_ (some 19) rfl rfl Try.func52 zK rfl #[.slice A0 l0.length c0,.int .i64 a1,.int .i64 0] rfl zM ?_;(with_reducible refine (shared_with.calls k _ _ l0 a1 0 t67 t44 t91 _ ?side1 ?side2 A3.out).mono ?_);(case side1=>exact Kd.C_below HR0.out zB);(case side2=>exact HC0.out);rintro e w10 ⟨v443,rfl,ho0,hb⟩;refine ⟨_,rfl,?_⟩;have HO73:=zA (Kd.S_lower ho0 (below_size zB));replace BK35:=zA (blk_below (g:=gb35) (o:=.cells #[.int .i64 0,.int .i64 0,.int .i64 0,.int .i64 0,.int .i64 0,.slice none 0 0] 65 (0,0)) (by refine zj ?_;refine blk_far ?_ NB35_33.out _;refine zj ?_;refine blk_far ?_ NB35_33.out _;refine zj ?_;refine blk_far ?_ NB35_33.out _;refine zj ?_;refine blk_far ?_ NB35_33.out _;refine zj ?_;refine blk_far ?_ NB35_33.out _;refine zj ?_;refine blk_far ?_ NB35_33.out _;refine zj ?_;exact BK35.out) hb);replace BK33:=zA (blk_below (g:=gb33) (o:=.cells #[.int .i64 a1,.int .i64 0,.int .i64 0,.int .i64 0,.int .i64 0,.slice none 0 0] 65 (0,0)) (by refine zj ?_;refine blk_put (cs:=#[.int .i64 a1,.int .i64 0,.int .i64 0,.int .i64 0,.int .i64 0,.slice none 0 0]) ?_ 5 _ rfl;refine zj ?_;refine blk_put (cs:=#[.int .i64 a1,.int .i64 0,.int .i64 0,.int .i64 0,.int .i64 0,.slice none 0 0]) ?_ 4 _ rfl;refine zj ?_;refine blk_put (cs:=#[.int .i64 a1,.int .i64 0,.int .i64 0,.int .i64 0,.int .i64 0,.slice none 0 0]) ?_ 3 _ rfl;refine zj ?_;refine blk_put (cs:=#[.int .i64 a1,.int .i64 0,.int .i64 0,.int .i64 0,.int .i64 0,.slice none 0 0]) ?_ 2 _ rfl;refine zj ?_;refine blk_put (cs:=#[.int .i64 a1,.int .i64 0,.int .i64 0,.int .i64 0,.int .i64 0,.slice none 0 0]) ?_ 1 _ rfl;refine zj ?_;refine blk_put (cs:=#[.int .i64 0,.int .i64 0,.int .i64 0,.int .i64 0,.int .i64 0,.slice none 0 0]) ?_ 0 _ rfl;refine zj ?_;exact BK33.out) hb);replace HB:=zA (below_step zB hb);(try clear hb);(try clear hb2);(try clear hk);(try clear hi);(try clear ho0))|((with_reducible refine gate_callee (f:=52) rfl ?_);refine goesL_ (some 26) rfl rfl Try.func52 zK rfl #[.slice A0 l0.length c0,.int .i64 a1,.int .i64 1] rfl zM ?_;(with_reducible refine (shared_with.calls k _ _ l0 a1 1 t56 t66 t92 _ ?side1 ?side2 A4.out).mono ?_);(case side1=>exact zC (Kd.C_below HR0.out HB.out));(case side2=>exact HC0.out);rintro e w11 ⟨v448,rfl,ho0,hb⟩;refine ⟨_,rfl,?_⟩;have HO85:=zA (Kd.S_lower (Kd.S_new' ho0 (Kd.S_lt (zS HO73))) (below_size zB));replace HO73:=zA (Kd.S_elder' (zS HO73) (Kd.S_base ho0) hb);replace BK35:=zA (zb BK35 hb);replace BK33:=zA (zb BK33 hb);replace HB:=zA (below_step zB hb);(try clear hb);(try clear hb2);(try clear hk);(try clear hi);(try clear ho0)))
 (try simp only [Act.put,zi,zs,zt]);have H:=HC5.out;clear HC5
 by_cases c12:t91=true
 ·subst c12
  have H1:(if t92=true then (some (a1,3,0,t44,t66,([]:List (S116)),0)) else ((solve_Refute.f k t56).bind fun bt43=>(some (a1,1,t44,0,0,bt43.1,bt43.2))))=some (r1,r2,r3,r4,r5,r6,r7):=by rw [if_pos rfl] at H;exact H
  clear H;have H:=H1;clear H1
  by_cases c13:t92=true
  ·subst c13
   have H1:(some (a1,3,0,t44,t66,([]:List (S116)),0))=some (r1,r2,r3,r4,r5,r6,r7):=by rw [if_pos rfl] at H;exact H
   clear H;have H:=H1;clear H1;simp only [Option.some.injEq,Prod.mk.injEq] at H;obtain ⟨rfl,rfl,rfl,rfl,rfl,rfl,rfl⟩:=H;have hnb14:=NB33_35.out;have hnc14:=NB35_33.out;have hcz15_0:w11.cell? ⟨gb33,0,none⟩=some (.int .i64 a1):=(blk_cell BK33.out 0).trans rfl;have hcz15_1:w11.cell? ⟨gb33,1,none⟩=some (.int .i64 0):=(blk_cell BK33.out 1).trans rfl;have hcz15_2:w11.cell? ⟨gb33,2,none⟩=some (.int .i64 0):=(blk_cell BK33.out 2).trans rfl;have hcz15_3:w11.cell? ⟨gb33,3,none⟩=some (.int .i64 0):=(blk_cell BK33.out 3).trans rfl;have hcz15_4:w11.cell? ⟨gb33,4,none⟩=some (.int .i64 0):=(blk_cell BK33.out 4).trans rfl;have hcz15_5:w11.cell? ⟨gb33,5,none⟩=some (.slice none 0 0):=(blk_cell BK33.out 5).trans rfl;have hfz15_0:=blk_frozen BK33.out 0;have hfz15_1:=blk_frozen BK33.out 1;have hfz15_2:=blk_frozen BK33.out 2;have hfz15_3:=blk_frozen BK33.out 3;have hfz15_4:=blk_frozen BK33.out 4;have hfz15_5:=blk_frozen BK33.out 5;have hcz16_0:w11.cell? ⟨gb35,0,none⟩=some (.int .i64 0):=(blk_cell BK35.out 0).trans rfl;have hcz16_1:w11.cell? ⟨gb35,1,none⟩=some (.int .i64 0):=(blk_cell BK35.out 1).trans rfl;have hcz16_2:w11.cell? ⟨gb35,2,none⟩=some (.int .i64 0):=(blk_cell BK35.out 2).trans rfl;have hcz16_3:w11.cell? ⟨gb35,3,none⟩=some (.int .i64 0):=(blk_cell BK35.out 3).trans rfl;have hcz16_4:w11.cell? ⟨gb35,4,none⟩=some (.int .i64 0):=(blk_cell BK35.out 4).trans rfl;have hcz16_5:w11.cell? ⟨gb35,5,none⟩=some (.slice none 0 0):=(blk_cell BK35.out 5).trans rfl;have hfz16_0:=blk_frozen BK35.out 0;have hfz16_1:=blk_frozen BK35.out 1;have hfz16_2:=blk_frozen BK35.out 2;have hfz16_3:=blk_frozen BK35.out 3;have hfz16_4:=blk_frozen BK35.out 4;have hfz16_5:=blk_frozen BK35.out 5
   go_wp2
   refine bodyPost_ret (results_ct rfl _ _ gb35 65 #[.int .i64 a1,.int .i64 3,.int .i64 0,.int .i64 t44,.int .i64 t66,.slice none 0 0] (0,0) _ rfl (by refine zj ?_;refine blk_put (cs:=#[.int .i64 a1,.int .i64 3,.int .i64 0,.int .i64 t44,.int .i64 t66,.slice none 0 0]) ?_ 5 _ rfl;refine zj ?_;refine blk_put (cs:=#[.int .i64 a1,.int .i64 3,.int .i64 0,.int .i64 t44,.int .i64 0,.slice none 0 0]) ?_ 4 _ rfl;refine zj ?_;refine blk_put (cs:=#[.int .i64 a1,.int .i64 3,.int .i64 0,.int .i64 0,.int .i64 0,.slice none 0 0]) ?_ 3 _ rfl;refine zj ?_;refine blk_put (cs:=#[.int .i64 a1,.int .i64 3,.int .i64 0,.int .i64 0,.int .i64 0,.slice none 0 0]) ?_ 2 _ rfl;refine zj ?_;refine blk_put (cs:=#[.int .i64 a1,.int .i64 0,.int .i64 0,.int .i64 0,.int .i64 0,.slice none 0 0]) ?_ 1 _ rfl;refine zj ?_;refine blk_put (cs:=#[.int .i64 0,.int .i64 0,.int .i64 0,.int .i64 0,.int .i64 0,.slice none 0 0]) ?_ 0 _ rfl;refine zj ?_;refine blk_far ?_ NB35_33.out _;refine zj ?_;refine blk_far ?_ NB35_33.out _;refine zj ?_;refine blk_far ?_ NB35_33.out _;refine zj ?_;exact BK35.out) Try.underlying65 rfl zK) rfl ?_;exact ⟨_,ze,by first|exact Kd.R_nil _ _ _ _ _|exact Kd.N_nil _ _ _ _ _|exact Kd.V_nil _ _ _ _ _|exact Kd.Q_nil _ _ _ _ _|exact Kd.S_nil _ _ _ _ _,zv2 HB GE35 GE33⟩
  ·replace c13:=Bool.eq_false_iff.mpr c13;subst c13
   have H1:((solve_Refute.f k t56).bind fun bt43=>(some (a1,1,t44,0,0,bt43.1,bt43.2)))=some (r1,r2,r3,r4,r5,r6,r7):=by rw [if_neg (show ¬ (false=true) by decide)] at H;exact H
   clear H;have H:=H1;clear H1;replace H:=Option.bind_eq_some_iff.mp H;obtain ⟨⟨t43,t95⟩,A96,H⟩:=H;replace H:(some (a1,1,t44,0,0,t43,t95))=some (r1,r2,r3,r4,r5,r6,r7):=H;have A17:=zA A96;clear A96;simp only [Option.some.injEq,Prod.mk.injEq] at H;obtain ⟨rfl,rfl,rfl,rfl,rfl,rfl,rfl⟩:=H;have hnb18:=NB33_35.out;have hnc18:=NB35_33.out;have hcz19_0:w11.cell? ⟨gb33,0,none⟩=some (.int .i64 a1):=(blk_cell BK33.out 0).trans rfl;have hcz19_1:w11.cell? ⟨gb33,1,none⟩=some (.int .i64 0):=(blk_cell BK33.out 1).trans rfl;have hcz19_2:w11.cell? ⟨gb33,2,none⟩=some (.int .i64 0):=(blk_cell BK33.out 2).trans rfl;have hcz19_3:w11.cell? ⟨gb33,3,none⟩=some (.int .i64 0):=(blk_cell BK33.out 3).trans rfl;have hcz19_4:w11.cell? ⟨gb33,4,none⟩=some (.int .i64 0):=(blk_cell BK33.out 4).trans rfl;have hcz19_5:w11.cell? ⟨gb33,5,none⟩=some (.slice none 0 0):=(blk_cell BK33.out 5).trans rfl;have hfz19_0:=blk_frozen BK33.out 0;have hfz19_1:=blk_frozen BK33.out 1;have hfz19_2:=blk_frozen BK33.out 2;have hfz19_3:=blk_frozen BK33.out 3;have hfz19_4:=blk_frozen BK33.out 4;have hfz19_5:=blk_frozen BK33.out 5;obtain ⟨Ao20,co20,eo20⟩:=Kd.S_slice HO85.out;subst eo20
   go_wp2_with (first|((with_reducible refine gate_callee (f:=61) rfl ?_);refine goesL_ (some 56) rfl rfl Try.func61 zK rfl #[.slice Ao20 t56.length co20] rfl zM ?_;(with_reducible refine (solve_Refute.calls k _ _ t56 t43 t95 _ ?side1 ?side2 A17.out).mono ?_);(case side1=>refine (Kd.S_reads' (e:=34) (base:=w.heap.size) (ok:=fun k_=>(True∧some k_≠(v443:Value).ownBlock)) (n:=t56.length) (c:=co20) ?_).2.2;exact (by (with_reducible repeat (first|apply Kd.S_alloc|apply Kd.S_drewN|apply Kd.S_drew));exact (Kd.S_mono (Kd.S_far (p:=⟨gb33,2,none⟩) (Kd.S_far (p:=⟨gb33,1,none⟩) (Kd.S_types HO85.out BK33.out (by decide)) (fun _ hk=>hk.2) (.int .i64 1)) (fun _ hk=>hk.2) (.int .i64 t44)) (fun _ h_=>h_.1))));(case side2=>exact (Kd.S_reads' HO85.out).2.1);rintro e w21 ⟨v451,rfl,ho0,hb⟩;refine ⟨_,rfl,?_⟩;have HO98:=zA (Kd.R_lower ho0 (below_size zB));replace HO73:=zA (Kd.S_below (by (with_reducible repeat (first|apply Kd.S_alloc|apply Kd.S_drewN|apply Kd.S_drew));exact (Kd.S_mono (Kd.S_far (p:=⟨gb33,2,none⟩) (Kd.S_far (p:=⟨gb33,1,none⟩) (Kd.S_types HO73.out BK33.out (by decide)) (fun _ hk=>hk.2) (.int .i64 1)) (fun _ hk=>hk.2) (.int .i64 t44)) (fun _ h_=>h_.1))) hb);replace HO85:=zA (Kd.S_below (by (with_reducible repeat (first|apply Kd.S_alloc|apply Kd.S_drewN|apply Kd.S_drew));exact (Kd.S_mono (Kd.S_far (p:=⟨gb33,2,none⟩) (Kd.S_far (p:=⟨gb33,1,none⟩) (Kd.S_types HO85.out BK33.out (by decide)) (fun _ hk=>hk.2) (.int .i64 1)) (fun _ hk=>hk.2) (.int .i64 t44)) (fun _ h_=>h_.1))) hb);replace BK35:=zA (blk_below (g:=gb35) (o:=.cells #[.int .i64 0,.int .i64 0,.int .i64 0,.int .i64 0,.int .i64 0,.slice none 0 0] 65 (0,0)) (by refine zj ?_;refine blk_far ?_ NB35_33.out _;refine zj ?_;refine blk_far ?_ NB35_33.out _;refine zj ?_;exact BK35.out) hb);replace BK33:=zA (blk_below (g:=gb33) (o:=.cells #[.int .i64 a1,.int .i64 1,.int .i64 t44,.int .i64 0,.int .i64 0,.slice none 0 0] 65 (0,0)) (by refine zj ?_;refine blk_put (cs:=#[.int .i64 a1,.int .i64 1,.int .i64 0,.int .i64 0,.int .i64 0,.slice none 0 0]) ?_ 2 _ rfl;refine zj ?_;refine blk_put (cs:=#[.int .i64 a1,.int .i64 0,.int .i64 0,.int .i64 0,.int .i64 0,.slice none 0 0]) ?_ 1 _ rfl;refine zj ?_;exact BK33.out) hb);replace HB:=zA (below_step zB hb);(try clear hb);(try clear hb2);(try clear hk);(try clear hi);(try clear ho0);obtain ⟨Ao22,co22,eo22⟩:=Kd.R_slice HO98.out;subst eo22;have hcz23_0:w21.cell? ⟨gb33,0,none⟩=some (.int .i64 a1):=(blk_cell BK33.out 0).trans rfl;have hcz23_1:w21.cell? ⟨gb33,1,none⟩=some (.int .i64 1):=(blk_cell BK33.out 1).trans rfl;have hcz23_2:w21.cell? ⟨gb33,2,none⟩=some (.int .i64 t44):=(blk_cell BK33.out 2).trans rfl;have hcz23_3:w21.cell? ⟨gb33,3,none⟩=some (.int .i64 0):=(blk_cell BK33.out 3).trans rfl;have hcz23_4:w21.cell? ⟨gb33,4,none⟩=some (.int .i64 0):=(blk_cell BK33.out 4).trans rfl;have hcz23_5:w21.cell? ⟨gb33,5,none⟩=some (.slice none 0 0):=(blk_cell BK33.out 5).trans rfl;have hfz23_0:=blk_frozen BK33.out 0;have hfz23_1:=blk_frozen BK33.out 1;have hfz23_2:=blk_frozen BK33.out 2;have hfz23_3:=blk_frozen BK33.out 3;have hfz23_4:=blk_frozen BK33.out 4;have hfz23_5:=blk_frozen BK33.out 5;have hcz24_0:w21.cell? ⟨gb35,0,none⟩=some (.int .i64 0):=(blk_cell BK35.out 0).trans rfl;have hcz24_1:w21.cell? ⟨gb35,1,none⟩=some (.int .i64 0):=(blk_cell BK35.out 1).trans rfl;have hcz24_2:w21.cell? ⟨gb35,2,none⟩=some (.int .i64 0):=(blk_cell BK35.out 2).trans rfl;have hcz24_3:w21.cell? ⟨gb35,3,none⟩=some (.int .i64 0):=(blk_cell BK35.out 3).trans rfl;have hcz24_4:w21.cell? ⟨gb35,4,none⟩=some (.int .i64 0):=(blk_cell BK35.out 4).trans rfl;have hcz24_5:w21.cell? ⟨gb35,5,none⟩=some (.slice none 0 0):=(blk_cell BK35.out 5).trans rfl;have hfz24_0:=blk_frozen BK35.out 0;have hfz24_1:=blk_frozen BK35.out 1;have hfz24_2:=blk_frozen BK35.out 2;have hfz24_3:=blk_frozen BK35.out 3;have hfz24_4:=blk_frozen BK35.out 4;have hfz24_5:=blk_frozen BK35.out 5))
   refine bodyPost_ret (results_ct rfl _ _ gb35 65 #[.int .i64 a1,.int .i64 1,.int .i64 t44,.int .i64 0,.int .i64 0,.slice Ao22 t43.length co22] (0,0) _ rfl (by refine zj ?_;refine blk_put (cs:=#[.int .i64 a1,.int .i64 1,.int .i64 t44,.int .i64 0,.int .i64 0,.slice none 0 0]) ?_ 5 _ rfl;refine zj ?_;refine blk_put (cs:=#[.int .i64 a1,.int .i64 1,.int .i64 t44,.int .i64 0,.int .i64 0,.slice none 0 0]) ?_ 4 _ rfl;refine zj ?_;refine blk_put (cs:=#[.int .i64 a1,.int .i64 1,.int .i64 t44,.int .i64 0,.int .i64 0,.slice none 0 0]) ?_ 3 _ rfl;refine zj ?_;refine blk_put (cs:=#[.int .i64 a1,.int .i64 1,.int .i64 0,.int .i64 0,.int .i64 0,.slice none 0 0]) ?_ 2 _ rfl;refine zj ?_;refine blk_put (cs:=#[.int .i64 a1,.int .i64 0,.int .i64 0,.int .i64 0,.int .i64 0,.slice none 0 0]) ?_ 1 _ rfl;refine zj ?_;refine blk_put (cs:=#[.int .i64 0,.int .i64 0,.int .i64 0,.int .i64 0,.int .i64 0,.slice none 0 0]) ?_ 0 _ rfl;refine zj ?_;refine blk_far ?_ NB35_33.out _;refine zj ?_;exact BK35.out) Try.underlying65 rfl zK) rfl ?_;exact ⟨_,ze,by refine zr ?_;exact Kd.R_mono (Kd.R_far (p:=⟨gb35,5,none⟩) (Kd.R_far (p:=⟨gb35,4,none⟩) (Kd.R_far (p:=⟨gb35,3,none⟩) (Kd.R_far (p:=⟨gb35,2,none⟩) (Kd.R_far (p:=⟨gb35,1,none⟩) (Kd.R_far (p:=⟨gb35,0,none⟩) (Kd.R_far (p:=⟨gb33,5,none⟩) (Kd.R_types (Kd.R_types HO98.out BK33.out (by decide)) BK35.out (by decide)) (fun _ hk=>hk.1.2) (.slice Ao22 t43.length co22)) (fun _ hk=>hk.2) (.int .i64 a1)) (fun _ hk=>hk.2) (.int .i64 1)) (fun _ hk=>hk.2) (.int .i64 t44)) (fun _ hk=>hk.2) (.int .i64 0)) (fun _ hk=>hk.2) (.int .i64 0)) (fun _ hk=>hk.2) (.slice Ao22 t43.length co22)) (fun _ hk=>trivial),zv2 HB GE35 GE33⟩
 ·replace c12:=Bool.eq_false_iff.mpr c12;subst c12
  have H1:((solve_Refute.f k t67).bind fun bt59=>(some (a1,2,t66,0,0,bt59.1,bt59.2)))=some (r1,r2,r3,r4,r5,r6,r7):=by rw [if_neg (show ¬ (false=true) by decide)] at H;exact H
  clear H;have H:=H1;clear H1;replace H:=Option.bind_eq_some_iff.mp H;obtain ⟨⟨t59,t99⟩,A250,H⟩:=H;replace H:(some (a1,2,t66,0,0,t59,t99))=some (r1,r2,r3,r4,r5,r6,r7):=H;have A25:=zA A250;clear A250;simp only [Option.some.injEq,Prod.mk.injEq] at H;obtain ⟨rfl,rfl,rfl,rfl,rfl,rfl,rfl⟩:=H;have hnb26:=NB33_35.out;have hnc26:=NB35_33.out;have hcz27_0:w11.cell? ⟨gb33,0,none⟩=some (.int .i64 a1):=(blk_cell BK33.out 0).trans rfl;have hcz27_1:w11.cell? ⟨gb33,1,none⟩=some (.int .i64 0):=(blk_cell BK33.out 1).trans rfl;have hcz27_2:w11.cell? ⟨gb33,2,none⟩=some (.int .i64 0):=(blk_cell BK33.out 2).trans rfl;have hcz27_3:w11.cell? ⟨gb33,3,none⟩=some (.int .i64 0):=(blk_cell BK33.out 3).trans rfl;have hcz27_4:w11.cell? ⟨gb33,4,none⟩=some (.int .i64 0):=(blk_cell BK33.out 4).trans rfl;have hcz27_5:w11.cell? ⟨gb33,5,none⟩=some (.slice none 0 0):=(blk_cell BK33.out 5).trans rfl;have hfz27_0:=blk_frozen BK33.out 0;have hfz27_1:=blk_frozen BK33.out 1;have hfz27_2:=blk_frozen BK33.out 2;have hfz27_3:=blk_frozen BK33.out 3;have hfz27_4:=blk_frozen BK33.out 4;have hfz27_5:=blk_frozen BK33.out 5;obtain ⟨Ao28,co28,eo28⟩:=Kd.S_slice HO73.out;subst eo28
  go_wp2_with (first|((with_reducible refine gate_callee (f:=61) rfl ?_);refine goesL_ (some 35) rfl rfl Try.func61 zK rfl #[.slice Ao28 t67.length co28] rfl zM ?_;(with_reducible refine (solve_Refute.calls k _ _ t67 t59 t99 _ ?side1 ?side2 A25.out).mono ?_);(case side1=>refine (Kd.S_reads' (e:=34) (base:=w.heap.size) (ok:=fun k_=>(True∧some k_≠(v448:Value).ownBlock)) (n:=t67.length) (c:=co28) ?_).2.2;exact (by (with_reducible repeat (first|apply Kd.S_alloc|apply Kd.S_drewN|apply Kd.S_drew));exact (Kd.S_mono (Kd.S_far (p:=⟨gb33,2,none⟩) (Kd.S_far (p:=⟨gb33,1,none⟩) (Kd.S_types HO73.out BK33.out (by decide)) (fun _ hk=>hk.2) (.int .i64 2)) (fun _ hk=>hk.2) (.int .i64 t66)) (fun _ h_=>h_.1))));(case side2=>exact (Kd.S_reads' HO73.out).2.1);rintro e w29 ⟨v455,rfl,ho0,hb⟩;refine ⟨_,rfl,?_⟩;have HO456:=zA (Kd.R_lower ho0 (below_size zB));replace HO73:=zA (Kd.S_below (by (with_reducible repeat (first|apply Kd.S_alloc|apply Kd.S_drewN|apply Kd.S_drew));exact (Kd.S_mono (Kd.S_far (p:=⟨gb33,2,none⟩) (Kd.S_far (p:=⟨gb33,1,none⟩) (Kd.S_types HO73.out BK33.out (by decide)) (fun _ hk=>hk.2) (.int .i64 2)) (fun _ hk=>hk.2) (.int .i64 t66)) (fun _ h_=>h_.1))) hb);replace HO85:=zA (Kd.S_below (by (with_reducible repeat (first|apply Kd.S_alloc|apply Kd.S_drewN|apply Kd.S_drew));exact (Kd.S_mono (Kd.S_far (p:=⟨gb33,2,none⟩) (Kd.S_far (p:=⟨gb33,1,none⟩) (Kd.S_types HO85.out BK33.out (by decide)) (fun _ hk=>hk.2) (.int .i64 2)) (fun _ hk=>hk.2) (.int .i64 t66)) (fun _ h_=>h_.1))) hb);replace BK35:=zA (blk_below (g:=gb35) (o:=.cells #[.int .i64 0,.int .i64 0,.int .i64 0,.int .i64 0,.int .i64 0,.slice none 0 0] 65 (0,0)) (by refine zj ?_;refine blk_far ?_ NB35_33.out _;refine zj ?_;refine blk_far ?_ NB35_33.out _;refine zj ?_;exact BK35.out) hb);replace BK33:=zA (blk_below (g:=gb33) (o:=.cells #[.int .i64 a1,.int .i64 2,.int .i64 t66,.int .i64 0,.int .i64 0,.slice none 0 0] 65 (0,0)) (by refine zj ?_;refine blk_put (cs:=#[.int .i64 a1,.int .i64 2,.int .i64 0,.int .i64 0,.int .i64 0,.slice none 0 0]) ?_ 2 _ rfl;refine zj ?_;refine blk_put (cs:=#[.int .i64 a1,.int .i64 0,.int .i64 0,.int .i64 0,.int .i64 0,.slice none 0 0]) ?_ 1 _ rfl;refine zj ?_;exact BK33.out) hb);replace HB:=zA (below_step zB hb);(try clear hb);(try clear hb2);(try clear hk);(try clear hi);(try clear ho0);obtain ⟨Ao30,co30,eo30⟩:=Kd.R_slice HO456.out;subst eo30;have hcz31_0:w29.cell? ⟨gb33,0,none⟩=some (.int .i64 a1):=(blk_cell BK33.out 0).trans rfl;have hcz31_1:w29.cell? ⟨gb33,1,none⟩=some (.int .i64 2):=(blk_cell BK33.out 1).trans rfl;have hcz31_2:w29.cell? ⟨gb33,2,none⟩=some (.int .i64 t66):=(blk_cell BK33.out 2).trans rfl;have hcz31_3:w29.cell? ⟨gb33,3,none⟩=some (.int .i64 0):=(blk_cell BK33.out 3).trans rfl;have hcz31_4:w29.cell? ⟨gb33,4,none⟩=some (.int .i64 0):=(blk_cell BK33.out 4).trans rfl;have hcz31_5:w29.cell? ⟨gb33,5,none⟩=some (.slice none 0 0):=(blk_cell BK33.out 5).trans rfl;have hfz31_0:=blk_frozen BK33.out 0;have hfz31_1:=blk_frozen BK33.out 1;have hfz31_2:=blk_frozen BK33.out 2;have hfz31_3:=blk_frozen BK33.out 3;have hfz31_4:=blk_frozen BK33.out 4;have hfz31_5:=blk_frozen BK33.out 5;have hcz32_0:w29.cell? ⟨gb35,0,none⟩=some (.int .i64 0):=(blk_cell BK35.out 0).trans rfl;have hcz32_1:w29.cell? ⟨gb35,1,none⟩=some (.int .i64 0):=(blk_cell BK35.out 1).trans rfl;have hcz32_2:w29.cell? ⟨gb35,2,none⟩=some (.int .i64 0):=(blk_cell BK35.out 2).trans rfl;have hcz32_3:w29.cell? ⟨gb35,3,none⟩=some (.int .i64 0):=(blk_cell BK35.out 3).trans rfl;have hcz32_4:w29.cell? ⟨gb35,4,none⟩=some (.int .i64 0):=(blk_cell BK35.out 4).trans rfl;have hcz32_5:w29.cell? ⟨gb35,5,none⟩=some (.slice none 0 0):=(blk_cell BK35.out 5).trans rfl;have hfz32_0:=blk_frozen BK35.out 0;have hfz32_1:=blk_frozen BK35.out 1;have hfz32_2:=blk_frozen BK35.out 2;have hfz32_3:=blk_frozen BK35.out 3;have hfz32_4:=blk_frozen BK35.out 4;have hfz32_5:=blk_frozen BK35.out 5))
  refine bodyPost_ret (results_ct rfl _ _ gb35 65 #[.int .i64 a1,.int .i64 2,.int .i64 t66,.int .i64 0,.int .i64 0,.slice Ao30 t59.length co30] (0,0) _ rfl (by refine zj ?_;refine blk_put (cs:=#[.int .i64 a1,.int .i64 2,.int .i64 t66,.int .i64 0,.int .i64 0,.slice none 0 0]) ?_ 5 _ rfl;refine zj ?_;refine blk_put (cs:=#[.int .i64 a1,.int .i64 2,.int .i64 t66,.int .i64 0,.int .i64 0,.slice none 0 0]) ?_ 4 _ rfl;refine zj ?_;refine blk_put (cs:=#[.int .i64 a1,.int .i64 2,.int .i64 t66,.int .i64 0,.int .i64 0,.slice none 0 0]) ?_ 3 _ rfl;refine zj ?_;refine blk_put (cs:=#[.int .i64 a1,.int .i64 2,.int .i64 0,.int .i64 0,.int .i64 0,.slice none 0 0]) ?_ 2 _ rfl;refine zj ?_;refine blk_put (cs:=#[.int .i64 a1,.int .i64 0,.int .i64 0,.int .i64 0,.int .i64 0,.slice none 0 0]) ?_ 1 _ rfl;refine zj ?_;refine blk_put (cs:=#[.int .i64 0,.int .i64 0,.int .i64 0,.int .i64 0,.int .i64 0,.slice none 0 0]) ?_ 0 _ rfl;refine zj ?_;refine blk_far ?_ NB35_33.out _;refine zj ?_;exact BK35.out) Try.underlying65 rfl zK) rfl ?_;exact ⟨_,ze,by refine zr ?_;exact Kd.R_mono (Kd.R_far (p:=⟨gb35,5,none⟩) (Kd.R_far (p:=⟨gb35,4,none⟩) (Kd.R_far (p:=⟨gb35,3,none⟩) (Kd.R_far (p:=⟨gb35,2,none⟩) (Kd.R_far (p:=⟨gb35,1,none⟩) (Kd.R_far (p:=⟨gb35,0,none⟩) (Kd.R_far (p:=⟨gb33,5,none⟩) (Kd.R_types (Kd.R_types HO456.out BK33.out (by decide)) BK35.out (by decide)) (fun _ hk=>hk.1.2) (.slice Ao30 t59.length co30)) (fun _ hk=>hk.2) (.int .i64 a1)) (fun _ hk=>hk.2) (.int .i64 2)) (fun _ hk=>hk.2) (.int .i64 t66)) (fun _ hk=>hk.2) (.int .i64 0)) (fun _ hk=>hk.2) (.int .i64 0)) (fun _ hk=>hk.2) (.slice Ao30 t59.length co30)) (fun _ hk=>trivial),zv2 HB GE35 GE33⟩
def shared_All.l0:Nat→List (S34)→List (S65)→List Int→Int→Int→Option ((List (S65))×Int)
 | 0,_,_,_,_,_=>none
 | k+1,x0,x5,x16,x17,x18=>if x18<x17 then (if 0≤x18 then (if x18<(x16.length:Int) then ((shared_evidence.f k x0 (rd x16 x18)).bind fun bt41=>(if bt41.2.2.2.2.2.2=0 then (if x5.length<2199023255552 then (shared_All.l0 k x0 (x5++[(⟨bt41.1,bt41.2.1,bt41.2.2.1,bt41.2.2.2.1,bt41.2.2.2.2.1,(⟨bt41.2.2.2.2.2.1⟩:S63)⟩:S65)]) x16 x17 (wrap64 (x18+1))) else (none)) else (some (([]:List (S65)),bt41.2.2.2.2.2.2)))) else (none)) else (none)) else (some (x5,0))
def shared_All.f (k:Nat) (l0:List (S34)):Option ((List (S65))×Int):=(shared_solvable.f k l0).bind fun t69=>(if t69=0 then ((solve_Vars.f k l0).bind fun t42=>(shared_All.l0 k l0 ([]:List (S65)) t42 (t42.length:Int) 0)) else (some (([]:List (S65)),t69)))
theorem shared_All.mono_l:∀ k,(∀ y0 y1 y2 y3 y4,LeO (shared_All.l0 k y0 y1 y2 y3 y4) (shared_All.l0 (k+1) y0 y1 y2 y3 y4))
 | 0=>fun _ _ _ _ _ r h=>by simp [shared_All.l0] at h
 | k+1=>by
  have ih0:=shared_All.mono_l k
  ·intro y0 y1 y2 y3 y4
   unfold shared_All.l0
   repeat' first
   | (with_reducible exact ih0 _ _ _ _ _)
   | (with_reducible exact shared_evidence.mono _ _ _)
   | (with_reducible exact shared_solvable.mono _ _)
   | (with_reducible exact solve_Vars.mono _ _)
   | (with_reducible exact LeO.refl _)
   | (with_reducible exact LeO.none _)
   | (with_reducible refine LeO.ite ?_ ?_)
   | (with_reducible refine LeO.bind ?_ (fun _=>?_))
   | exact LeO.none _
   | refine LeO.ite ?_ ?_
   | refine LeO.bind ?_ (fun _=>?_)
theorem shared_All.mono:∀ a0 k,LeO (shared_All.f k a0) (shared_All.f (k+1) a0):=by
 intro a0 k;have ih0:=shared_All.mono_l k
 unfold shared_All.f
 repeat' first
   | (with_reducible exact ih0 _ _ _ _ _)
   | (with_reducible exact shared_evidence.mono _ _ _)
   | (with_reducible exact shared_solvable.mono _ _)
   | (with_reducible exact solve_Vars.mono _ _)
   | (with_reducible exact LeO.refl _)
   | (with_reducible exact LeO.none _)
   | (with_reducible refine LeO.ite ?_ ?_)
   | (with_reducible refine LeO.bind ?_ (fun _=>?_))
   | exact LeO.none _
   | refine LeO.ite ?_ ?_
   | refine LeO.bind ?_ (fun _=>?_)
set_option maxHeartbeats 8000000 in
set_option maxRecDepth 100000 in
theorem shared_All.calls (k:Nat) (A0:Option Addr) (c0:Nat) (l0:List (S34)) (r1:List (S65)) (r2:Int) (w:World) (hr0:Kd.C k34 w A0 l0.length l0) (hc0:l0.length≤c0) (h:shared_All.f k l0=some (r1,r2)) :
  Calls Try.prog 22 #[.slice A0 l0.length c0] w fun e w'=>∃ v0_:Value,e=.returned (.tuple #[v0_,.int .i64 r2])∧Kd.S k65 65 w' w.heap.size (fun _=>True) v0_ r1∧Below w.heap.size w w':=by
 have hu3:=Try.underlying3;have hu65:=Try.underlying65;have HR0:=zA hr0;have HC0:=zA hc0;clear hr0 hc0;have HB:=zA (Below.refl w.heap.size w);have H:((shared_solvable.f k l0).bind fun t69=>(if t69=0 then ((solve_Vars.f k l0).bind fun t42=>(shared_All.l0 k l0 ([]:List (S65)) t42 (t42.length:Int) 0)) else (some (([]:List (S65)),t69))))=some (r1,r2):=h;clear h;replace H:=Option.bind_eq_some_iff.mp H;obtain ⟨t69,A20,H⟩:=H;replace H:(if t69=0 then ((solve_Vars.f k l0).bind fun t42=>(shared_All.l0 k l0 ([]:List (S65)) t42 (t42.length:Int) 0)) else (some (([]:List (S65)),t69)))=some (r1,r2):=H;have A2:=zA A20;clear A20;have HC3:=zA H;clear H
 go_enter Try.func22,Try.ntmps22
 go_upto_if 13 with (first|((with_reducible refine gate_callee (f:=28) rfl ?_);refine goesL_ (some 11) rfl rfl Try.func28 zK rfl #[.slice A0 l0.length c0] rfl zM ?_;(with_reducible refine (shared_solvable.calls k _ _ l0 t69 _ ?side1 ?side2 A2.out).mono ?_);(case side1=>repeat (first|exact HR0.out|(with_reducible refine Kd.C_alloc ?_ _)|(with_reducible refine Kd.C_drewN ?_ _)|(with_reducible refine Kd.C_drew ?_)));(case side2=>exact HC0.out);rintro e w4 ⟨rfl,hb⟩;refine ⟨_,rfl,?_⟩;replace HB:=zA (below_step zB hb);(try clear hb);(try clear hb2);(try clear hk);(try clear hi)))
 (try simp only [Act.put,zi,zs,zt]);have H:=HC3.out;clear HC3
 by_cases c5:t69=0
 ·rw [if_pos c5] at H;have c5b0:(t69 == 0)=true:=beq_iff_eq.mpr c5;have c5b1:(t69 != 0)=false:=bne_eq_false_iff_eq.mpr c5;clear c5
  (first|rw [c5b0]|(simp only [i64_w,i32_w];rw [c5b0])|skip)
  (try rw [c5b1]);replace H:=Option.bind_eq_some_iff.mp H;obtain ⟨t42,A60,H⟩:=H;replace H:(shared_All.l0 k l0 ([]:List (S65)) t42 (t42.length:Int) 0)=some (r1,r2):=H;have A6:=zA A60;clear A60;have H':=zA H;clear H
  go_wp2_with (first|((with_reducible refine gate_callee (f:=29) rfl ?_);refine goesL_ (some 16) rfl rfl Try.func29 zK rfl #[.slice A0 l0.length c0] rfl zM ?_;(with_reducible refine (solve_Vars.calls k _ _ l0 t42 _ ?side1 ?side2 A6.out).mono ?_);(case side1=>exact zC (Kd.C_below HR0.out HB.out));(case side2=>exact HC0.out);rintro e w7 ⟨v460,rfl,ho0,hb⟩;refine ⟨_,rfl,?_⟩;have HO461:=zA (Kd.R_lower ho0 (below_size zB));replace HB:=zA (below_step zB hb);(try clear hb);(try clear hb2);(try clear hk);(try clear hi);(try clear ho0);obtain ⟨Ao8,co8,eo8⟩:=Kd.R_slice HO461.out;subst eo8))
  go_loopg [5,18] k (fun kq v5 v18 w'=>∃ (x5_1:List (S65)) (x18_1:Int),v18=.int .i64 x18_1∧Aside0 (shared_All.l0 kq l0 x5_1 t42 (t42.length:Int) x18_1=some (r1,r2))∧Aside0 (kq≤k)∧Aside0 (Kd.S k65 65 w' w.heap.size (fun _=>True) v5 x5_1)∧Aside0 (Kd.R (Kd.int .i64) 3 w' w.heap.size (fun _=>True) (.slice Ao8 t42.length co8) t42)∧Aside0 (Below w.heap.size w w'))
  case atStart=>exact ⟨(([]:List (S65))),(0),zT,H',⟨Nat.le_refl _⟩,⟨by first|exact Kd.S_nil _ _ _ _ _|exact Kd.N_nil _ _ _ _ _|exact Kd.V_nil _ _ _ _ _|exact Kd.Q_nil _ _ _ _ _|exact Kd.R_nil _ _ _ _ _⟩,⟨by refine zr ?_;exact HO461.out⟩,⟨zv0 HB⟩⟩
  case round=>
   clear H'
   try clear c5
   try clear c5b0
   try clear c5b1
   obtain ⟨x5_1,x18_1,rfl,HA,HK1,HO_5,HO_16,HB⟩:=hrel
   cases gk with
   | zero=>exact absurd HA.out (by simp [shared_All.l0])
   | succ k1=>
    have H:=HA.out;clear HA;simp only [shared_All.l0] at H
    by_cases c9:x18_1<(t42.length:Int)
    ·rw [if_pos c9] at H;have c9b0:decide (x18_1<(t42.length:Int))=true:=decide_eq_true c9;clear c9
     by_cases c10:0≤x18_1
     ·rw [if_pos c10] at H;have c10b0:decide (0≤x18_1)=true:=decide_eq_true c10;clear c10
      by_cases c11:x18_1<(t42.length:Int)
      ·rw [if_pos c11] at H;have c11b0:decide (x18_1<(t42.length:Int))=true:=decide_eq_true c11;clear c11;replace H:=Option.bind_eq_some_iff.mp H;obtain ⟨⟨t41,t45,t57,t58,t62,t47,t80⟩,A120,H⟩:=H;replace H:(if t80=0 then (if x5_1.length<2199023255552 then (shared_All.l0 k1 l0 (x5_1++[(⟨t41,t45,t57,t58,t62,(⟨t47⟩:S63)⟩:S65)]) t42 (t42.length:Int) (wrap64 (x18_1+1))) else (none)) else (some (([]:List (S65)),t80)))=some (r1,r2):=H;have A12:=zA A120;clear A120;have HC13:=zA H;clear H;have p71:0≤(x18_1:Int):=of_decide_eq_true zh;have q71:x18_1<(t42.length:Int):=of_decide_eq_true zh;obtain ⟨ad71,e71,hx71_0⟩:=Kd.at_int (Kd.R_reads' HO_16.out).2.2 x18_1 p71 q71
       cases e71
       replace p71:=eq_true p71;replace q71:=eq_true q71
       go_upto_if 29 with (first|((with_reducible refine gate_callee (f:=46) rfl ?_);refine goesL_ (some 25) rfl rfl Try.func46 zK rfl #[.slice A0 l0.length c0,.int .i64 (rd t42 x18_1)] rfl zM ?_;(with_reducible refine (shared_evidence.calls k1 _ _ l0 (rd t42 x18_1) t41 t45 t57 t58 t62 t47 t80 _ ?side1 ?side2 A12.out).mono ?_);(case side1=>exact zC (Kd.C_below HR0.out HB.out));(case side2=>exact HC0.out);rintro e w14 ⟨v469,rfl,ho0,hb⟩;refine ⟨_,rfl,?_⟩;have HO79:=zA (Kd.R_lower ho0 (below_size zB));replace HO_5:=zA (Kd.S_elder' (zS HO_5) (Kd.R_base ho0) hb);replace HO_16:=zA (Kd.R_below (zR HO_16) hb);replace HB:=zA (below_step zB hb);(try clear hb);(try clear hb2);(try clear hk);(try clear hi);(try clear ho0))|((with_reducible refine gate_dst (N:=8) rfl ?_);refine box_event ?hg (N:=8) ?hd (cs:=#[.int .i64 0,.int .i64 0,.int .i64 0,.int .i64 0,.int .i64 0,.slice none 0 0]) (t:=65) ?hr ?_;(case hd=>rfl);(case hg=>rfl);(case hr=>first|(go_simp;done)|(go_simp;rfl));intro gb36 hg w15 hbox hb;have BK36:=zA (hbox);have GW36:=zA (zG hg (below_size zB):w.heap.size≤gb36);have GE36:=GW36;replace HO_5:=zA (Kd.S_below (Kd.S_elderB (zS HO_5) gb36 (Nat.le_of_eq hg.symm)) hb);replace HO_16:=zA (Kd.R_below (zR HO_16) hb);replace HO79:=zA (Kd.R_below (zR HO79) hb);replace HB:=zA (below_step zB hb);clear hb hbox hg;have hcz16_0:w15.cell? ⟨gb36,0,none⟩=some (.int .i64 0):=(blk_cell BK36.out 0).trans rfl;have hcz16_1:w15.cell? ⟨gb36,1,none⟩=some (.int .i64 0):=(blk_cell BK36.out 1).trans rfl;have hcz16_2:w15.cell? ⟨gb36,2,none⟩=some (.int .i64 0):=(blk_cell BK36.out 2).trans rfl;have hcz16_3:w15.cell? ⟨gb36,3,none⟩=some (.int .i64 0):=(blk_cell BK36.out 3).trans rfl;have hcz16_4:w15.cell? ⟨gb36,4,none⟩=some (.int .i64 0):=(blk_cell BK36.out 4).trans rfl;have hcz16_5:w15.cell? ⟨gb36,5,none⟩=some (.slice none 0 0):=(blk_cell BK36.out 5).trans rfl;have hfz16_0:=blk_frozen BK36.out 0;have hfz16_1:=blk_frozen BK36.out 1;have hfz16_2:=blk_frozen BK36.out 2;have hfz16_3:=blk_frozen BK36.out 3;have hfz16_4:=blk_frozen BK36.out 4;have hfz16_5:=blk_frozen BK36.out 5;obtain ⟨Ao17,co17,eo17⟩:=Kd.R_slice HO79.out;subst eo17))
       (try simp only [Act.put,zi,zs,zt]);have H:=HC13.out;clear HC13
       by_cases c18:t80=0
       ·rw [if_pos c18] at H;have c18b0:(t80 == 0)=true:=beq_iff_eq.mpr c18;have c18b1:(t80 != 0)=false:=bne_eq_false_iff_eq.mpr c18;clear c18
        (first|rw [c18b0]|(simp only [i64_w,i32_w];rw [c18b0])|skip)
        (try rw [c18b1])
        by_cases c19:x5_1.length<2199023255552
        ·rw [if_pos c19] at H;have LMc19:=zA c19;clear c19
         obtain ⟨y77,hy77⟩:∃ y_:List (S65),y_=(x5_1++[(⟨t41,t45,t57,t58,t62,(⟨t47⟩:S63)⟩:S65)]):=⟨_,rfl⟩
         replace H:(shared_All.l0 k1 l0 y77 t42 (t42.length:Int) (wrap64 (x18_1+1)))=some (r1,r2):=by first|(rw [hy77];with_reducible exact H)|(have H2_:=(Option.bind_some _ _).symm.trans H;rw [hy77];with_reducible exact H2_)|(have H2_:=(Option.bind_some _ _).symm.trans H;with_reducible exact H2_)|with_reducible exact H|(rw [hy77];exact H)|exact H
         have Ny77:=zA hy77;clear hy77;have H':=zA H;clear H
         have n0_:Aside0 (Kd.S k65 65 ((((((w15.setCell ⟨gb36,0,none⟩ (.int .i64 t41)).setCell ⟨gb36,1,none⟩ (.int .i64 t45)).setCell ⟨gb36,2,none⟩ (.int .i64 t57)).setCell ⟨gb36,3,none⟩ (.int .i64 t58)).setCell ⟨gb36,4,none⟩ (.int .i64 t62)).setCell ⟨gb36,5,none⟩ (.slice Ao17 t47.length co17)) w.heap.size (fun k_=>some k_≠(.slice Ao17 t47.length co17:Value).ownBlock∧k_≠gb36) u5 x5_1):=⟨by (with_reducible repeat (first|apply Kd.S_alloc|apply Kd.S_drewN|apply Kd.S_drew));exact Kd.S_mono (Kd.S_far (p:=⟨gb36,5,none⟩) (Kd.S_far (p:=⟨gb36,4,none⟩) (Kd.S_far (p:=⟨gb36,3,none⟩) (Kd.S_far (p:=⟨gb36,2,none⟩) (Kd.S_far (p:=⟨gb36,1,none⟩) (Kd.S_far (p:=⟨gb36,0,none⟩) (Kd.S_mono HO_5.out (fun k_ hk=>(⟨hk,hk.2⟩:_∧k_≠gb36))) (fun _ hk=>hk.2) (.int .i64 t41)) (fun _ hk=>hk.2) (.int .i64 t45)) (fun _ hk=>hk.2) (.int .i64 t57)) (fun _ hk=>hk.2) (.int .i64 t58)) (fun _ hk=>hk.2) (.int .i64 t62)) (fun _ hk=>hk.2) (.slice Ao17 t47.length co17)) (fun _ hk=>⟨hk.1.1.2,hk.1.2⟩)⟩
         have n1_:Aside0 (Kd.R (Kd.int .i64) 3 ((((((w15.setCell ⟨gb36,0,none⟩ (.int .i64 t41)).setCell ⟨gb36,1,none⟩ (.int .i64 t45)).setCell ⟨gb36,2,none⟩ (.int .i64 t57)).setCell ⟨gb36,3,none⟩ (.int .i64 t58)).setCell ⟨gb36,4,none⟩ (.int .i64 t62)).setCell ⟨gb36,5,none⟩ (.slice Ao17 t47.length co17)) w.heap.size (fun _=>True) (.slice (some ad71) t42.length co8) t42):=⟨by refine zr ?_;exact Kd.R_mono (Kd.R_far (p:=⟨gb36,5,none⟩) (Kd.R_far (p:=⟨gb36,4,none⟩) (Kd.R_far (p:=⟨gb36,3,none⟩) (Kd.R_far (p:=⟨gb36,2,none⟩) (Kd.R_far (p:=⟨gb36,1,none⟩) (Kd.R_far (p:=⟨gb36,0,none⟩) (Kd.R_types HO_16.out BK36.out (by decide)) (fun _ hk=>hk.2) (.int .i64 t41)) (fun _ hk=>hk.2) (.int .i64 t45)) (fun _ hk=>hk.2) (.int .i64 t57)) (fun _ hk=>hk.2) (.int .i64 t58)) (fun _ hk=>hk.2) (.int .i64 t62)) (fun _ hk=>hk.2) (.slice Ao17 t47.length co17)) (fun _ hk=>trivial)⟩
         have n2_:Aside0 (Kd.R k116 116 ((((((w15.setCell ⟨gb36,0,none⟩ (.int .i64 t41)).setCell ⟨gb36,1,none⟩ (.int .i64 t45)).setCell ⟨gb36,2,none⟩ (.int .i64 t57)).setCell ⟨gb36,3,none⟩ (.int .i64 t58)).setCell ⟨gb36,4,none⟩ (.int .i64 t62)).setCell ⟨gb36,5,none⟩ (.slice Ao17 t47.length co17)) w.heap.size (fun _=>True) (.slice Ao17 t47.length co17) t47):=⟨by refine zr ?_;exact Kd.R_mono (Kd.R_far (p:=⟨gb36,5,none⟩) (Kd.R_far (p:=⟨gb36,4,none⟩) (Kd.R_far (p:=⟨gb36,3,none⟩) (Kd.R_far (p:=⟨gb36,2,none⟩) (Kd.R_far (p:=⟨gb36,1,none⟩) (Kd.R_far (p:=⟨gb36,0,none⟩) (Kd.R_types HO79.out BK36.out (by decide)) (fun _ hk=>hk.2) (.int .i64 t41)) (fun _ hk=>hk.2) (.int .i64 t45)) (fun _ hk=>hk.2) (.int .i64 t57)) (fun _ hk=>hk.2) (.int .i64 t58)) (fun _ hk=>hk.2) (.int .i64 t62)) (fun _ hk=>hk.2) (.slice Ao17 t47.length co17)) (fun _ hk=>trivial)⟩
         have n3_:Aside0 (((((((w15.setCell ⟨gb36,0,none⟩ (.int .i64 t41)).setCell ⟨gb36,1,none⟩ (.int .i64 t45)).setCell ⟨gb36,2,none⟩ (.int .i64 t57)).setCell ⟨gb36,3,none⟩ (.int .i64 t58)).setCell ⟨gb36,4,none⟩ (.int .i64 t62)).setCell ⟨gb36,5,none⟩ (.slice Ao17 t47.length co17)).heap[gb36]?=some (.cells #[.int .i64 t41,.int .i64 t45,.int .i64 t57,.int .i64 t58,.int .i64 t62,.slice Ao17 t47.length co17] 65 (0,0))):=⟨by refine zj ?_;refine blk_put (cs:=#[.int .i64 t41,.int .i64 t45,.int .i64 t57,.int .i64 t58,.int .i64 t62,.slice none 0 0]) ?_ 5 _ rfl;refine zj ?_;refine blk_put (cs:=#[.int .i64 t41,.int .i64 t45,.int .i64 t57,.int .i64 t58,.int .i64 0,.slice none 0 0]) ?_ 4 _ rfl;refine zj ?_;refine blk_put (cs:=#[.int .i64 t41,.int .i64 t45,.int .i64 t57,.int .i64 0,.int .i64 0,.slice none 0 0]) ?_ 3 _ rfl;refine zj ?_;refine blk_put (cs:=#[.int .i64 t41,.int .i64 t45,.int .i64 0,.int .i64 0,.int .i64 0,.slice none 0 0]) ?_ 2 _ rfl;refine zj ?_;refine blk_put (cs:=#[.int .i64 t41,.int .i64 0,.int .i64 0,.int .i64 0,.int .i64 0,.slice none 0 0]) ?_ 1 _ rfl;refine zj ?_;refine blk_put (cs:=#[.int .i64 0,.int .i64 0,.int .i64 0,.int .i64 0,.int .i64 0,.slice none 0 0]) ?_ 0 _ rfl;refine zj ?_;exact BK36.out⟩
         have n4_:Aside0 (Below w.heap.size w ((((((w15.setCell ⟨gb36,0,none⟩ (.int .i64 t41)).setCell ⟨gb36,1,none⟩ (.int .i64 t45)).setCell ⟨gb36,2,none⟩ (.int .i64 t57)).setCell ⟨gb36,3,none⟩ (.int .i64 t58)).setCell ⟨gb36,4,none⟩ (.int .i64 t62)).setCell ⟨gb36,5,none⟩ (.slice Ao17 t47.length co17))):=⟨zv1 HB GE36⟩
         (try clear HO_5);(try clear HO_16);(try clear HO79);(try clear BK36);(try clear HB)
         generalize ((((((w15.setCell ⟨gb36,0,none⟩ (.int .i64 t41)).setCell ⟨gb36,1,none⟩ (.int .i64 t45)).setCell ⟨gb36,2,none⟩ (.int .i64 t57)).setCell ⟨gb36,3,none⟩ (.int .i64 t58)).setCell ⟨gb36,4,none⟩ (.int .i64 t62)).setCell ⟨gb36,5,none⟩ (.slice Ao17 t47.length co17))=w20 at n0_ n1_ n2_ n3_ n4_ ⊢
         have HO_5:=n0_;have HO_16:=n1_;have HO79:=n2_;have BK36:=n3_;have HB:=n4_;clear n0_ n1_ n2_ n3_ n4_;have hcz21_0:w20.cell? ⟨gb36,0,none⟩=some (.int .i64 t41):=(blk_cell BK36.out 0).trans rfl;have hcz21_1:w20.cell? ⟨gb36,1,none⟩=some (.int .i64 t45):=(blk_cell BK36.out 1).trans rfl;have hcz21_2:w20.cell? ⟨gb36,2,none⟩=some (.int .i64 t57):=(blk_cell BK36.out 2).trans rfl;have hcz21_3:w20.cell? ⟨gb36,3,none⟩=some (.int .i64 t58):=(blk_cell BK36.out 3).trans rfl;have hcz21_4:w20.cell? ⟨gb36,4,none⟩=some (.int .i64 t62):=(blk_cell BK36.out 4).trans rfl;have hcz21_5:w20.cell? ⟨gb36,5,none⟩=some (.slice Ao17 t47.length co17):=(blk_cell BK36.out 5).trans rfl;have hfz21_0:=blk_frozen BK36.out 0;have hfz21_1:=blk_frozen BK36.out 1;have hfz21_2:=blk_frozen BK36.out 2;have hfz21_3:=blk_frozen BK36.out 3;have hfz21_4:=blk_frozen BK36.out 4;have hfz21_5:=blk_frozen BK36.out 5
         go_wp2_with (first|((with_reducible refine gate_builtin (b:=.append) (xs:=#[.tmp 31,.tmp 33]) rfl ?_);at_builtin;refine Kd.S_append k65 (w0:=w) w.heap.size rfl (.tmp 31) (.tmp 33) 54 65 (.agg #[(.int .i64 0),(.int .i64 0),(.int .i64 0),(.int .i64 0),(.int .i64 0),(.slice none 0 0)]) 64 rfl Try.underlying54 info65 rfl (by decide) (by omega) u5 x5_1 (⟨t41,t45,t57,t58,t62,(⟨t47⟩:S63)⟩:S65) [.int .i64 t41,.int .i64 t45,.int .i64 t57,.int .i64 t58,.int .i64 t62,.slice Ao17 t47.length co17] (fun k_=>k_≠gb36) (fun k_=>some k_=(.slice Ao17 t47.length co17:Value).ownBlock) rfl rfl ?aP (fun k_ hk_=>((Kd.R_mono (ok':=fun k_=>((fun k_=>k_≠gb36)) k_∧some k_≠(u5:Value).ownBlock) (Kd.R_types (Kd.R_apart' (HO79.out) (Kd.S_typed HO_5.out) (by decide)) BK36.out (by decide)) (fun k_ hk=>⟨hk.2,hk.1.2⟩))).1 k_ hk_.symm) ?aF ?aO ?aB ?aS ?aL ?_;(case aP=>exact k65_mkM _ _ _ (⟨t41,t45,t57,t58,t62,(⟨t47⟩:S63)⟩:S65) (Kd.R_mono (Kd.R_tight rfl (Kd.R_mono (ok':=fun k_=>((fun k_=>k_≠gb36)) k_∧some k_≠(u5:Value).ownBlock) (Kd.R_types (Kd.R_apart' (HO79.out) (Kd.S_typed HO_5.out) (by decide)) BK36.out (by decide)) (fun k_ hk=>⟨hk.2,hk.1.2⟩))) (fun _ h_=>h_)));(case aB=>exact zB);(case aF=>exact (fun k_ hk=>Kd.freshB (g:=gb36) (o:=.cells #[.int .i64 t41,.int .i64 t45,.int .i64 t57,.int .i64 t58,.int .i64 t62,.slice Ao17 t47.length co17] 65 (0,0)) (zk BK36) k_ hk));(case aO=>exact (by (with_reducible repeat (first|apply Kd.S_alloc|apply Kd.S_drewN|apply Kd.S_drew));exact Kd.S_mono HO_5.out (fun k_ hk=>⟨hk.2,fun e_=>hk.1 e_⟩)));(case aS=>exact (below_size zB));(case aL=>have:=LMc19.out;omega);intro v474 w22 ho hb hg hat;rw [← Ny77.out] at ho;have HO475:=zA (ho);replace HO_16:=zA (Kd.R_over' (zR HO_16) (Kd.S_typed (zS HO_5)) (by decide) hg);replace BK36:=zA (blk_grown (g:=gb36) (o:=.cells #[.int .i64 t41,.int .i64 t45,.int .i64 t57,.int .i64 t58,.int .i64 t62,.slice Ao17 t47.length co17] 65 (0,0)) (zk BK36) hg (Kd.S_away HO_5.out (fun _ hk=>hk.2)));replace HB:=zA (hb);clear HO_5 HO79;clear ho hb hg hat))
         go_roundg k1
         case measure=>have:=HK1.out;omega
         case rel=>exact ⟨(y77),(wrap64 (x18_1+1)),zT,H',⟨by have:=HK1.out;omega⟩,⟨by (with_reducible repeat (first|apply Kd.S_alloc|apply Kd.S_drewN|apply Kd.S_drew));exact Kd.S_mono HO475.out (fun _ hk=>trivial)⟩,⟨by refine zr ?_;exact HO_16.out⟩,⟨zv1 HB GE36⟩⟩
        ·rw [if_neg c19] at H;exact absurd H (by simp)
       ·rw [if_neg c18] at H;have c18b0:(t80 == 0)=false:=beq_eq_false_iff_ne.mpr c18;have c18b1:(t80 != 0)=true:=bne_iff_ne.mpr c18
        (first|rw [c18b0]|(simp only [i64_w,i32_w];rw [c18b0])|skip)
        (try rw [c18b1]);simp only [Option.some.injEq,Prod.mk.injEq] at H;obtain ⟨rfl,rfl⟩:=H
        go_wp2
        go_ret2
        exact ⟨_,ze,by first|exact Kd.S_nil _ _ _ _ _|exact Kd.N_nil _ _ _ _ _|exact Kd.V_nil _ _ _ _ _|exact Kd.Q_nil _ _ _ _ _|exact Kd.R_nil _ _ _ _ _,zv1 HB GE36⟩
      ·rw [if_neg c11] at H;exact absurd H (by simp)
     ·rw [if_neg c10] at H;exact absurd H (by simp)
    ·rw [if_neg c9] at H;have c9b0:decide (x18_1<(t42.length:Int))=false:=decide_eq_false c9;clear c9;simp only [Option.some.injEq,Prod.mk.injEq] at H;obtain ⟨rfl,rfl⟩:=H
     go_wp2
     go_ret2
     exact ⟨_,ze,by (with_reducible repeat (first|apply Kd.S_alloc|apply Kd.S_drewN|apply Kd.S_drew));exact HO_5.out,zv0 HB⟩
 ·rw [if_neg c5] at H;have c5b0:(t69 == 0)=false:=beq_eq_false_iff_ne.mpr c5;have c5b1:(t69 != 0)=true:=bne_iff_ne.mpr c5
  (first|rw [c5b0]|(simp only [i64_w,i32_w];rw [c5b0])|skip)
  (try rw [c5b1]);simp only [Option.some.injEq,Prod.mk.injEq] at H;obtain ⟨rfl,rfl⟩:=H
  go_wp2
  go_ret2
  exact ⟨_,ze,by first|exact Kd.S_nil _ _ _ _ _|exact Kd.N_nil _ _ _ _ _|exact Kd.V_nil _ _ _ _ _|exact Kd.Q_nil _ _ _ _ _|exact Kd.R_nil _ _ _ _ _,zv0 HB⟩
def slices_Equal_int_int.l0:Nat→List Int→List Int→Int→Int→Option (Bool)
 | 0,_,_,_,_=>none
 | k+1,x0,x1,x12,x13=>if x13<x12 then (if 0≤x13 then (if x13<(x0.length:Int) then (if x13<(x1.length:Int) then (if (rd x0 x13)=(rd x1 x13) then (slices_Equal_int_int.l0 k x0 x1 x12 (wrap64 (x13+1))) else (some false)) else (none)) else (none)) else (none)) else (some true)
def slices_Equal_int_int.f (k:Nat) (l0:List Int) (l1:List Int):Option (Bool):=if (l0.length:Int)=(l1.length:Int) then (slices_Equal_int_int.l0 k l0 l1 (l0.length:Int) 0) else (some false)
theorem slices_Equal_int_int.mono_l:∀ k,(∀ y0 y1 y2 y3,LeO (slices_Equal_int_int.l0 k y0 y1 y2 y3) (slices_Equal_int_int.l0 (k+1) y0 y1 y2 y3))
 | 0=>fun _ _ _ _ r h=>by simp [slices_Equal_int_int.l0] at h
 | k+1=>by
  have ih0:=slices_Equal_int_int.mono_l k
  ·intro y0 y1 y2 y3
   unfold slices_Equal_int_int.l0
   repeat' first
   | (with_reducible exact ih0 _ _ _ _)
   | (with_reducible exact LeO.refl _)
   | (with_reducible exact LeO.none _)
   | (with_reducible refine LeO.ite ?_ ?_)
   | (with_reducible refine LeO.bind ?_ (fun _=>?_))
   | exact LeO.none _
   | refine LeO.ite ?_ ?_
   | refine LeO.bind ?_ (fun _=>?_)
theorem slices_Equal_int_int.mono:∀ a0 a1 k,LeO (slices_Equal_int_int.f k a0 a1) (slices_Equal_int_int.f (k+1) a0 a1):=by
 intro a0 a1 k;have ih0:=slices_Equal_int_int.mono_l k
 unfold slices_Equal_int_int.f
 repeat' first
   | (with_reducible exact ih0 _ _ _ _)
   | (with_reducible exact LeO.refl _)
   | (with_reducible exact LeO.none _)
   | (with_reducible refine LeO.ite ?_ ?_)
   | (with_reducible refine LeO.bind ?_ (fun _=>?_))
   | exact LeO.none _
   | refine LeO.ite ?_ ?_
   | refine LeO.bind ?_ (fun _=>?_)
set_option maxHeartbeats 8000000 in
set_option maxRecDepth 100000 in
theorem slices_Equal_int_int.calls (k:Nat) (A0:Option Addr) (c0:Nat) (l0:List Int) (A1:Option Addr) (c1:Nat) (l1:List Int) (r:Bool) (w:World) (hr0:Kd.C (Kd.int .i64) w A0 l0.length l0) (hc0:l0.length≤c0) (hr1:Kd.C (Kd.int .i64) w A1 l1.length l1) (hc1:l1.length≤c1) (h:slices_Equal_int_int.f k l0 l1=some r) :
  Calls Try.prog 17 #[.slice A0 l0.length c0,.slice A1 l1.length c1] w fun e w'=>e=.returned (.bool r)∧Drawn0 w w':=by
 have hu3:=Try.underlying3;have HR0:=zA hr0;have HC0:=zA hc0;clear hr0 hc0;have HR1:=zA hr1;have HC1:=zA hc1;clear hr1 hc1;have H:(if (l0.length:Int)=(l1.length:Int) then (slices_Equal_int_int.l0 k l0 l1 (l0.length:Int) 0) else (some false))=some r:=h;clear h
 by_cases c3:(l0.length:Int)=(l1.length:Int)
 ·rw [if_pos c3] at H;have c3b0:((l0.length:Int) == (l1.length:Int))=true:=beq_iff_eq.mpr c3;have c3b1:((l0.length:Int) != (l1.length:Int))=false:=bne_eq_false_iff_eq.mpr c3
  have c3b2:(l0.length == l1.length)=true:=by first|simpa using c3|(simp at c3 ⊢;omega)
  clear c3;have H':=zA H;clear H
  go_enter Try.func17,Try.ntmps17
  go_wp2
  repeat (go_quiet (fail);try go_wp2)
  go_loopg [13] k (fun kq v13 w'=>∃ (x13_1:Int),v13=.int .i64 x13_1∧Aside0 (slices_Equal_int_int.l0 kq l0 l1 (l0.length:Int) x13_1=some r)∧Aside0 (kq≤k)∧Drawn0 w w')
  case atStart=>exact ⟨(0),zT,H',⟨Nat.le_refl _⟩,by repeat (first|exact Drawn0.refl _|apply Drawn0.step)⟩
  case round=>
   clear H'
   try clear c3
   try clear c3b0
   try clear c3b1
   try clear c3b2
   obtain ⟨x13_1,rfl,HA,HK1,⟨m1,rfl⟩⟩:=hrel
   cases gk with
   | zero=>exact absurd HA.out (by simp [slices_Equal_int_int.l0])
   | succ k1=>
    have H:=HA.out;clear HA;simp only [slices_Equal_int_int.l0] at H
    by_cases c4:x13_1<(l0.length:Int)
    ·rw [if_pos c4] at H;have c4b0:decide (x13_1<(l0.length:Int))=true:=decide_eq_true c4;clear c4
     by_cases c5:0≤x13_1
     ·rw [if_pos c5] at H;have c5b0:decide (0≤x13_1)=true:=decide_eq_true c5;clear c5
      by_cases c6:x13_1<(l0.length:Int)
      ·rw [if_pos c6] at H;have c6b0:decide (x13_1<(l0.length:Int))=true:=decide_eq_true c6;clear c6
       by_cases c7:x13_1<(l1.length:Int)
       ·rw [if_pos c7] at H;have c7b0:decide (x13_1<(l1.length:Int))=true:=decide_eq_true c7;clear c7
        by_cases c8:(rd l0 x13_1)=(rd l1 x13_1)
        ·rw [if_pos c8] at H;have c8b0:((rd l0 x13_1) == (rd l1 x13_1))=true:=beq_iff_eq.mpr c8;have c8b1:((rd l0 x13_1) != (rd l1 x13_1))=false:=bne_eq_false_iff_eq.mpr c8;clear c8;have H':=zA H;clear H;have p48:0≤(x13_1:Int):=of_decide_eq_true zh;have q48:x13_1<(l0.length:Int):=of_decide_eq_true zh;obtain ⟨ad48,e48,hx48_0⟩:=Kd.at_int HR0.out x13_1 p48 q48
         cases e48
         replace p48:=eq_true p48;replace q48:=eq_true q48;have p49:0≤(x13_1:Int):=of_decide_eq_true zh;have q49:x13_1<(l1.length:Int):=of_decide_eq_true zh;obtain ⟨ad49,e49,hx49_0⟩:=Kd.at_int HR1.out x13_1 p49 q49
         cases e49
         replace p49:=eq_true p49;replace q49:=eq_true q49
         go_wp2
         repeat (go_quiet (fail);try go_wp2)
         go_roundg k1
         case measure=>have:=HK1.out;omega
         case rel=>exact ⟨(wrap64 (x13_1+1)),zT,H',⟨by have:=HK1.out;omega⟩,by repeat (first|exact Drawn0.refl _|apply Drawn0.step)⟩
        ·rw [if_neg c8] at H;have c8b0:((rd l0 x13_1) == (rd l1 x13_1))=false:=beq_eq_false_iff_ne.mpr c8;have c8b1:((rd l0 x13_1) != (rd l1 x13_1))=true:=bne_iff_ne.mpr c8;obtain rfl:=Option.some.inj H;have p48:0≤(x13_1:Int):=of_decide_eq_true zh;have q48:x13_1<(l0.length:Int):=of_decide_eq_true zh;obtain ⟨ad48,e48,hx48_0⟩:=Kd.at_int HR0.out x13_1 p48 q48
         cases e48
         replace p48:=eq_true p48;replace q48:=eq_true q48;have p49:0≤(x13_1:Int):=of_decide_eq_true zh;have q49:x13_1<(l1.length:Int):=of_decide_eq_true zh;obtain ⟨ad49,e49,hx49_0⟩:=Kd.at_int HR1.out x13_1 p49 q49
         cases e49
         replace p49:=eq_true p49;replace q49:=eq_true q49
         go_wp2
         repeat (go_quiet (fail);try go_wp2)
         go_ret
         exact ⟨by first|rfl|(simp;done)|(simp [*];done),by repeat (first|exact Drawn0.refl _|apply Drawn0.step)⟩
       ·rw [if_neg c7] at H;exact absurd H (by simp)
      ·rw [if_neg c6] at H;exact absurd H (by simp)
     ·rw [if_neg c5] at H;exact absurd H (by simp)
    ·rw [if_neg c4] at H;have c4b0:decide (x13_1<(l0.length:Int))=false:=decide_eq_false c4;clear c4;obtain rfl:=Option.some.inj H
     go_wp2
     repeat (go_quiet (fail);try go_wp2)
     go_ret
     exact ⟨by first|rfl|(simp;done)|(simp [*];done),by repeat (first|exact Drawn0.refl _|apply Drawn0.step)⟩
 ·rw [if_neg c3] at H;have c3b0:((l0.length:Int) == (l1.length:Int))=false:=beq_eq_false_iff_ne.mpr c3;have c3b1:((l0.length:Int) != (l1.length:Int))=true:=bne_iff_ne.mpr c3
  have c3b2:(l0.length == l1.length)=false:=by first|simpa using c3|(simp at c3 ⊢;omega)
  obtain rfl:=Option.some.inj H
  go_enter Try.func17,Try.ntmps17
  go_wp2
  repeat (go_quiet (fail);try go_wp2)
  go_ret
  exact ⟨by first|rfl|(simp;done)|(simp [*];done),by repeat (first|exact Drawn0.refl _|apply Drawn0.step)⟩
def solve_Holds_1_v1.f (k:Nat) (l0_0:List Int) (l0_1:List Int) (a1_0:Int):Option (Bool):=(solve_row.f k l0_0 l0_1 a1_0).bind fun t81=>((slices_Contains_int_int.f k l0_1 t81).bind fun t82=>(some (!t82)))
theorem solve_Holds_1_v1.mono:∀ a0 a1 a2 k,LeO (solve_Holds_1_v1.f k a0 a1 a2) (solve_Holds_1_v1.f (k+1) a0 a1 a2):=by
 intro a0 a1 a2 k
 unfold solve_Holds_1_v1.f
 repeat' first
   | (with_reducible exact slices_Contains_int_int.mono _ _ _)
   | (with_reducible exact solve_row.mono _ _ _ _)
   | (with_reducible exact LeO.refl _)
   | (with_reducible exact LeO.none _)
   | (with_reducible refine LeO.ite ?_ ?_)
   | (with_reducible refine LeO.bind ?_ (fun _=>?_))
   | exact LeO.none _
   | refine LeO.ite ?_ ?_
   | refine LeO.bind ?_ (fun _=>?_)
def solve_Holds_1_v1.T1:Bool×List (List Nat×List Nat):=(true,[([],[]),([0],[0]),([],[]),([],[]),([2,3],[2,3]),([1,4,4],[1,4]),([5],[5]),([6,5,0,1,2,3,4,5,6],[6])])
def solve_Holds_1_v1.B1:List Nat:=[0,1,0,0,12,31,63,127]
theorem solve_Holds_1_v1.tab1:rtab .any (opsOf Try.f75 1)=solve_Holds_1_v1.T1:=by kernel_rfl
theorem solve_Holds_1_v1.bits1:waitsOk solve_Holds_1_v1.T1.2 solve_Holds_1_v1.B1=true:=by kernel_rfl
set_option maxHeartbeats 8000000 in
set_option maxRecDepth 100000 in
theorem solve_Holds_1_v1.calls (k:Nat) (A0_0:Option Addr) (c0_0:Nat) (l0_0:List Int) (A0_1:Option Addr) (c0_1:Nat) (l0_1:List Int) (gp1_0:Nat) (a1_0:Int) (r:Bool) (w:World) (hr0_0:Kd.C (Kd.int .i64) w A0_0 l0_0.length l0_0) (hc0_0:l0_0.length≤c0_0) (hr0_1:Kd.C (Kd.int .i64) w A0_1 l0_1.length l0_1) (hc0_1:l0_1.length≤c0_1) (hb_gp1_0:w.heap[gp1_0]?=some (.cells #[.int .i64 a1_0] 3 (0,0))) (h:solve_Holds_1_v1.f k l0_0 l0_1 a1_0=some r) :
  Calls Try.prog 75 #[.agg #[.slice A0_0 l0_0.length c0_0,.slice A0_1 l0_1.length c0_1],.pointer (some ⟨gp1_0,0,none⟩)] w fun e w'=>e=.returned (.bool r)∧Below w.heap.size w w':=by
 have hu34:=Try.underlying34;have hu29:=Try.underlying29;have hu3:=Try.underlying3;have HR0_0:=zA hr0_0;have HC0_0:=zA hc0_0;clear hr0_0 hc0_0;have HR0_1:=zA hr0_1;have HC0_1:=zA hc0_1;clear hr0_1 hc0_1;have BK68:=zA hb_gp1_0;clear hb_gp1_0;have HB:=zA (Below.refl w.heap.size w);have H:((solve_row.f k l0_0 l0_1 a1_0).bind fun t81=>((slices_Contains_int_int.f k l0_1 t81).bind fun t82=>(some (!t82))))=some r:=h;clear h;replace H:=Option.bind_eq_some_iff.mp H;obtain ⟨t81,A30,H⟩:=H;replace H:((slices_Contains_int_int.f k l0_1 t81).bind fun t82=>(some (!t82)))=some r:=H;have A3:=zA A30;clear A30;replace H:=Option.bind_eq_some_iff.mp H;obtain ⟨t82,A40,H⟩:=H;replace H:(some (!t82))=some r:=H;have A4:=zA A40;clear A40;obtain rfl:=Option.some.inj H
 go_enter Try.func75,Try.ntmps75
 try go_wp2_with (first|((with_reducible refine gate_dst (N:=2) rfl ?_);refine box_event ?hg (N:=2) ?hd (cs:=#[.slice A0_0 l0_0.length c0_0,.slice A0_1 l0_1.length c0_1]) (t:=34) ?hr ?_;(case hd=>rfl);(case hg=>rfl);(case hr=>first|(go_simp;done)|(go_simp;rfl));intro gb53 hg w5 hbox hb;have BK53:=zA (hbox);have GW53:=zA (zG hg (below_size zB):w.heap.size≤gb53);have GE53:=GW53;have NB68_53:=zA ((zl hg (zk BK68):gp1_0≠gb53));have NB53_68:=zA ((zg hg (zk BK68):gb53≠gp1_0));replace BK68:=zA (zb BK68 hb);replace HB:=zA (below_step zB hb);clear hb hbox hg))
 replace BK68:=zA (blk_drew BK68.out);replace BK53:=zA (blk_drew BK53.out);replace HB:=zA (below_drew1 HB.out);refine start_ (n:=8) (S:=fun w'=>w'.cell? ⟨gb53,0,none⟩=some (.slice A0_0 l0_0.length c0_0)∧w'.cell? ⟨gb53,1,none⟩=some (.slice A0_1 l0_1.length c0_1)∧w'.cell? ⟨gp1_0,0,none⟩=some (.int .i64 a1_0)) (ds:=[]) #[false,false,false,false,false,false,false,false] zK rfl rfl ⟨(blk_cell BK53.out 0).trans rfl,(blk_cell BK53.out 1).trans rfl,(blk_cell BK68.out 0).trans rfl⟩ (fun hHeld=>?_);refine with_tabW solve_Holds_1_v1.tab1 solve_Holds_1_v1.bits1 (fun HT_ HW_=>?_)
 generalize w5.drew=w6 at BK68 BK53 HB hHeld ⊢
 refine pure_ (i:=0) (N:=some 4) (v:=?_) (a':=?_) #[true,false,false,false,false,false,false,false] rfl rfl (any_of HT_.out zK) (fun _ _ _ h=>h) (Or.inl ⟨by rfl,?_⟩) ?_ ?_;rotate_left
 ·intro w'
  go_simp
  with_reducible rfl
 rotate_left
 ·simp only [Act.put,zi,zs,zt,i64_w,i32_w];rfl
 refine take_ (i:=1) (N:=some 5) (v:=?_) (a':=?_) #[true,true,false,false,false,false,false,false] rfl rfl (take_ofW HT_.out HW_.out zK) (fun _ _ _ h=>h) (Or.inl ⟨by rfl,?_⟩) hHeld ?_ ?_;rotate_left
 ·rintro w' ⟨s0,s1,s2⟩
  go_simp
  with_reducible rfl
 rotate_left
 ·simp only [Act.put,zi,zs,zt,i64_w,i32_w];rfl
 refine take_ (i:=2) (N:=some 6) (v:=?_) (a':=?_) #[true,true,true,false,false,false,false,false] rfl rfl (take_ofW HT_.out HW_.out zK) (fun _ _ _ h=>h) (Or.inl ⟨by rfl,?_⟩) hHeld ?_ ?_;rotate_left
 ·rintro w' ⟨s0,s1,s2⟩
  go_simp
  with_reducible rfl
 rotate_left
 ·simp only [Act.put,zi,zs,zt,i64_w,i32_w];rfl
 refine take_ (i:=3) (N:=some 7) (v:=?_) (a':=?_) #[true,true,true,true,false,false,false,false] rfl rfl (take_ofW HT_.out HW_.out zK) (fun _ _ _ h=>h) (Or.inl ⟨by rfl,?_⟩) hHeld ?_ ?_;rotate_left
 ·rintro w' ⟨s0,s1,s2⟩
  go_simp
  with_reducible rfl
 rotate_left
 ·simp only [Act.put,zi,zs,zt,i64_w,i32_w];rfl
 refine one_ (i:=4) (N:=some 8) #[true,true,true,true,true,false,false,false] rfl rfl (one_of HT_.out zK) (by decide) (fun K hK=>?_);refine goes_ Try.func76 zK rfl #[.agg #[.slice A0_0 l0_0.length c0_0,.slice A0_1 l0_1.length c0_1],.int .i64 a1_0] (by rfl) rfl rfl zM ?_
 with_reducible refine (solve_row.calls k _ _ l0_0 _ _ l0_1 a1_0 t81 _ ?side1 ?side2 ?side3 ?side4 A3.out).mono ?_
 (case side1=>exact zC (Kd.C_below HR0_0.out HB.out));(case side2=>exact HC0_0.out);(case side3=>exact zC (Kd.C_below HR0_1.out HB.out));(case side4=>exact HC0_1.out);rintro e w7 ⟨rfl,hb⟩;refine ⟨_,rfl,?_⟩;replace BK68:=zA (zb BK68 hb);replace BK53:=zA (zb BK53 hb);replace HB:=zA (below_step zB hb);(try clear hb);(try clear hb2);(try clear hk);(try clear hi);refine hK.out _ _ ⟨(blk_cell BK53.out 0).trans rfl,(blk_cell BK53.out 1).trans rfl,(blk_cell BK68.out 0).trans rfl⟩ (fun hHeld=>?_);clear hK K;refine norm_ (a':=?_) ?_ ?_;rotate_left
 ·show Act.put _ (some 8) _=_
  simp only [Act.put,zi,zs,zt,i64_w,i32_w];rfl
 refine one_ (i:=5) (N:=some 9) #[true,true,true,true,true,true,false,false] rfl rfl (one_of HT_.out zK) (by decide) (fun K hK=>?_);refine goes_ Try.func15 zK rfl #[.slice A0_1 l0_1.length c0_1,.int .i64 t81] (by rfl) rfl rfl zM ?_
 with_reducible refine (slices_Contains_int_int.calls k _ _ l0_1 t81 t82 _ ?side1 ?side2 A4.out).mono ?_
 (case side1=>exact zC (Kd.C_below HR0_1.out HB.out));(case side2=>exact HC0_1.out);rintro e w' ⟨rfl,⟨nd,rfl⟩⟩;refine ⟨_,rfl,?_⟩;refine hK.out _ _ ⟨(blk_cell BK53.out 0).trans rfl,(blk_cell BK53.out 1).trans rfl,(blk_cell BK68.out 0).trans rfl⟩ (fun hHeld=>?_);clear hK K;refine norm_ (a':=?_) ?_ ?_;rotate_left
 ·show Act.put _ (some 9) _=_
  simp only [Act.put,zi,zs,zt,i64_w,i32_w];rfl
 refine pure_ (i:=6) (N:=some 10) (v:=?_) (a':=?_) #[true,true,true,true,true,true,true,false] rfl rfl (any_of HT_.out zK) (fun _ _ _ h=>h) (Or.inl ⟨by rfl,?_⟩) ?_ ?_;rotate_left
 ·intro w'
  go_simp
  with_reducible rfl
 rotate_left
 ·simp only [Act.put,zi,zs,zt,i64_w,i32_w];rfl
 refine pure_ (i:=7) (N:=some 3) (v:=?_) (a':=?_) #[true,true,true,true,true,true,true,true] rfl rfl (any_of HT_.out zK) (fun _ _ _ h=>h) (Or.inl ⟨by rfl,?_⟩) ?_ ?_;rotate_left
 ·intro w'
  go_simp
  with_reducible rfl
 rotate_left
 ·simp only [Act.put,zi,zs,zt,i64_w,i32_w];rfl
 refine done_ (done_of HT_.out zK) ?_
 try go_wp2
 go_ret
 exact ⟨ze,zv1 HB GE53⟩
def api_Table_solve_Holds_1_v2.l0:Nat→List (S34)→Int→Int→Int→Option (Int)
 | 0,_,_,_,_=>none
 | k+1,x0,x7,x8,x89=>if x8<x7 then (if 0≤x8 then (if x8<(x0.length:Int) then ((solve_Holds_1_v1.f k ((rd_T34 x0 x8).f0) ((rd_T34 x0 x8).f1) x89).bind fun t90=>(if t90=true then (some x8) else (api_Table_solve_Holds_1_v2.l0 k x0 x7 (wrap64 (x8+1)) x89))) else (none)) else (none)) else (some (-1))
def api_Table_solve_Holds_1_v2.f (k:Nat) (l0:List (S34)) (a1_0:Int):Option (Int):=api_Table_solve_Holds_1_v2.l0 k l0 (l0.length:Int) 0 a1_0
theorem api_Table_solve_Holds_1_v2.mono_l:∀ k,(∀ y0 y1 y2 y3,LeO (api_Table_solve_Holds_1_v2.l0 k y0 y1 y2 y3) (api_Table_solve_Holds_1_v2.l0 (k+1) y0 y1 y2 y3))
 | 0=>fun _ _ _ _ r h=>by simp [api_Table_solve_Holds_1_v2.l0] at h
 | k+1=>by
  have ih0:=api_Table_solve_Holds_1_v2.mono_l k
  ·intro y0 y1 y2 y3
   unfold api_Table_solve_Holds_1_v2.l0
   repeat' first
   | (with_reducible exact ih0 _ _ _ _)
   | (with_reducible exact solve_Holds_1_v1.mono _ _ _ _)
   | (with_reducible exact LeO.refl _)
   | (with_reducible exact LeO.none _)
   | (with_reducible refine LeO.ite ?_ ?_)
   | (with_reducible refine LeO.bind ?_ (fun _=>?_))
   | exact LeO.none _
   | refine LeO.ite ?_ ?_
   | refine LeO.bind ?_ (fun _=>?_)
theorem api_Table_solve_Holds_1_v2.mono:∀ a0 a1 k,LeO (api_Table_solve_Holds_1_v2.f k a0 a1) (api_Table_solve_Holds_1_v2.f (k+1) a0 a1):=by
 intro a0 a1 k;have ih0:=api_Table_solve_Holds_1_v2.mono_l k
 unfold api_Table_solve_Holds_1_v2.f
 repeat' first
   | (with_reducible exact ih0 _ _ _ _)
   | (with_reducible exact solve_Holds_1_v1.mono _ _ _ _)
   | (with_reducible exact LeO.refl _)
   | (with_reducible exact LeO.none _)
   | (with_reducible refine LeO.ite ?_ ?_)
   | (with_reducible refine LeO.bind ?_ (fun _=>?_))
   | exact LeO.none _
   | refine LeO.ite ?_ ?_
   | refine LeO.bind ?_ (fun _=>?_)
set_option maxHeartbeats 8000000 in
set_option maxRecDepth 100000 in
theorem api_Table_solve_Holds_1_v2.calls (k:Nat) (A0:Option Addr) (c0:Nat) (l0:List (S34)) (gp1_0:Nat) (a1_0:Int) (r:Int) (w:World) (hr0:Kd.C k34 w A0 l0.length l0) (hc0:l0.length≤c0) (hb_gp1_0:w.heap[gp1_0]?=some (.cells #[.int .i64 a1_0] 3 (0,0))) (h:api_Table_solve_Holds_1_v2.f k l0 a1_0=some r) :
  Calls Try.prog 83 #[.slice A0 l0.length c0,.func (.func 75) #[] #[.pointer (some ⟨gp1_0,0,none⟩)]] w fun e w'=>e=.returned (.int .i64 r)∧Below w.heap.size w w':=by
 have hu34:=Try.underlying34;have HR0:=zA hr0;have HC0:=zA hc0;clear hr0 hc0;have BK78:=zA hb_gp1_0;clear hb_gp1_0;have HB:=zA (Below.refl w.heap.size w);have H:(api_Table_solve_Holds_1_v2.l0 k l0 (l0.length:Int) 0 a1_0)=some r:=h;clear h;have H':=zA H;clear H
 go_enter Try.func83,Try.ntmps83
 go_wp2
 go_loopg [8] k (fun kq v8 w'=>∃ (x8_1:Int),v8=.int .i64 x8_1∧Aside0 (api_Table_solve_Holds_1_v2.l0 kq l0 (l0.length:Int) x8_1 a1_0=some r)∧Aside0 (kq≤k)∧Aside0 (w'.heap[gp1_0]?=some (.cells #[.int .i64 a1_0] 3 (0,0)))∧Aside0 (Below w.heap.size w w'))
 case atStart=>exact ⟨(0),zT,H',⟨Nat.le_refl _⟩,⟨by refine zj ?_;exact BK78.out⟩,⟨zv0 HB⟩⟩
 case round=>
  clear H';obtain ⟨x8_1,rfl,HA,HK1,BK78,HB⟩:=hrel
  cases gk with
  | zero=>exact absurd HA.out (by simp [api_Table_solve_Holds_1_v2.l0])
  | succ k1=>
   have H:=HA.out;clear HA;simp only [api_Table_solve_Holds_1_v2.l0] at H
   by_cases c3:x8_1<(l0.length:Int)
   ·rw [if_pos c3] at H;have c3b0:decide (x8_1<(l0.length:Int))=true:=decide_eq_true c3;clear c3
    by_cases c4:0≤x8_1
    ·rw [if_pos c4] at H;have c4b0:decide (0≤x8_1)=true:=decide_eq_true c4;clear c4
     by_cases c5:x8_1<(l0.length:Int)
     ·rw [if_pos c5] at H;have c5b0:decide (x8_1<(l0.length:Int))=true:=decide_eq_true c5;clear c5;replace H:=Option.bind_eq_some_iff.mp H;obtain ⟨t90,A60,H⟩:=H;replace H:(if t90=true then (some x8_1) else (api_Table_solve_Holds_1_v2.l0 k1 l0 (l0.length:Int) (wrap64 (x8_1+1)) a1_0))=some r:=H;have A6:=zA A60;clear A60;have HC7:=zA H;clear H;have p38:0≤(x8_1:Int):=of_decide_eq_true zh;have q38:x8_1<(l0.length:Int):=of_decide_eq_true zh;obtain ⟨ad38,A38_0,c38_0,A38_1,c38_1,e38,hx38_0,hx38_1,hl38_0,hi38_0,hl38_1,hi38_1⟩:=at_T34 HR0.out x8_1 p38 q38
      cases e38
      replace hx38_0:=(HB.out.cell (World.block_lt_of_cell? w _ hx38_0)).trans hx38_0;replace hx38_1:=(HB.out.cell (World.block_lt_of_cell? w _ hx38_1)).trans hx38_1;have HR38_0:=zA hi38_0;have HC38_0:=zA hl38_0;clear hi38_0 hl38_0;have HR38_1:=zA hi38_1;have HC38_1:=zA hl38_1;clear hi38_1 hl38_1;replace p38:=eq_true p38;replace q38:=eq_true q38
      go_upto_if 16 with (first|(go_at_call 75;(with_reducible refine (solve_Holds_1_v1.calls k1 _ _ ((rd_T34 l0 x8_1).f0) _ _ ((rd_T34 l0 x8_1).f1) gp1_0 a1_0 t90 _ ?side1 ?side2 ?side3 ?side4 ?side5 A6.out).mono ?_);(case side1=>exact zC (Kd.C_below HR38_0.out HB.out));(case side2=>exact HC38_0.out);(case side3=>exact zC (Kd.C_below HR38_1.out HB.out));(case side4=>exact HC38_1.out);(case side5=>refine zj ?_;exact BK78.out);rintro e w8 ⟨rfl,hb⟩;replace BK78:=zA (zb BK78 hb);replace HB:=zA (below_step zB hb);(try clear hb);(try clear hb2);(try clear hk);(try clear hi)))
      (try simp only [Act.put,zi,zs,zt]);have H:=HC7.out;clear HC7
      by_cases c9:t90=true
      ·subst c9
       have H1:(some x8_1)=some r:=by rw [if_pos rfl] at H;exact H
       clear H;have H:=H1;clear H1;obtain rfl:=Option.some.inj H
       go_wp2
       go_ret
       exact ⟨ze,zv0 HB⟩
      ·replace c9:=Bool.eq_false_iff.mpr c9;subst c9
       have H1:(api_Table_solve_Holds_1_v2.l0 k1 l0 (l0.length:Int) (wrap64 (x8_1+1)) a1_0)=some r:=by rw [if_neg (show ¬ (false=true) by decide)] at H;exact H
       clear H;have H:=H1;clear H1;have H':=zA H;clear H
       go_wp2
       go_roundg k1
       case measure=>have:=HK1.out;omega
       case rel=>exact ⟨(wrap64 (x8_1+1)),zT,H',⟨by have:=HK1.out;omega⟩,⟨by refine zj ?_;exact BK78.out⟩,⟨zv0 HB⟩⟩
     ·rw [if_neg c5] at H;exact absurd H (by simp)
    ·rw [if_neg c4] at H;exact absurd H (by simp)
   ·rw [if_neg c3] at H;have c3b0:decide (x8_1<(l0.length:Int))=false:=decide_eq_false c3;clear c3;obtain rfl:=Option.some.inj H
    go_wp2
    go_ret
    exact ⟨ze,zv0 HB⟩
def api_Table_solve_Holds_1.f (k:Nat) (l0:List (S34)) (a1_0:Int):Option (Bool):=(api_Table_solve_Holds_1_v2.f k l0 a1_0).bind fun t87=>(some (decide (t87≥0)))
theorem api_Table_solve_Holds_1.mono:∀ a0 a1 k,LeO (api_Table_solve_Holds_1.f k a0 a1) (api_Table_solve_Holds_1.f (k+1) a0 a1):=by
 intro a0 a1 k
 unfold api_Table_solve_Holds_1.f
 repeat' first
   | (with_reducible exact api_Table_solve_Holds_1_v2.mono _ _ _)
   | (with_reducible exact LeO.refl _)
   | (with_reducible exact LeO.none _)
   | (with_reducible refine LeO.ite ?_ ?_)
   | (with_reducible refine LeO.bind ?_ (fun _=>?_))
   | exact LeO.none _
   | refine LeO.ite ?_ ?_
   | refine LeO.bind ?_ (fun _=>?_)
set_option maxHeartbeats 8000000 in
set_option maxRecDepth 100000 in
theorem api_Table_solve_Holds_1.calls (k:Nat) (A0:Option Addr) (c0:Nat) (l0:List (S34)) (gp1_0:Nat) (a1_0:Int) (r:Bool) (w:World) (hr0:Kd.C k34 w A0 l0.length l0) (hc0:l0.length≤c0) (hb_gp1_0:w.heap[gp1_0]?=some (.cells #[.int .i64 a1_0] 3 (0,0))) (h:api_Table_solve_Holds_1.f k l0 a1_0=some r) :
  Calls Try.prog 74 #[.slice A0 l0.length c0,.func (.func 75) #[] #[.pointer (some ⟨gp1_0,0,none⟩)]] w fun e w'=>e=.returned (.bool r)∧Below w.heap.size w w':=by
 have HR0:=zA hr0;have HC0:=zA hc0;clear hr0 hc0;have BK93:=zA hb_gp1_0;clear hb_gp1_0;have HB:=zA (Below.refl w.heap.size w);have H:((api_Table_solve_Holds_1_v2.f k l0 a1_0).bind fun t87=>(some (decide (t87≥0))))=some r:=h;clear h;replace H:=Option.bind_eq_some_iff.mp H;obtain ⟨t87,A30,H⟩:=H;replace H:(some (decide (t87≥0)))=some r:=H;have A3:=zA A30;clear A30;obtain rfl:=Option.some.inj H
 go_enter Try.func74,Try.ntmps74
 go_wp2_with (first|((with_reducible refine gate_callee (f:=83) rfl ?_);refine goesL_ (some 7) rfl rfl Try.func83 zK rfl #[.slice A0 l0.length c0,.func (.func 75) #[] #[.pointer (some ⟨gp1_0,0,none⟩)]] rfl zM ?_;(with_reducible refine (api_Table_solve_Holds_1_v2.calls k _ _ l0 gp1_0 a1_0 t87 _ ?side1 ?side2 ?side3 A3.out).mono ?_);(case side1=>repeat (first|exact HR0.out|(with_reducible refine Kd.C_alloc ?_ _)|(with_reducible refine Kd.C_drewN ?_ _)|(with_reducible refine Kd.C_drew ?_)));(case side2=>exact HC0.out);(case side3=>refine zj ?_;exact BK93.out);rintro e w4 ⟨rfl,hb⟩;refine ⟨_,rfl,?_⟩;replace BK93:=zA (zb BK93 hb);replace HB:=zA (below_step zB hb);(try clear hb);(try clear hb2);(try clear hk);(try clear hi)))
 go_ret
 exact ⟨ze,zv0 HB⟩
def solve_Holds.l0:Nat→List (S34)→Int→List Int→Int→Int→Int→Option (Bool)
 | 0,_,_,_,_,_,_=>none
 | k+1,x0,x5,x20,x21,x22,x86=>if x22<x21 then (if 0≤x22 then (if x22<(x20.length:Int) then (if 0≤(rd x20 x22) then (solve_Holds.l0 k x0 (Go.bits .or .i64 x5 (shl .i64 1 (rd x20 x22))) x20 x21 (wrap64 (x22+1)) x86) else (none)) else (none)) else (none)) else (if (Go.bits .andNot .i64 x86 x5)=0 then ((api_Table_solve_Holds_1.f k x0 x86).bind fun t94=>(some (!t94))) else (some false))
def solve_Holds.f (k:Nat) (l0:List (S34)) (a1:Int):Option (Bool):=(solve_valid.f k l0).bind fun t70=>(if t70=0 then (if a1<0 then (some false) else (if a1≥16777216 then (some false) else ((solve_occurring.f k l0).bind fun t39=>(solve_Holds.l0 k l0 0 t39 (t39.length:Int) 0 a1)))) else (some false))
theorem solve_Holds.mono_l:∀ k,(∀ y0 y1 y2 y3 y4 y5,LeO (solve_Holds.l0 k y0 y1 y2 y3 y4 y5) (solve_Holds.l0 (k+1) y0 y1 y2 y3 y4 y5))
 | 0=>fun _ _ _ _ _ _ r h=>by simp [solve_Holds.l0] at h
 | k+1=>by
  have ih0:=solve_Holds.mono_l k
  ·intro y0 y1 y2 y3 y4 y5
   unfold solve_Holds.l0
   repeat' first
   | (with_reducible exact ih0 _ _ _ _ _ _)
   | (with_reducible exact api_Table_solve_Holds_1.mono _ _ _)
   | (with_reducible exact solve_occurring.mono _ _)
   | (with_reducible exact solve_valid.mono _ _)
   | (with_reducible exact LeO.refl _)
   | (with_reducible exact LeO.none _)
   | (with_reducible refine LeO.ite ?_ ?_)
   | (with_reducible refine LeO.bind ?_ (fun _=>?_))
   | exact LeO.none _
   | refine LeO.ite ?_ ?_
   | refine LeO.bind ?_ (fun _=>?_)
theorem solve_Holds.mono:∀ a0 a1 k,LeO (solve_Holds.f k a0 a1) (solve_Holds.f (k+1) a0 a1):=by
 intro a0 a1 k;have ih0:=solve_Holds.mono_l k
 unfold solve_Holds.f
 repeat' first
   | (with_reducible exact ih0 _ _ _ _ _ _)
   | (with_reducible exact api_Table_solve_Holds_1.mono _ _ _)
   | (with_reducible exact solve_occurring.mono _ _)
   | (with_reducible exact solve_valid.mono _ _)
   | (with_reducible exact LeO.refl _)
   | (with_reducible exact LeO.none _)
   | (with_reducible refine LeO.ite ?_ ?_)
   | (with_reducible refine LeO.bind ?_ (fun _=>?_))
   | exact LeO.none _
   | refine LeO.ite ?_ ?_
   | refine LeO.bind ?_ (fun _=>?_)
set_option maxHeartbeats 8000000 in
set_option maxRecDepth 100000 in
theorem solve_Holds.calls (k:Nat) (A0:Option Addr) (c0:Nat) (l0:List (S34)) (a1:Int) (r:Bool) (w:World) (hr0:Kd.C k34 w A0 l0.length l0) (hc0:l0.length≤c0) (h:solve_Holds.f k l0 a1=some r) :
  Calls Try.prog 64 #[.slice A0 l0.length c0,.int .i64 a1] w fun e w'=>e=.returned (.bool r)∧Below w.heap.size w w':=by
 have hu3:=Try.underlying3;have HR0:=zA hr0;have HC0:=zA hc0;clear hr0 hc0;have HB:=zA (Below.refl w.heap.size w);have H:((solve_valid.f k l0).bind fun t70=>(if t70=0 then (if a1<0 then (some false) else (if a1≥16777216 then (some false) else ((solve_occurring.f k l0).bind fun t39=>(solve_Holds.l0 k l0 0 t39 (t39.length:Int) 0 a1)))) else (some false)))=some r:=h;clear h;have HC3:=zA H;clear H
 go_enter Try.func64,Try.ntmps64
 go_upto_region 1 with (first|((with_reducible refine gate_dst (N:=3) rfl ?_);refine box_event ?hg (N:=3) ?hd (cs:=#[.int .i64 a1]) (t:=3) ?hr ?_;(case hd=>rfl);(case hg=>rfl);(case hr=>first|(go_simp;done)|(go_simp;rfl));intro gb37 hg w4 hbox hb;have BK37:=zA (hbox);have GW37:=zA (zG hg (below_size zB):w.heap.size≤gb37);have GE37:=GW37;replace HB:=zA (below_step zB hb);clear hb hbox hg))
 (try simp only [Act.put,zi,zs,zt]);have H:=HC3.out;clear HC3;replace H:=Option.bind_eq_some_iff.mp H;obtain ⟨t70,A50,H⟩:=H;replace H:(if t70=0 then (if a1<0 then (some false) else (if a1≥16777216 then (some false) else ((solve_occurring.f k l0).bind fun t39=>(solve_Holds.l0 k l0 0 t39 (t39.length:Int) 0 a1)))) else (some false))=some r:=H;have A5:=zA A50;clear A50
 by_cases c6:t70=0
 ·rw [if_pos c6] at H;have c6b0:(t70 == 0)=true:=beq_iff_eq.mpr c6;have c6b1:(t70 != 0)=false:=bne_eq_false_iff_eq.mpr c6;clear c6
  (first|rw [c6b0]|(simp only [i64_w,i32_w];rw [c6b0])|skip)
  (try rw [c6b1])
  by_cases c7:a1<0
  ·rw [if_pos c7] at H;have c7b0:decide (a1<0)=true:=decide_eq_true c7;clear c7;obtain rfl:=Option.some.inj H
   go_wp2_with (first|((with_reducible refine gate_callee (f:=50) rfl ?_);refine goesL_ (some 9) rfl rfl Try.func50 zK rfl #[.slice A0 l0.length c0] rfl zM ?_;(with_reducible refine (solve_valid.calls k _ _ l0 t70 _ ?side1 ?side2 A5.out).mono ?_);(case side1=>exact zC (Kd.C_below HR0.out HB.out));(case side2=>exact HC0.out);rintro e w8 ⟨rfl,hb⟩;refine ⟨_,rfl,?_⟩;replace BK37:=zA (zb BK37 hb);replace HB:=zA (below_step zB hb);(try clear hb);(try clear hb2);(try clear hk);(try clear hi);have hcz9_0:w8.cell? ⟨gb37,0,none⟩=some (.int .i64 a1):=(blk_cell BK37.out 0).trans rfl;have hfz9_0:=blk_frozen BK37.out 0))
   go_ret
   exact ⟨ze,zv1 HB GE37⟩
  ·rw [if_neg c7] at H;have c7b0:decide (a1<0)=false:=decide_eq_false c7;clear c7;have HC10:=zA H;clear H
   go_upto_if 18 with (first|((with_reducible refine gate_callee (f:=50) rfl ?_);refine goesL_ (some 9) rfl rfl Try.func50 zK rfl #[.slice A0 l0.length c0] rfl zM ?_;(with_reducible refine (solve_valid.calls k _ _ l0 t70 _ ?side1 ?side2 A5.out).mono ?_);(case side1=>exact zC (Kd.C_below HR0.out HB.out));(case side2=>exact HC0.out);rintro e w11 ⟨rfl,hb⟩;refine ⟨_,rfl,?_⟩;replace BK37:=zA (zb BK37 hb);replace HB:=zA (below_step zB hb);(try clear hb);(try clear hb2);(try clear hk);(try clear hi);have hcz12_0:w11.cell? ⟨gb37,0,none⟩=some (.int .i64 a1):=(blk_cell BK37.out 0).trans rfl;have hfz12_0:=blk_frozen BK37.out 0))
   (try simp only [Act.put,zi,zs,zt]);have H:=HC10.out;clear HC10
   by_cases c13:a1≥16777216
   ·rw [if_pos c13] at H;have c13b0:decide (16777216≤a1)=true:=decide_eq_true c13;clear c13
    (first|rw [c13b0]|(simp only [i64_w,i32_w];rw [c13b0])|skip)
    obtain rfl:=Option.some.inj H
    go_wp2
    go_ret
    exact ⟨ze,zv1 HB GE37⟩
   ·rw [if_neg c13] at H;have c13b0:decide (16777216≤a1)=false:=decide_eq_false c13;clear c13
    (first|rw [c13b0]|(simp only [i64_w,i32_w];rw [c13b0])|skip)
    replace H:=Option.bind_eq_some_iff.mp H;obtain ⟨t39,A140,H⟩:=H;replace H:(solve_Holds.l0 k l0 0 t39 (t39.length:Int) 0 a1)=some r:=H;have A14:=zA A140;clear A140;have H':=zA H;clear H
    go_wp2_with (first|((with_reducible refine gate_callee (f:=51) rfl ?_);refine goesL_ (some 20) rfl rfl Try.func51 zK rfl #[.slice A0 l0.length c0] rfl zM ?_;(with_reducible refine (solve_occurring.calls k _ _ l0 t39 _ ?side1 ?side2 A14.out).mono ?_);(case side1=>exact zC (Kd.C_below HR0.out HB.out));(case side2=>exact HC0.out);rintro e w15 ⟨v490,rfl,ho0,hb⟩;refine ⟨_,rfl,?_⟩;have HO491:=zA (Kd.R_lower (Kd.R_newB ho0 (g:=gb37) (o:=.cells #[.int .i64 a1] 3 (0,0)) (zk BK37)) (below_size zB));replace BK37:=zA (zb BK37 hb);replace HB:=zA (below_step zB hb);(try clear hb);(try clear hb2);(try clear hk);(try clear hi);(try clear ho0);obtain ⟨Ao16,co16,eo16⟩:=Kd.R_slice HO491.out;subst eo16))
    go_loopg [5,22] k (fun kq v5 v22 w'=>∃ (x5_1:Int) (x22_1:Int),v5=.int .i64 x5_1∧v22=.int .i64 x22_1∧Aside0 (solve_Holds.l0 kq l0 x5_1 t39 (t39.length:Int) x22_1 a1=some r)∧Aside0 (kq≤k)∧Aside0 (Kd.R (Kd.int .i64) 3 w' w.heap.size (fun k_=>k_≠gb37) (.slice Ao16 t39.length co16) t39)∧Aside0 (w'.heap[gb37]?=some (.cells #[.int .i64 a1] 3 (0,0)))∧Aside0 (Below w.heap.size w w'))
    case atStart=>exact ⟨(0),(0),zT,zT,H',⟨Nat.le_refl _⟩,⟨by refine zr ?_;exact Kd.R_mono HO491.out (fun _ hk=>hk.2)⟩,⟨by refine zj ?_;exact BK37.out⟩,⟨zv1 HB GE37⟩⟩
    case round=>
     clear H'
     try clear c6
     try clear c6b0
     try clear c6b1
     try clear c7
     try clear c7b0
     try clear c13
     try clear c13b0
     try clear hcz12_0
     try clear hfz12_0
     obtain ⟨x5_1,x22_1,rfl,rfl,HA,HK1,HO_20,BK37,HB⟩:=hrel
     cases gk with
     | zero=>exact absurd HA.out (by simp [solve_Holds.l0])
     | succ k1=>
      have H:=HA.out;clear HA;simp only [solve_Holds.l0] at H
      by_cases c17:x22_1<(t39.length:Int)
      ·rw [if_pos c17] at H;have c17b0:decide (x22_1<(t39.length:Int))=true:=decide_eq_true c17;clear c17
       by_cases c18:0≤x22_1
       ·rw [if_pos c18] at H;have c18b0:decide (0≤x22_1)=true:=decide_eq_true c18;clear c18
        by_cases c19:x22_1<(t39.length:Int)
        ·rw [if_pos c19] at H;have c19b0:decide (x22_1<(t39.length:Int))=true:=decide_eq_true c19;clear c19
         by_cases c20:0≤(rd t39 x22_1)
         ·rw [if_pos c20] at H;have c20b0:=eq_true c20;have c20b1:decide (0≤(rd t39 x22_1))=true:=decide_eq_true c20;clear c20
          obtain ⟨ji21,hji21⟩:∃ j_:Int,(shl .i64 1 (rd t39 x22_1))=j_:=⟨_,rfl⟩
          replace H:(solve_Holds.l0 k1 l0 (Go.bits .or .i64 x5_1 (ji21)) t39 (t39.length:Int) (wrap64 (x22_1+1)) a1)=some r:=by first|(rw [hji21] at H;exact H)|(simp only [hji21] at H ⊢;exact H)
          have hji21_:(IntKind.i64.wrap (1 * 2 ^ min (rd t39 x22_1).toNat 64))=ji21:=hji21;have hji21z:(rd t39 x22_1)≤64→(IntKind.i64.wrap (1 * 2 ^ (rd t39 x22_1).toNat))=ji21:=shl_small hji21
          have hji21u:(IntKind.i64.wrap (2 ^ min (rd t39 x22_1).toNat 64))=ji21:=by have h_:=hji21_;rw [Int.one_mul] at h_;exact h_
          have hji21v:(rd t39 x22_1)≤64→(IntKind.i64.wrap (2 ^ (rd t39 x22_1).toNat))=ji21:=fun hle_=>by have h_:=hji21z hle_;rw [Int.one_mul] at h_;exact h_
          have hji21y:(wrap64 (1 * 2 ^ min (rd t39 x22_1).toNat 64))=ji21:=(i64_w _).symm.trans hji21_
          have hji21x:(rd t39 x22_1)≤64→(wrap64 (1 * 2 ^ (rd t39 x22_1).toNat))=ji21:=fun h_=>(i64_w _).symm.trans (hji21z h_)
          have H':=zA H;clear H;have p72:0≤(x22_1:Int):=of_decide_eq_true zh;have q72:x22_1<(t39.length:Int):=of_decide_eq_true zh;obtain ⟨ad72,e72,hx72_0⟩:=Kd.at_int (Kd.R_reads' HO_20.out).2.2 x22_1 p72 q72
          cases e72
          replace p72:=eq_true p72;replace q72:=eq_true q72
          go_wp2
          go_roundg k1
          case measure=>have:=HK1.out;omega
          case rel=>exact ⟨(Go.bits .or .i64 x5_1 (ji21)),(wrap64 (x22_1+1)),(by first|rfl|(simp;done)|(simp only [← hji21] <;> (first|rfl|simp))|(simp [*];done)),zT,H',⟨by have:=HK1.out;omega⟩,⟨by refine zr ?_;exact HO_20.out⟩,⟨by refine zj ?_;exact BK37.out⟩,⟨zv1 HB GE37⟩⟩
         ·rw [if_neg c20] at H;exact absurd H (by simp)
        ·rw [if_neg c19] at H;exact absurd H (by simp)
       ·rw [if_neg c18] at H;exact absurd H (by simp)
      ·rw [if_neg c17] at H;have c17b0:decide (x22_1<(t39.length:Int))=false:=decide_eq_false c17;clear c17
       by_cases c22:(Go.bits .andNot .i64 a1 x5_1)=0
       ·rw [if_pos c22] at H;have c22b0:((Go.bits .andNot .i64 a1 x5_1) == 0)=true:=beq_iff_eq.mpr c22;have c22b1:((Go.bits .andNot .i64 a1 x5_1) != 0)=false:=bne_eq_false_iff_eq.mpr c22;clear c22;replace H:=Option.bind_eq_some_iff.mp H;obtain ⟨t94,A230,H⟩:=H;replace H:(some (!t94))=some r:=H;have A23:=zA A230;clear A230;obtain rfl:=Option.some.inj H;have hcz24_0:wr.cell? ⟨gb37,0,none⟩=some (.int .i64 a1):=(blk_cell BK37.out 0).trans rfl;have hfz24_0:=blk_frozen BK37.out 0
        go_wp2_with (first|(go_at_call 74;(with_reducible refine (api_Table_solve_Holds_1.calls k1 _ _ l0 gb37 a1 t94 _ ?side1 ?side2 ?side3 A23.out).mono ?_);(case side1=>exact zC (Kd.C_below HR0.out HB.out));(case side2=>exact HC0.out);(case side3=>refine zj ?_;exact BK37.out);rintro e w25 ⟨rfl,hb⟩;replace HO_20:=zA (Kd.R_below (zR HO_20) hb);replace BK37:=zA (zb BK37 hb);replace HB:=zA (below_step zB hb);(try clear hb);(try clear hb2);(try clear hk);(try clear hi)))
        go_ret
        exact ⟨ze,zv1 HB GE37⟩
       ·rw [if_neg c22] at H;have c22b0:((Go.bits .andNot .i64 a1 x5_1) == 0)=false:=beq_eq_false_iff_ne.mpr c22;have c22b1:((Go.bits .andNot .i64 a1 x5_1) != 0)=true:=bne_iff_ne.mpr c22;obtain rfl:=Option.some.inj H;have hcz26_0:wr.cell? ⟨gb37,0,none⟩=some (.int .i64 a1):=(blk_cell BK37.out 0).trans rfl;have hfz26_0:=blk_frozen BK37.out 0
        go_wp2
        go_ret
        exact ⟨ze,zv1 HB GE37⟩
 ·rw [if_neg c6] at H;have c6b0:(t70 == 0)=false:=beq_eq_false_iff_ne.mpr c6;have c6b1:(t70 != 0)=true:=bne_iff_ne.mpr c6
  (first|rw [c6b0]|(simp only [i64_w,i32_w];rw [c6b0])|skip)
  (try rw [c6b1]);obtain rfl:=Option.some.inj H
  go_wp2_with (first|((with_reducible refine gate_callee (f:=50) rfl ?_);refine goesL_ (some 9) rfl rfl Try.func50 zK rfl #[.slice A0 l0.length c0] rfl zM ?_;(with_reducible refine (solve_valid.calls k _ _ l0 t70 _ ?side1 ?side2 A5.out).mono ?_);(case side1=>exact zC (Kd.C_below HR0.out HB.out));(case side2=>exact HC0.out);rintro e w27 ⟨rfl,hb⟩;refine ⟨_,rfl,?_⟩;replace BK37:=zA (zb BK37 hb);replace HB:=zA (below_step zB hb);(try clear hb);(try clear hb2);(try clear hk);(try clear hi)))
  go_ret
  exact ⟨ze,zv1 HB GE37⟩
def slices_Index_bool_bool.l0:Nat→List Bool→Bool→Int→Int→Option (Int)
 | 0,_,_,_,_=>none
 | k+1,x0,x1,x7,x8=>if x8<x7 then (if 0≤x8 then (if x8<(x0.length:Int) then (if (x1 == (rdOf false x0 x8))=true then (some x8) else (slices_Index_bool_bool.l0 k x0 x1 x7 (wrap64 (x8+1)))) else (none)) else (none)) else (some (-1))
def slices_Index_bool_bool.f (k:Nat) (l0:List Bool) (a1:Bool):Option (Int):=slices_Index_bool_bool.l0 k l0 a1 (l0.length:Int) 0
theorem slices_Index_bool_bool.mono_l:∀ k,(∀ y0 y1 y2 y3,LeO (slices_Index_bool_bool.l0 k y0 y1 y2 y3) (slices_Index_bool_bool.l0 (k+1) y0 y1 y2 y3))
 | 0=>fun _ _ _ _ r h=>by simp [slices_Index_bool_bool.l0] at h
 | k+1=>by
  have ih0:=slices_Index_bool_bool.mono_l k
  ·intro y0 y1 y2 y3
   unfold slices_Index_bool_bool.l0
   repeat' first
   | (with_reducible exact ih0 _ _ _ _)
   | (with_reducible exact LeO.refl _)
   | (with_reducible exact LeO.none _)
   | (with_reducible refine LeO.ite ?_ ?_)
   | (with_reducible refine LeO.bind ?_ (fun _=>?_))
   | exact LeO.none _
   | refine LeO.ite ?_ ?_
   | refine LeO.bind ?_ (fun _=>?_)
theorem slices_Index_bool_bool.mono:∀ a0 a1 k,LeO (slices_Index_bool_bool.f k a0 a1) (slices_Index_bool_bool.f (k+1) a0 a1):=by
 intro a0 a1 k;have ih0:=slices_Index_bool_bool.mono_l k
 unfold slices_Index_bool_bool.f
 repeat' first
   | (with_reducible exact ih0 _ _ _ _)
   | (with_reducible exact LeO.refl _)
   | (with_reducible exact LeO.none _)
   | (with_reducible refine LeO.ite ?_ ?_)
   | (with_reducible refine LeO.bind ?_ (fun _=>?_))
   | exact LeO.none _
   | refine LeO.ite ?_ ?_
   | refine LeO.bind ?_ (fun _=>?_)
set_option maxHeartbeats 8000000 in
set_option maxRecDepth 100000 in
theorem slices_Index_bool_bool.calls (k:Nat) (A0:Option Addr) (c0:Nat) (l0:List Bool) (a1:Bool) (r:Int) (w:World) (hr0:Kd.C Kd.bool w A0 l0.length l0) (hc0:l0.length≤c0) (h:slices_Index_bool_bool.f k l0 a1=some r) :
  Calls Try.prog 97 #[.slice A0 l0.length c0,.bool a1] w fun e w'=>e=.returned (.int .i64 r)∧Drawn0 w w':=by
 have hu4:=Try.underlying4;have HR0:=zA hr0;have HC0:=zA hc0;clear hr0 hc0;have H:(slices_Index_bool_bool.l0 k l0 a1 (l0.length:Int) 0)=some r:=h;clear h;have H':=zA H;clear H
 go_enter Try.func97,Try.ntmps97
 go_wp2
 go_loopg [8] k (fun kq v8 w'=>∃ (x8_1:Int),v8=.int .i64 x8_1∧Aside0 (slices_Index_bool_bool.l0 kq l0 a1 (l0.length:Int) x8_1=some r)∧Aside0 (kq≤k)∧Drawn0 w w')
 case atStart=>exact ⟨(0),zT,H',⟨Nat.le_refl _⟩,by repeat (first|exact Drawn0.refl _|apply Drawn0.step)⟩
 case round=>
  clear H';obtain ⟨x8_1,rfl,HA,HK1,⟨m1,rfl⟩⟩:=hrel
  cases gk with
  | zero=>exact absurd HA.out (by simp [slices_Index_bool_bool.l0])
  | succ k1=>
   have H:=HA.out;clear HA;simp only [slices_Index_bool_bool.l0] at H
   by_cases c3:x8_1<(l0.length:Int)
   ·rw [if_pos c3] at H;have c3b0:decide (x8_1<(l0.length:Int))=true:=decide_eq_true c3;clear c3
    by_cases c4:0≤x8_1
    ·rw [if_pos c4] at H;have c4b0:decide (0≤x8_1)=true:=decide_eq_true c4;clear c4
     by_cases c5:x8_1<(l0.length:Int)
     ·rw [if_pos c5] at H;have c5b0:decide (x8_1<(l0.length:Int))=true:=decide_eq_true c5;clear c5
      by_cases c6:(a1 == (rdOf false l0 x8_1))=true
      ·rw [if_pos c6] at H;have c6b0:(a1 == (rdOf false l0 x8_1))=true:=c6;(try (have c6b1:decide (a1=(rdOf false l0 x8_1))=true:=by simpa using c6));(try (have c6b2:(a1 == (rdOf false l0 x8_1))=true:=by simpa using c6));clear c6;obtain rfl:=Option.some.inj H;have p55:0≤(x8_1:Int):=of_decide_eq_true zh;have q55:x8_1<(l0.length:Int):=of_decide_eq_true zh;obtain ⟨ad55,e55,hx55_0⟩:=Kd.at_bool HR0.out x8_1 p55 q55
       cases e55
       replace p55:=eq_true p55;replace q55:=eq_true q55
       go_wp2
       go_ret
       exact ⟨by first|rfl|(simp;done)|(simp [*];done),by repeat (first|exact Drawn0.refl _|apply Drawn0.step)⟩
      ·rw [if_neg c6] at H
       have c6b0:(a1 == (rdOf false l0 x8_1))=false:=by simpa using c6
       (try (have c6b1:decide (a1=(rdOf false l0 x8_1))=false:=by simpa using c6));(try (have c6b2:(a1 == (rdOf false l0 x8_1))=false:=by simpa using c6));(try (have c6b3:¬ (a1=(rdOf false l0 x8_1)):=by simpa using c6));clear c6;have H':=zA H;clear H;have p55:0≤(x8_1:Int):=of_decide_eq_true zh;have q55:x8_1<(l0.length:Int):=of_decide_eq_true zh;obtain ⟨ad55,e55,hx55_0⟩:=Kd.at_bool HR0.out x8_1 p55 q55
       cases e55
       replace p55:=eq_true p55;replace q55:=eq_true q55
       go_wp2
       go_roundg k1
       case measure=>have:=HK1.out;omega
       case rel=>exact ⟨(wrap64 (x8_1+1)),zT,H',⟨by have:=HK1.out;omega⟩,by repeat (first|exact Drawn0.refl _|apply Drawn0.step)⟩
     ·rw [if_neg c5] at H;exact absurd H (by simp)
    ·rw [if_neg c4] at H;exact absurd H (by simp)
   ·rw [if_neg c3] at H;have c3b0:decide (x8_1<(l0.length:Int))=false:=decide_eq_false c3;clear c3;obtain rfl:=Option.some.inj H
    go_wp2
    go_ret
    exact ⟨by first|rfl|(simp;done)|(simp [*];done),by repeat (first|exact Drawn0.refl _|apply Drawn0.step)⟩
def slices_Contains_bool_bool.f (k:Nat) (l0:List Bool) (a1:Bool):Option (Bool):=(slices_Index_bool_bool.f k l0 a1).bind fun t88=>(some (decide (t88≥0)))
theorem slices_Contains_bool_bool.mono:∀ a0 a1 k,LeO (slices_Contains_bool_bool.f k a0 a1) (slices_Contains_bool_bool.f (k+1) a0 a1):=by
 intro a0 a1 k
 unfold slices_Contains_bool_bool.f
 repeat' first
   | (with_reducible exact slices_Index_bool_bool.mono _ _ _)
   | (with_reducible exact LeO.refl _)
   | (with_reducible exact LeO.none _)
   | (with_reducible refine LeO.ite ?_ ?_)
   | (with_reducible refine LeO.bind ?_ (fun _=>?_))
   | exact LeO.none _
   | refine LeO.ite ?_ ?_
   | refine LeO.bind ?_ (fun _=>?_)
set_option maxHeartbeats 8000000 in
set_option maxRecDepth 100000 in
theorem slices_Contains_bool_bool.calls (k:Nat) (A0:Option Addr) (c0:Nat) (l0:List Bool) (a1:Bool) (r:Bool) (w:World) (hr0:Kd.C Kd.bool w A0 l0.length l0) (hc0:l0.length≤c0) (h:slices_Contains_bool_bool.f k l0 a1=some r) :
  Calls Try.prog 84 #[.slice A0 l0.length c0,.bool a1] w fun e w'=>e=.returned (.bool r)∧Drawn0 w w':=by
 have HR0:=zA hr0;have HC0:=zA hc0;clear hr0 hc0;have H:((slices_Index_bool_bool.f k l0 a1).bind fun t88=>(some (decide (t88≥0))))=some r:=h;clear h;replace H:=Option.bind_eq_some_iff.mp H;obtain ⟨t88,A30,H⟩:=H;replace H:(some (decide (t88≥0)))=some r:=H;have A3:=zA A30;clear A30;obtain rfl:=Option.some.inj H
 go_enter Try.func84,Try.ntmps84
 go_wp2_with (first|((with_reducible refine gate_callee (f:=97) rfl ?_);refine goesL_ (some 7) rfl rfl Try.func97 zK rfl #[.slice A0 l0.length c0,.bool a1] rfl zM ?_;(with_reducible refine (slices_Index_bool_bool.calls k _ _ l0 a1 t88 _ ?side1 ?side2 A3.out).mono ?_);(case side1=>repeat (first|exact HR0.out|(with_reducible refine Kd.C_alloc ?_ _)|(with_reducible refine Kd.C_drewN ?_ _)|(with_reducible refine Kd.C_drew ?_)));(case side2=>exact HC0.out);rintro e w' ⟨rfl,⟨nd,rfl⟩⟩;refine ⟨_,rfl,?_⟩))
 go_ret
 exact ⟨by first|rfl|(simp;done)|(simp [*];done),by repeat (first|exact Drawn0.refl _|apply Drawn0.step)⟩
end Go.Proofs.Ytngpkbbljnbojaa.I
