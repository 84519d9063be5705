import Derived.Test.YtngpkbbljnbojaaS0
import Derived.Test.YtngpkbbljnbojaaS2
import Derived.Test.YtngpkbbljnbojaaS4
import Derived.Test.YtngpkbbljnbojaaS6
namespace Go.Proofs.Ytngpkbbljnbojaa.S
open Go.RowKit Go.Proofs.YtngpkbbljnbojaaW.PrintWords Go.Proofs.YtngpkbbljnbojaaW.PrintLast Go.Proofs.YtngpkbbljnbojaaW.PrintMore
attribute [local go_sem] max2_int min2_int max_two min_two max_three min_three max_four min_four
set_option linter.unusedVariables false
set_option linter.unusedSimpArgs false
def shared_evidence.f (k:Nat) (l0:List (S34)) (a1:Int):Option (Int×Int×Int×Int×Int×(List (S116))×Int):=(shared_with.f k l0 a1 0).bind fun bt440=>((shared_with.f k l0 a1 1).bind fun bt445=>(if bt440.2.2=true then (if bt445.2.2=true then (some (a1,3,0,bt440.2.1,bt445.2.1,([]:List (S116)),0)) else ((solve_Refute.f k bt445.1).bind fun bt450=>(some (a1,1,bt440.2.1,0,0,bt450.1,bt450.2)))) else ((solve_Refute.f k bt440.1).bind fun bt454=>(some (a1,2,bt445.2.1,0,0,bt454.1,bt454.2)))))
theorem shared_evidence.mono:∀ a0 a1 k,LeO (shared_evidence.f k a0 a1) (shared_evidence.f (k+1) a0 a1):=by
 intro a0 a1 k
 unfold shared_evidence.f
 repeat' first
   | (with_reducible exact shared_with.mono _ _ _ _)
   | (with_reducible exact solve_Refute.mono _ _)
   | (with_reducible exact LeO.refl _)
   | (with_reducible exact LeO.none _)
   | (with_reducible refine LeO.ite ?_ ?_)
   | (with_reducible refine LeO.bind ?_ (fun _=>?_))
   | exact LeO.none _
   | refine LeO.ite ?_ ?_
   | refine LeO.bind ?_ (fun _=>?_)
set_option maxHeartbeats 8000000 in
set_option maxRecDepth 100000 in
theorem shared_evidence.calls (k:Nat) (A0:Option Addr) (c0:Nat) (l0:List (S34)) (a1:Int) (r1:Int) (r2:Int) (r3:Int) (r4:Int) (r5:Int) (r6:List (S116)) (r7:Int) (w:World) (hr0:Kd.C k34 w A0 l0.length l0) (hc0:l0.length≤c0) (h:shared_evidence.f k l0 a1=some (r1,r2,r3,r4,r5,r6,r7)) :
  Calls Try.prog 46 #[.slice A0 l0.length c0,.int .i64 a1] w fun e w'=>∃ v5_:Value,e=.returned (.tuple #[.agg #[.int .i64 r1,.int .i64 r2,.int .i64 r3,.int .i64 r4,.int .i64 r5,v5_],.int .i64 r7])∧Kd.R k116 116 w' w.heap.size (fun _=>True) v5_ r6∧Below w.heap.size w w':=by
 have hu65:=Try.underlying65
 have hu3:=Try.underlying3
 have hu63:=Try.underlying63
 have HR0:=zA hr0
 have HC0:=zA hc0
 clear hr0 hc0
 have HB:=zA (Below.refl w.heap.size w)
 have H:((shared_with.f k l0 a1 0).bind fun bt440=>((shared_with.f k l0 a1 1).bind fun bt445=>(if bt440.2.2=true then (if bt445.2.2=true then (some (a1,3,0,bt440.2.1,bt445.2.1,([]:List (S116)),0)) else ((solve_Refute.f k bt445.1).bind fun bt450=>(some (a1,1,bt440.2.1,0,0,bt450.1,bt450.2)))) else ((solve_Refute.f k bt440.1).bind fun bt454=>(some (a1,2,bt445.2.1,0,0,bt454.1,bt454.2))))))=some (r1,r2,r3,r4,r5,r6,r7):=h
 clear h
 replace H:=Option.bind_eq_some_iff.mp H
 obtain ⟨⟨t440,t441,t442⟩,A30,H⟩:=H
 replace H:((shared_with.f k l0 a1 1).bind fun bt445=>(if t442=true then (if bt445.2.2=true then (some (a1,3,0,t441,bt445.2.1,([]:List (S116)),0)) else ((solve_Refute.f k bt445.1).bind fun bt450=>(some (a1,1,t441,0,0,bt450.1,bt450.2)))) else ((solve_Refute.f k t440).bind fun bt454=>(some (a1,2,bt445.2.1,0,0,bt454.1,bt454.2)))))=some (r1,r2,r3,r4,r5,r6,r7):=H
 have A3:=zA A30
 clear A30
 replace H:=Option.bind_eq_some_iff.mp H
 obtain ⟨⟨t445,t446,t447⟩,A40,H⟩:=H
 replace H:(if t442=true then (if t447=true then (some (a1,3,0,t441,t446,([]:List (S116)),0)) else ((solve_Refute.f k t445).bind fun bt450=>(some (a1,1,t441,0,0,bt450.1,bt450.2)))) else ((solve_Refute.f k t440).bind fun bt454=>(some (a1,2,t446,0,0,bt454.1,bt454.2))))=some (r1,r2,r3,r4,r5,r6,r7):=H
 have A4:=zA A40
 clear A40
 have HC5:=zA H
 clear H
 go_enter Try.func46,Try.ntmps46
 go_upto_region 7 with (first|((with_reducible refine gate_dst (N:=4) rfl ?_);refine box_event ?hg (N:=4) ?hd (cs:=#[.int .i64 0,.int .i64 0,.int .i64 0,.int .i64 0,.int .i64 0,.slice none 0 0]) (t:=65) ?hr ?_;(case hd=>rfl);(case hg=>rfl);(case hr=>first|(go_simp;done)|(go_simp;rfl));intro gb438 hg w6 hbox hb;have BK438:=zA (hbox);have GW438:=zA (zG hg (below_size zB):w.heap.size≤gb438);have GE438:=GW438;replace HB:=zA (below_step zB hb);clear hb hbox hg)|((with_reducible refine gate_dst (N:=6) rfl ?_);refine box_event ?hg (N:=6) ?hd (cs:=#[.int .i64 0,.int .i64 0,.int .i64 0,.int .i64 0,.int .i64 0,.slice none 0 0]) (t:=65) ?hr ?_;(case hd=>rfl);(case hg=>rfl);(case hr=>first|(go_simp;done)|(go_simp;rfl));intro gb439 hg w7 hbox hb;have BK439:=zA (hbox);have GW439:=zA (zG hg (below_size zB):w.heap.size≤gb439);have GE439:=GW439;have NB438_439:=zA ((zl hg (zk BK438):gb438≠gb439));have NB439_438:=zA ((zg hg (zk BK438):gb439≠gb438));replace BK438:=zA (zb BK438 hb);replace HB:=zA (below_step zB hb);clear hb hbox hg;have hnb8:=NB439_438.out;have hnc8:=NB438_439.out;have hcz9_0:w7.cell? ⟨gb439,0,none⟩=some (.int .i64 0):=(blk_cell BK439.out 0).trans rfl;have hcz9_1:w7.cell? ⟨gb439,1,none⟩=some (.int .i64 0):=(blk_cell BK439.out 1).trans rfl;have hcz9_2:w7.cell? ⟨gb439,2,none⟩=some (.int .i64 0):=(blk_cell BK439.out 2).trans rfl;have hcz9_3:w7.cell? ⟨gb439,3,none⟩=some (.int .i64 0):=(blk_cell BK439.out 3).trans rfl;have hcz9_4:w7.cell? ⟨gb439,4,none⟩=some (.int .i64 0):=(blk_cell BK439.out 4).trans rfl;have hcz9_5:w7.cell? ⟨gb439,5,none⟩=some (.slice none 0 0):=(blk_cell BK439.out 5).trans rfl;have hfz9_0:=blk_frozen BK439.out 0;have hfz9_1:=blk_frozen BK439.out 1;have hfz9_2:=blk_frozen BK439.out 2;have hfz9_3:=blk_frozen BK439.out 3;have hfz9_4:=blk_frozen BK439.out 4;have hfz9_5:=blk_frozen BK439.out 5)|((with_reducible refine gate_callee (f:=52) rfl ?_);refine goesL_ (some 19) rfl rfl Try.func52 zK rfl #[.slice A0 l0.length c0,.int .i64 a1,.int .i64 0] rfl zM ?_;(with_reducible refine (shared_with.calls k _ _ l0 a1 0 t440 t441 t442 _ ?side1 ?side2 A3.out).mono ?_);(case side1=>exact Kd.C_below HR0.out zB);(case side2=>exact HC0.out);rintro e w10 ⟨v443,rfl,ho0,hb⟩;refine ⟨_,rfl,?_⟩;have HO444:=zA (Kd.S_lower ho0 (below_size zB));replace BK438:=zA (blk_below (g:=gb438) (o:=.cells #[.int .i64 0,.int .i64 0,.int .i64 0,.int .i64 0,.int .i64 0,.slice none 0 0] 65 (0,0)) (by refine zj ?_;refine blk_far ?_ NB438_439.out _;refine zj ?_;refine blk_far ?_ NB438_439.out _;refine zj ?_;refine blk_far ?_ NB438_439.out _;refine zj ?_;refine blk_far ?_ NB438_439.out _;refine zj ?_;refine blk_far ?_ NB438_439.out _;refine zj ?_;refine blk_far ?_ NB438_439.out _;refine zj ?_;exact BK438.out) hb);replace BK439:=zA (blk_below (g:=gb439) (o:=.cells #[.int .i64 a1,.int .i64 0,.int .i64 0,.int .i64 0,.int .i64 0,.slice none 0 0] 65 (0,0)) (by refine zj ?_;refine blk_put (cs:=#[.int .i64 a1,.int .i64 0,.int .i64 0,.int .i64 0,.int .i64 0,.slice none 0 0]) ?_ 5 _ rfl;refine zj ?_;refine blk_put (cs:=#[.int .i64 a1,.int .i64 0,.int .i64 0,.int .i64 0,.int .i64 0,.slice none 0 0]) ?_ 4 _ rfl;refine zj ?_;refine blk_put (cs:=#[.int .i64 a1,.int .i64 0,.int .i64 0,.int .i64 0,.int .i64 0,.slice none 0 0]) ?_ 3 _ rfl;refine zj ?_;refine blk_put (cs:=#[.int .i64 a1,.int .i64 0,.int .i64 0,.int .i64 0,.int .i64 0,.slice none 0 0]) ?_ 2 _ rfl;refine zj ?_;refine blk_put (cs:=#[.int .i64 a1,.int .i64 0,.int .i64 0,.int .i64 0,.int .i64 0,.slice none 0 0]) ?_ 1 _ rfl;refine zj ?_;refine blk_put (cs:=#[.int .i64 0,.int .i64 0,.int .i64 0,.int .i64 0,.int .i64 0,.slice none 0 0]) ?_ 0 _ rfl;refine zj ?_;exact BK439.out) hb);replace HB:=zA (below_step zB hb);(try clear hb);(try clear hb2);(try clear hk);(try clear hi);(try clear ho0))|((with_reducible refine gate_callee (f:=52) rfl ?_);refine goesL_ (some 26) rfl rfl Try.func52 zK rfl #[.slice A0 l0.length c0,.int .i64 a1,.int .i64 1] rfl zM ?_;(with_reducible refine (shared_with.calls k _ _ l0 a1 1 t445 t446 t447 _ ?side1 ?side2 A4.out).mono ?_);(case side1=>exact zC (Kd.C_below HR0.out HB.out));(case side2=>exact HC0.out);rintro e w11 ⟨v448,rfl,ho0,hb⟩;refine ⟨_,rfl,?_⟩;have HO449:=zA (Kd.S_lower (Kd.S_new' ho0 (Kd.S_lt (zS HO444))) (below_size zB));replace HO444:=zA (Kd.S_elder' (zS HO444) (Kd.S_base ho0) hb);replace BK438:=zA (zb BK438 hb);replace BK439:=zA (zb BK439 hb);replace HB:=zA (below_step zB hb);(try clear hb);(try clear hb2);(try clear hk);(try clear hi);(try clear ho0)))
 (try simp only [Act.put,zi,zs,zt])
 have H:=HC5.out
 clear HC5
 by_cases c12:t442=true
 ·subst c12
  have H1:(if t447=true then (some (a1,3,0,t441,t446,([]:List (S116)),0)) else ((solve_Refute.f k t445).bind fun bt450=>(some (a1,1,t441,0,0,bt450.1,bt450.2))))=some (r1,r2,r3,r4,r5,r6,r7):=by rw [if_pos rfl] at H;exact H
  clear H
  have H:=H1
  clear H1
  by_cases c13:t447=true
  ·subst c13
   have H1:(some (a1,3,0,t441,t446,([]:List (S116)),0))=some (r1,r2,r3,r4,r5,r6,r7):=by rw [if_pos rfl] at H;exact H
   clear H
   have H:=H1
   clear H1
   simp only [Option.some.injEq,Prod.mk.injEq] at H
   obtain ⟨rfl,rfl,rfl,rfl,rfl,rfl,rfl⟩:=H
   have hnb14:=NB439_438.out
   have hnc14:=NB438_439.out
   have hcz15_0:w11.cell? ⟨gb439,0,none⟩=some (.int .i64 a1):=(blk_cell BK439.out 0).trans rfl
   have hcz15_1:w11.cell? ⟨gb439,1,none⟩=some (.int .i64 0):=(blk_cell BK439.out 1).trans rfl
   have hcz15_2:w11.cell? ⟨gb439,2,none⟩=some (.int .i64 0):=(blk_cell BK439.out 2).trans rfl
   have hcz15_3:w11.cell? ⟨gb439,3,none⟩=some (.int .i64 0):=(blk_cell BK439.out 3).trans rfl
   have hcz15_4:w11.cell? ⟨gb439,4,none⟩=some (.int .i64 0):=(blk_cell BK439.out 4).trans rfl
   have hcz15_5:w11.cell? ⟨gb439,5,none⟩=some (.slice none 0 0):=(blk_cell BK439.out 5).trans rfl
   have hfz15_0:=blk_frozen BK439.out 0
   have hfz15_1:=blk_frozen BK439.out 1
   have hfz15_2:=blk_frozen BK439.out 2
   have hfz15_3:=blk_frozen BK439.out 3
   have hfz15_4:=blk_frozen BK439.out 4
   have hfz15_5:=blk_frozen BK439.out 5
   have hcz16_0:w11.cell? ⟨gb438,0,none⟩=some (.int .i64 0):=(blk_cell BK438.out 0).trans rfl
   have hcz16_1:w11.cell? ⟨gb438,1,none⟩=some (.int .i64 0):=(blk_cell BK438.out 1).trans rfl
   have hcz16_2:w11.cell? ⟨gb438,2,none⟩=some (.int .i64 0):=(blk_cell BK438.out 2).trans rfl
   have hcz16_3:w11.cell? ⟨gb438,3,none⟩=some (.int .i64 0):=(blk_cell BK438.out 3).trans rfl
   have hcz16_4:w11.cell? ⟨gb438,4,none⟩=some (.int .i64 0):=(blk_cell BK438.out 4).trans rfl
   have hcz16_5:w11.cell? ⟨gb438,5,none⟩=some (.slice none 0 0):=(blk_cell BK438.out 5).trans rfl
   have hfz16_0:=blk_frozen BK438.out 0
   have hfz16_1:=blk_frozen BK438.out 1
   have hfz16_2:=blk_frozen BK438.out 2
   have hfz16_3:=blk_frozen BK438.out 3
   have hfz16_4:=blk_frozen BK438.out 4
   have hfz16_5:=blk_frozen BK438.out 5
   go_wp2
   refine bodyPost_ret (results_ct rfl _ _ gb438 65 #[.int .i64 a1,.int .i64 3,.int .i64 0,.int .i64 t441,.int .i64 t446,.slice none 0 0] (0,0) _ rfl (by refine zj ?_;refine blk_put (cs:=#[.int .i64 a1,.int .i64 3,.int .i64 0,.int .i64 t441,.int .i64 t446,.slice none 0 0]) ?_ 5 _ rfl;refine zj ?_;refine blk_put (cs:=#[.int .i64 a1,.int .i64 3,.int .i64 0,.int .i64 t441,.int .i64 0,.slice none 0 0]) ?_ 4 _ rfl;refine zj ?_;refine blk_put (cs:=#[.int .i64 a1,.int .i64 3,.int .i64 0,.int .i64 0,.int .i64 0,.slice none 0 0]) ?_ 3 _ rfl;refine zj ?_;refine blk_put (cs:=#[.int .i64 a1,.int .i64 3,.int .i64 0,.int .i64 0,.int .i64 0,.slice none 0 0]) ?_ 2 _ rfl;refine zj ?_;refine blk_put (cs:=#[.int .i64 a1,.int .i64 0,.int .i64 0,.int .i64 0,.int .i64 0,.slice none 0 0]) ?_ 1 _ rfl;refine zj ?_;refine blk_put (cs:=#[.int .i64 0,.int .i64 0,.int .i64 0,.int .i64 0,.int .i64 0,.slice none 0 0]) ?_ 0 _ rfl;refine zj ?_;refine blk_far ?_ NB438_439.out _;refine zj ?_;refine blk_far ?_ NB438_439.out _;refine zj ?_;refine blk_far ?_ NB438_439.out _;refine zj ?_;exact BK438.out) Try.underlying65 rfl zK) rfl ?_
   exact ⟨_,ze,by first|exact Kd.R_nil _ _ _ _ _|exact Kd.N_nil _ _ _ _ _|exact Kd.V_nil _ _ _ _ _|exact Kd.Q_nil _ _ _ _ _|exact Kd.S_nil _ _ _ _ _,by repeat (first|(with_reducible first|exact HB.out|apply below_alloc|apply pw_below_drewN|apply below_drew1|refine below_set ?_ GE438.out|refine below_set ?_ GE439.out)|exact HB.out)⟩
  ·replace c13:=Bool.eq_false_iff.mpr c13
   subst c13
   have H1:((solve_Refute.f k t445).bind fun bt450=>(some (a1,1,t441,0,0,bt450.1,bt450.2)))=some (r1,r2,r3,r4,r5,r6,r7):=by rw [if_neg (show ¬ (false=true) by decide)] at H;exact H
   clear H
   have H:=H1
   clear H1
   replace H:=Option.bind_eq_some_iff.mp H
   obtain ⟨⟨t450,t453⟩,A170,H⟩:=H
   replace H:(some (a1,1,t441,0,0,t450,t453))=some (r1,r2,r3,r4,r5,r6,r7):=H
   have A17:=zA A170
   clear A170
   simp only [Option.some.injEq,Prod.mk.injEq] at H
   obtain ⟨rfl,rfl,rfl,rfl,rfl,rfl,rfl⟩:=H
   have hnb18:=NB439_438.out
   have hnc18:=NB438_439.out
   have hcz19_0:w11.cell? ⟨gb439,0,none⟩=some (.int .i64 a1):=(blk_cell BK439.out 0).trans rfl
   have hcz19_1:w11.cell? ⟨gb439,1,none⟩=some (.int .i64 0):=(blk_cell BK439.out 1).trans rfl
   have hcz19_2:w11.cell? ⟨gb439,2,none⟩=some (.int .i64 0):=(blk_cell BK439.out 2).trans rfl
   have hcz19_3:w11.cell? ⟨gb439,3,none⟩=some (.int .i64 0):=(blk_cell BK439.out 3).trans rfl
   have hcz19_4:w11.cell? ⟨gb439,4,none⟩=some (.int .i64 0):=(blk_cell BK439.out 4).trans rfl
   have hcz19_5:w11.cell? ⟨gb439,5,none⟩=some (.slice none 0 0):=(blk_cell BK439.out 5).trans rfl
   have hfz19_0:=blk_frozen BK439.out 0
   have hfz19_1:=blk_frozen BK439.out 1
   have hfz19_2:=blk_frozen BK439.out 2
   have hfz19_3:=blk_frozen BK439.out 3
   have hfz19_4:=blk_frozen BK439.out 4
   have hfz19_5:=blk_frozen BK439.out 5
   obtain ⟨Ao20,co20,eo20⟩:=Kd.S_slice HO449.out
   subst eo20
   go_wp2_with (first|((with_reducible refine gate_callee (f:=61) rfl ?_);refine goesL_ (some 56) rfl rfl Try.func61 zK rfl #[.slice Ao20 t445.length co20] rfl zM ?_;(with_reducible refine (solve_Refute.calls k _ _ t445 t450 t453 _ ?side1 ?side2 A17.out).mono ?_);(case side1=>refine (Kd.S_reads' (e:=34) (base:=w.heap.size) (ok:=fun k_=>(True∧some k_≠(v443:Value).ownBlock)) (n:=t445.length) (c:=co20) ?_).2.2;exact (by (with_reducible repeat (first|apply Kd.S_alloc|apply Kd.S_drewN|apply Kd.S_drew));exact (Kd.S_mono (Kd.S_far (p:=⟨gb439,2,none⟩) (Kd.S_far (p:=⟨gb439,1,none⟩) (Kd.S_types HO449.out BK439.out (by decide)) (fun _ hk=>hk.2) (.int .i64 1)) (fun _ hk=>hk.2) (.int .i64 t441)) (fun _ h_=>h_.1))));(case side2=>exact (Kd.S_reads' HO449.out).2.1);rintro e w21 ⟨v451,rfl,ho0,hb⟩;refine ⟨_,rfl,?_⟩;have HO452:=zA (Kd.R_lower ho0 (below_size zB));replace HO444:=zA (Kd.S_below (by (with_reducible repeat (first|apply Kd.S_alloc|apply Kd.S_drewN|apply Kd.S_drew));exact (Kd.S_mono (Kd.S_far (p:=⟨gb439,2,none⟩) (Kd.S_far (p:=⟨gb439,1,none⟩) (Kd.S_types HO444.out BK439.out (by decide)) (fun _ hk=>hk.2) (.int .i64 1)) (fun _ hk=>hk.2) (.int .i64 t441)) (fun _ h_=>h_.1))) hb);replace HO449:=zA (Kd.S_below (by (with_reducible repeat (first|apply Kd.S_alloc|apply Kd.S_drewN|apply Kd.S_drew));exact (Kd.S_mono (Kd.S_far (p:=⟨gb439,2,none⟩) (Kd.S_far (p:=⟨gb439,1,none⟩) (Kd.S_types HO449.out BK439.out (by decide)) (fun _ hk=>hk.2) (.int .i64 1)) (fun _ hk=>hk.2) (.int .i64 t441)) (fun _ h_=>h_.1))) hb);replace BK438:=zA (blk_below (g:=gb438) (o:=.cells #[.int .i64 0,.int .i64 0,.int .i64 0,.int .i64 0,.int .i64 0,.slice none 0 0] 65 (0,0)) (by refine zj ?_;refine blk_far ?_ NB438_439.out _;refine zj ?_;refine blk_far ?_ NB438_439.out _;refine zj ?_;exact BK438.out) hb);replace BK439:=zA (blk_below (g:=gb439) (o:=.cells #[.int .i64 a1,.int .i64 1,.int .i64 t441,.int .i64 0,.int .i64 0,.slice none 0 0] 65 (0,0)) (by refine zj ?_;refine blk_put (cs:=#[.int .i64 a1,.int .i64 1,.int .i64 0,.int .i64 0,.int .i64 0,.slice none 0 0]) ?_ 2 _ rfl;refine zj ?_;refine blk_put (cs:=#[.int .i64 a1,.int .i64 0,.int .i64 0,.int .i64 0,.int .i64 0,.slice none 0 0]) ?_ 1 _ rfl;refine zj ?_;exact BK439.out) hb);replace HB:=zA (below_step zB hb);(try clear hb);(try clear hb2);(try clear hk);(try clear hi);(try clear ho0);obtain ⟨Ao22,co22,eo22⟩:=Kd.R_slice HO452.out;subst eo22;have hcz23_0:w21.cell? ⟨gb439,0,none⟩=some (.int .i64 a1):=(blk_cell BK439.out 0).trans rfl;have hcz23_1:w21.cell? ⟨gb439,1,none⟩=some (.int .i64 1):=(blk_cell BK439.out 1).trans rfl;have hcz23_2:w21.cell? ⟨gb439,2,none⟩=some (.int .i64 t441):=(blk_cell BK439.out 2).trans rfl;have hcz23_3:w21.cell? ⟨gb439,3,none⟩=some (.int .i64 0):=(blk_cell BK439.out 3).trans rfl;have hcz23_4:w21.cell? ⟨gb439,4,none⟩=some (.int .i64 0):=(blk_cell BK439.out 4).trans rfl;have hcz23_5:w21.cell? ⟨gb439,5,none⟩=some (.slice none 0 0):=(blk_cell BK439.out 5).trans rfl;have hfz23_0:=blk_frozen BK439.out 0;have hfz23_1:=blk_frozen BK439.out 1;have hfz23_2:=blk_frozen BK439.out 2;have hfz23_3:=blk_frozen BK439.out 3;have hfz23_4:=blk_frozen BK439.out 4;have hfz23_5:=blk_frozen BK439.out 5;have hcz24_0:w21.cell? ⟨gb438,0,none⟩=some (.int .i64 0):=(blk_cell BK438.out 0).trans rfl;have hcz24_1:w21.cell? ⟨gb438,1,none⟩=some (.int .i64 0):=(blk_cell BK438.out 1).trans rfl;have hcz24_2:w21.cell? ⟨gb438,2,none⟩=some (.int .i64 0):=(blk_cell BK438.out 2).trans rfl;have hcz24_3:w21.cell? ⟨gb438,3,none⟩=some (.int .i64 0):=(blk_cell BK438.out 3).trans rfl;have hcz24_4:w21.cell? ⟨gb438,4,none⟩=some (.int .i64 0):=(blk_cell BK438.out 4).trans rfl;have hcz24_5:w21.cell? ⟨gb438,5,none⟩=some (.slice none 0 0):=(blk_cell BK438.out 5).trans rfl;have hfz24_0:=blk_frozen BK438.out 0;have hfz24_1:=blk_frozen BK438.out 1;have hfz24_2:=blk_frozen BK438.out 2;have hfz24_3:=blk_frozen BK438.out 3;have hfz24_4:=blk_frozen BK438.out 4;have hfz24_5:=blk_frozen BK438.out 5))
   refine bodyPost_ret (results_ct rfl _ _ gb438 65 #[.int .i64 a1,.int .i64 1,.int .i64 t441,.int .i64 0,.int .i64 0,.slice Ao22 t450.length co22] (0,0) _ rfl (by refine zj ?_;refine blk_put (cs:=#[.int .i64 a1,.int .i64 1,.int .i64 t441,.int .i64 0,.int .i64 0,.slice none 0 0]) ?_ 5 _ rfl;refine zj ?_;refine blk_put (cs:=#[.int .i64 a1,.int .i64 1,.int .i64 t441,.int .i64 0,.int .i64 0,.slice none 0 0]) ?_ 4 _ rfl;refine zj ?_;refine blk_put (cs:=#[.int .i64 a1,.int .i64 1,.int .i64 t441,.int .i64 0,.int .i64 0,.slice none 0 0]) ?_ 3 _ rfl;refine zj ?_;refine blk_put (cs:=#[.int .i64 a1,.int .i64 1,.int .i64 0,.int .i64 0,.int .i64 0,.slice none 0 0]) ?_ 2 _ rfl;refine zj ?_;refine blk_put (cs:=#[.int .i64 a1,.int .i64 0,.int .i64 0,.int .i64 0,.int .i64 0,.slice none 0 0]) ?_ 1 _ rfl;refine zj ?_;refine blk_put (cs:=#[.int .i64 0,.int .i64 0,.int .i64 0,.int .i64 0,.int .i64 0,.slice none 0 0]) ?_ 0 _ rfl;refine zj ?_;refine blk_far ?_ NB438_439.out _;refine zj ?_;exact BK438.out) Try.underlying65 rfl zK) rfl ?_
   exact ⟨_,ze,by refine zr ?_;exact Kd.R_mono (Kd.R_far (p:=⟨gb438,5,none⟩) (Kd.R_far (p:=⟨gb438,4,none⟩) (Kd.R_far (p:=⟨gb438,3,none⟩) (Kd.R_far (p:=⟨gb438,2,none⟩) (Kd.R_far (p:=⟨gb438,1,none⟩) (Kd.R_far (p:=⟨gb438,0,none⟩) (Kd.R_far (p:=⟨gb439,5,none⟩) (Kd.R_types (Kd.R_types HO452.out BK439.out (by decide)) BK438.out (by decide)) (fun _ hk=>hk.1.2) (.slice Ao22 t450.length co22)) (fun _ hk=>hk.2) (.int .i64 a1)) (fun _ hk=>hk.2) (.int .i64 1)) (fun _ hk=>hk.2) (.int .i64 t441)) (fun _ hk=>hk.2) (.int .i64 0)) (fun _ hk=>hk.2) (.int .i64 0)) (fun _ hk=>hk.2) (.slice Ao22 t450.length co22)) (fun _ hk=>trivial),by repeat (first|(with_reducible first|exact HB.out|apply below_alloc|apply pw_below_drewN|apply below_drew1|refine below_set ?_ GE438.out|refine below_set ?_ GE439.out)|exact HB.out)⟩
 ·replace c12:=Bool.eq_false_iff.mpr c12
  subst c12
  have H1:((solve_Refute.f k t440).bind fun bt454=>(some (a1,2,t446,0,0,bt454.1,bt454.2)))=some (r1,r2,r3,r4,r5,r6,r7):=by rw [if_neg (show ¬ (false=true) by decide)] at H;exact H
  clear H
  have H:=H1
  clear H1
  replace H:=Option.bind_eq_some_iff.mp H
  obtain ⟨⟨t454,t457⟩,A250,H⟩:=H
  replace H:(some (a1,2,t446,0,0,t454,t457))=some (r1,r2,r3,r4,r5,r6,r7):=H
  have A25:=zA A250
  clear A250
  simp only [Option.some.injEq,Prod.mk.injEq] at H
  obtain ⟨rfl,rfl,rfl,rfl,rfl,rfl,rfl⟩:=H
  have hnb26:=NB439_438.out
  have hnc26:=NB438_439.out
  have hcz27_0:w11.cell? ⟨gb439,0,none⟩=some (.int .i64 a1):=(blk_cell BK439.out 0).trans rfl
  have hcz27_1:w11.cell? ⟨gb439,1,none⟩=some (.int .i64 0):=(blk_cell BK439.out 1).trans rfl
  have hcz27_2:w11.cell? ⟨gb439,2,none⟩=some (.int .i64 0):=(blk_cell BK439.out 2).trans rfl
  have hcz27_3:w11.cell? ⟨gb439,3,none⟩=some (.int .i64 0):=(blk_cell BK439.out 3).trans rfl
  have hcz27_4:w11.cell? ⟨gb439,4,none⟩=some (.int .i64 0):=(blk_cell BK439.out 4).trans rfl
  have hcz27_5:w11.cell? ⟨gb439,5,none⟩=some (.slice none 0 0):=(blk_cell BK439.out 5).trans rfl
  have hfz27_0:=blk_frozen BK439.out 0
  have hfz27_1:=blk_frozen BK439.out 1
  have hfz27_2:=blk_frozen BK439.out 2
  have hfz27_3:=blk_frozen BK439.out 3
  have hfz27_4:=blk_frozen BK439.out 4
  have hfz27_5:=blk_frozen BK439.out 5
  obtain ⟨Ao28,co28,eo28⟩:=Kd.S_slice HO444.out
  subst eo28
  go_wp2_with (first|((with_reducible refine gate_callee (f:=61) rfl ?_);refine goesL_ (some 35) rfl rfl Try.func61 zK rfl #[.slice Ao28 t440.length co28] rfl zM ?_;(with_reducible refine (solve_Refute.calls k _ _ t440 t454 t457 _ ?side1 ?side2 A25.out).mono ?_);(case side1=>refine (Kd.S_reads' (e:=34) (base:=w.heap.size) (ok:=fun k_=>(True∧some k_≠(v448:Value).ownBlock)) (n:=t440.length) (c:=co28) ?_).2.2;exact (by (with_reducible repeat (first|apply Kd.S_alloc|apply Kd.S_drewN|apply Kd.S_drew));exact (Kd.S_mono (Kd.S_far (p:=⟨gb439,2,none⟩) (Kd.S_far (p:=⟨gb439,1,none⟩) (Kd.S_types HO444.out BK439.out (by decide)) (fun _ hk=>hk.2) (.int .i64 2)) (fun _ hk=>hk.2) (.int .i64 t446)) (fun _ h_=>h_.1))));(case side2=>exact (Kd.S_reads' HO444.out).2.1);rintro e w29 ⟨v455,rfl,ho0,hb⟩;refine ⟨_,rfl,?_⟩;have HO456:=zA (Kd.R_lower ho0 (below_size zB));replace HO444:=zA (Kd.S_below (by (with_reducible repeat (first|apply Kd.S_alloc|apply Kd.S_drewN|apply Kd.S_drew));exact (Kd.S_mono (Kd.S_far (p:=⟨gb439,2,none⟩) (Kd.S_far (p:=⟨gb439,1,none⟩) (Kd.S_types HO444.out BK439.out (by decide)) (fun _ hk=>hk.2) (.int .i64 2)) (fun _ hk=>hk.2) (.int .i64 t446)) (fun _ h_=>h_.1))) hb);replace HO449:=zA (Kd.S_below (by (with_reducible repeat (first|apply Kd.S_alloc|apply Kd.S_drewN|apply Kd.S_drew));exact (Kd.S_mono (Kd.S_far (p:=⟨gb439,2,none⟩) (Kd.S_far (p:=⟨gb439,1,none⟩) (Kd.S_types HO449.out BK439.out (by decide)) (fun _ hk=>hk.2) (.int .i64 2)) (fun _ hk=>hk.2) (.int .i64 t446)) (fun _ h_=>h_.1))) hb);replace BK438:=zA (blk_below (g:=gb438) (o:=.cells #[.int .i64 0,.int .i64 0,.int .i64 0,.int .i64 0,.int .i64 0,.slice none 0 0] 65 (0,0)) (by refine zj ?_;refine blk_far ?_ NB438_439.out _;refine zj ?_;refine blk_far ?_ NB438_439.out _;refine zj ?_;exact BK438.out) hb);replace BK439:=zA (blk_below (g:=gb439) (o:=.cells #[.int .i64 a1,.int .i64 2,.int .i64 t446,.int .i64 0,.int .i64 0,.slice none 0 0] 65 (0,0)) (by refine zj ?_;refine blk_put (cs:=#[.int .i64 a1,.int .i64 2,.int .i64 0,.int .i64 0,.int .i64 0,.slice none 0 0]) ?_ 2 _ rfl;refine zj ?_;refine blk_put (cs:=#[.int .i64 a1,.int .i64 0,.int .i64 0,.int .i64 0,.int .i64 0,.slice none 0 0]) ?_ 1 _ rfl;refine zj ?_;exact BK439.out) hb);replace HB:=zA (below_step zB hb);(try clear hb);(try clear hb2);(try clear hk);(try clear hi);(try clear ho0);obtain ⟨Ao30,co30,eo30⟩:=Kd.R_slice HO456.out;subst eo30;have hcz31_0:w29.cell? ⟨gb439,0,none⟩=some (.int .i64 a1):=(blk_cell BK439.out 0).trans rfl;have hcz31_1:w29.cell? ⟨gb439,1,none⟩=some (.int .i64 2):=(blk_cell BK439.out 1).trans rfl;have hcz31_2:w29.cell? ⟨gb439,2,none⟩=some (.int .i64 t446):=(blk_cell BK439.out 2).trans rfl;have hcz31_3:w29.cell? ⟨gb439,3,none⟩=some (.int .i64 0):=(blk_cell BK439.out 3).trans rfl;have hcz31_4:w29.cell? ⟨gb439,4,none⟩=some (.int .i64 0):=(blk_cell BK439.out 4).trans rfl;have hcz31_5:w29.cell? ⟨gb439,5,none⟩=some (.slice none 0 0):=(blk_cell BK439.out 5).trans rfl;have hfz31_0:=blk_frozen BK439.out 0;have hfz31_1:=blk_frozen BK439.out 1;have hfz31_2:=blk_frozen BK439.out 2;have hfz31_3:=blk_frozen BK439.out 3;have hfz31_4:=blk_frozen BK439.out 4;have hfz31_5:=blk_frozen BK439.out 5;have hcz32_0:w29.cell? ⟨gb438,0,none⟩=some (.int .i64 0):=(blk_cell BK438.out 0).trans rfl;have hcz32_1:w29.cell? ⟨gb438,1,none⟩=some (.int .i64 0):=(blk_cell BK438.out 1).trans rfl;have hcz32_2:w29.cell? ⟨gb438,2,none⟩=some (.int .i64 0):=(blk_cell BK438.out 2).trans rfl;have hcz32_3:w29.cell? ⟨gb438,3,none⟩=some (.int .i64 0):=(blk_cell BK438.out 3).trans rfl;have hcz32_4:w29.cell? ⟨gb438,4,none⟩=some (.int .i64 0):=(blk_cell BK438.out 4).trans rfl;have hcz32_5:w29.cell? ⟨gb438,5,none⟩=some (.slice none 0 0):=(blk_cell BK438.out 5).trans rfl;have hfz32_0:=blk_frozen BK438.out 0;have hfz32_1:=blk_frozen BK438.out 1;have hfz32_2:=blk_frozen BK438.out 2;have hfz32_3:=blk_frozen BK438.out 3;have hfz32_4:=blk_frozen BK438.out 4;have hfz32_5:=blk_frozen BK438.out 5))
  refine bodyPost_ret (results_ct rfl _ _ gb438 65 #[.int .i64 a1,.int .i64 2,.int .i64 t446,.int .i64 0,.int .i64 0,.slice Ao30 t454.length co30] (0,0) _ rfl (by refine zj ?_;refine blk_put (cs:=#[.int .i64 a1,.int .i64 2,.int .i64 t446,.int .i64 0,.int .i64 0,.slice none 0 0]) ?_ 5 _ rfl;refine zj ?_;refine blk_put (cs:=#[.int .i64 a1,.int .i64 2,.int .i64 t446,.int .i64 0,.int .i64 0,.slice none 0 0]) ?_ 4 _ rfl;refine zj ?_;refine blk_put (cs:=#[.int .i64 a1,.int .i64 2,.int .i64 t446,.int .i64 0,.int .i64 0,.slice none 0 0]) ?_ 3 _ rfl;refine zj ?_;refine blk_put (cs:=#[.int .i64 a1,.int .i64 2,.int .i64 0,.int .i64 0,.int .i64 0,.slice none 0 0]) ?_ 2 _ rfl;refine zj ?_;refine blk_put (cs:=#[.int .i64 a1,.int .i64 0,.int .i64 0,.int .i64 0,.int .i64 0,.slice none 0 0]) ?_ 1 _ rfl;refine zj ?_;refine blk_put (cs:=#[.int .i64 0,.int .i64 0,.int .i64 0,.int .i64 0,.int .i64 0,.slice none 0 0]) ?_ 0 _ rfl;refine zj ?_;refine blk_far ?_ NB438_439.out _;refine zj ?_;exact BK438.out) Try.underlying65 rfl zK) rfl ?_
  exact ⟨_,ze,by refine zr ?_;exact Kd.R_mono (Kd.R_far (p:=⟨gb438,5,none⟩) (Kd.R_far (p:=⟨gb438,4,none⟩) (Kd.R_far (p:=⟨gb438,3,none⟩) (Kd.R_far (p:=⟨gb438,2,none⟩) (Kd.R_far (p:=⟨gb438,1,none⟩) (Kd.R_far (p:=⟨gb438,0,none⟩) (Kd.R_far (p:=⟨gb439,5,none⟩) (Kd.R_types (Kd.R_types HO456.out BK439.out (by decide)) BK438.out (by decide)) (fun _ hk=>hk.1.2) (.slice Ao30 t454.length co30)) (fun _ hk=>hk.2) (.int .i64 a1)) (fun _ hk=>hk.2) (.int .i64 2)) (fun _ hk=>hk.2) (.int .i64 t446)) (fun _ hk=>hk.2) (.int .i64 0)) (fun _ hk=>hk.2) (.int .i64 0)) (fun _ hk=>hk.2) (.slice Ao30 t454.length co30)) (fun _ hk=>trivial),by repeat (first|(with_reducible first|exact HB.out|apply below_alloc|apply pw_below_drewN|apply below_drew1|refine below_set ?_ GE438.out|refine below_set ?_ GE439.out)|exact HB.out)⟩
def shared_All.l0:Nat→List (S34)→List (S65)→List Int→Int→Int→Option ((List (S65))×Int)
 | 0,_,_,_,_,_=>none
 | k+1,x0,x5,x16,x17,x18=>if x18<x17 then (if 0≤x18 then (if x18<(x16.length:Int) then ((shared_evidence.f k x0 (rd x16 x18)).bind fun bt463=>(if bt463.2.2.2.2.2.2=0 then (if x5.length<2199023255552 then (shared_All.l0 k x0 (x5++[(⟨bt463.1,bt463.2.1,bt463.2.2.1,bt463.2.2.2.1,bt463.2.2.2.2.1,(⟨bt463.2.2.2.2.2.1⟩:S63)⟩:S65)]) x16 x17 (wrap64 (x18+1))) else (none)) else (some (([]:List (S65)),bt463.2.2.2.2.2.2)))) else (none)) else (none)) else (some (x5,0))
def shared_All.f (k:Nat) (l0:List (S34)):Option ((List (S65))×Int):=(shared_solvable.f k l0).bind fun t458=>(if t458=0 then ((solve_Vars.f k l0).bind fun t459=>(shared_All.l0 k l0 ([]:List (S65)) t459 (t459.length:Int) 0)) else (some (([]:List (S65)),t458)))
theorem shared_All.mono_l:∀ k,(∀ y0 y1 y2 y3 y4,LeO (shared_All.l0 k y0 y1 y2 y3 y4) (shared_All.l0 (k+1) y0 y1 y2 y3 y4))
 | 0=>fun _ _ _ _ _ r h=>by simp [shared_All.l0] at h
 | k+1=>by
  have ih0:=shared_All.mono_l k
  ·intro y0 y1 y2 y3 y4
   unfold shared_All.l0
   repeat' first
   | (with_reducible exact ih0 _ _ _ _ _)
   | (with_reducible exact shared_evidence.mono _ _ _)
   | (with_reducible exact shared_solvable.mono _ _)
   | (with_reducible exact solve_Vars.mono _ _)
   | (with_reducible exact LeO.refl _)
   | (with_reducible exact LeO.none _)
   | (with_reducible refine LeO.ite ?_ ?_)
   | (with_reducible refine LeO.bind ?_ (fun _=>?_))
   | exact LeO.none _
   | refine LeO.ite ?_ ?_
   | refine LeO.bind ?_ (fun _=>?_)
theorem shared_All.mono:∀ a0 k,LeO (shared_All.f k a0) (shared_All.f (k+1) a0):=by
 intro a0 k
 have ih0:=shared_All.mono_l k
 unfold shared_All.f
 repeat' first
   | (with_reducible exact ih0 _ _ _ _ _)
   | (with_reducible exact shared_evidence.mono _ _ _)
   | (with_reducible exact shared_solvable.mono _ _)
   | (with_reducible exact solve_Vars.mono _ _)
   | (with_reducible exact LeO.refl _)
   | (with_reducible exact LeO.none _)
   | (with_reducible refine LeO.ite ?_ ?_)
   | (with_reducible refine LeO.bind ?_ (fun _=>?_))
   | exact LeO.none _
   | refine LeO.ite ?_ ?_
   | refine LeO.bind ?_ (fun _=>?_)
set_option maxHeartbeats 8000000 in
set_option maxRecDepth 100000 in
theorem shared_All.calls (k:Nat) (A0:Option Addr) (c0:Nat) (l0:List (S34)) (r1:List (S65)) (r2:Int) (w:World) (hr0:Kd.C k34 w A0 l0.length l0) (hc0:l0.length≤c0) (h:shared_All.f k l0=some (r1,r2)) :
  Calls Try.prog 22 #[.slice A0 l0.length c0] w fun e w'=>∃ v0_:Value,e=.returned (.tuple #[v0_,.int .i64 r2])∧Kd.S k65 65 w' w.heap.size (fun _=>True) v0_ r1∧Below w.heap.size w w':=by
 have hu3:=Try.underlying3
 have hu65:=Try.underlying65
 have HR0:=zA hr0
 have HC0:=zA hc0
 clear hr0 hc0
 have HB:=zA (Below.refl w.heap.size w)
 have H:((shared_solvable.f k l0).bind fun t458=>(if t458=0 then ((solve_Vars.f k l0).bind fun t459=>(shared_All.l0 k l0 ([]:List (S65)) t459 (t459.length:Int) 0)) else (some (([]:List (S65)),t458))))=some (r1,r2):=h
 clear h
 replace H:=Option.bind_eq_some_iff.mp H
 obtain ⟨t458,A20,H⟩:=H
 replace H:(if t458=0 then ((solve_Vars.f k l0).bind fun t459=>(shared_All.l0 k l0 ([]:List (S65)) t459 (t459.length:Int) 0)) else (some (([]:List (S65)),t458)))=some (r1,r2):=H
 have A2:=zA A20
 clear A20
 have HC3:=zA H
 clear H
 go_enter Try.func22,Try.ntmps22
 go_upto_if 13 with (first|((with_reducible refine gate_callee (f:=28) rfl ?_);refine goesL_ (some 11) rfl rfl Try.func28 zK rfl #[.slice A0 l0.length c0] rfl zM ?_;(with_reducible refine (shared_solvable.calls k _ _ l0 t458 _ ?side1 ?side2 A2.out).mono ?_);(case side1=>repeat (first|exact HR0.out|(with_reducible refine Kd.C_alloc ?_ _)|(with_reducible refine Kd.C_drewN ?_ _)|(with_reducible refine Kd.C_drew ?_)));(case side2=>exact HC0.out);rintro e w4 ⟨rfl,hb⟩;refine ⟨_,rfl,?_⟩;replace HB:=zA (below_step zB hb);(try clear hb);(try clear hb2);(try clear hk);(try clear hi)))
 (try simp only [Act.put,zi,zs,zt])
 have H:=HC3.out
 clear HC3
 by_cases c5:t458=0
 ·rw [if_pos c5] at H
  have c5b0:(t458 == 0)=true:=beq_iff_eq.mpr c5
  have c5b1:(t458 != 0)=false:=bne_eq_false_iff_eq.mpr c5
  clear c5
  (first|rw [c5b0]|(simp only [i64_w,i32_w];rw [c5b0])|skip)
  (try rw [c5b1])
  replace H:=Option.bind_eq_some_iff.mp H
  obtain ⟨t459,A60,H⟩:=H
  replace H:(shared_All.l0 k l0 ([]:List (S65)) t459 (t459.length:Int) 0)=some (r1,r2):=H
  have A6:=zA A60
  clear A60
  have H':=zA H
  clear H
  go_wp2_with (first|((with_reducible refine gate_callee (f:=29) rfl ?_);refine goesL_ (some 16) rfl rfl Try.func29 zK rfl #[.slice A0 l0.length c0] rfl zM ?_;(with_reducible refine (solve_Vars.calls k _ _ l0 t459 _ ?side1 ?side2 A6.out).mono ?_);(case side1=>exact zC (Kd.C_below HR0.out HB.out));(case side2=>exact HC0.out);rintro e w7 ⟨v460,rfl,ho0,hb⟩;refine ⟨_,rfl,?_⟩;have HO461:=zA (Kd.R_lower ho0 (below_size zB));replace HB:=zA (below_step zB hb);(try clear hb);(try clear hb2);(try clear hk);(try clear hi);(try clear ho0);obtain ⟨Ao8,co8,eo8⟩:=Kd.R_slice HO461.out;subst eo8))
  go_loopg [5,18] k (fun kq v5 v18 w'=>∃ (x5_1:List (S65)) (x18_1:Int),v18=.int .i64 x18_1∧Aside0 (shared_All.l0 kq l0 x5_1 t459 (t459.length:Int) x18_1=some (r1,r2))∧Aside0 (kq≤k)∧Aside0 (Kd.S k65 65 w' w.heap.size (fun _=>True) v5 x5_1)∧Aside0 (Kd.R (Kd.int .i64) 3 w' w.heap.size (fun _=>True) (.slice Ao8 t459.length co8) t459)∧Aside0 (Below w.heap.size w w'))
  case atStart=>exact ⟨(([]:List (S65))),(0),zT,H',⟨Nat.le_refl _⟩,⟨by first|exact Kd.S_nil _ _ _ _ _|exact Kd.N_nil _ _ _ _ _|exact Kd.V_nil _ _ _ _ _|exact Kd.Q_nil _ _ _ _ _|exact Kd.R_nil _ _ _ _ _⟩,⟨by refine zr ?_;exact HO461.out⟩,⟨by repeat (first|(with_reducible first|exact HB.out|apply below_alloc|apply pw_below_drewN|apply below_drew1)|exact HB.out)⟩⟩
  case round=>
   clear H'
   try clear c5
   try clear c5b0
   try clear c5b1
   obtain ⟨x5_1,x18_1,rfl,HA,HK1,HO_5,HO_16,HB⟩:=hrel
   cases gk with
   | zero=>exact absurd HA.out (by simp [shared_All.l0])
   | succ k1=>
    have H:=HA.out
    clear HA
    simp only [shared_All.l0] at H
    by_cases c9:x18_1<(t459.length:Int)
    ·rw [if_pos c9] at H
     have c9b0:decide (x18_1<(t459.length:Int))=true:=decide_eq_true c9
     clear c9
     by_cases c10:0≤x18_1
     ·rw [if_pos c10] at H
      have c10b0:decide (0≤x18_1)=true:=decide_eq_true c10
      clear c10
      by_cases c11:x18_1<(t459.length:Int)
      ·rw [if_pos c11] at H
       have c11b0:decide (x18_1<(t459.length:Int))=true:=decide_eq_true c11
       clear c11
       replace H:=Option.bind_eq_some_iff.mp H
       obtain ⟨⟨t463,t464,t465,t466,t467,t468,t471⟩,A120,H⟩:=H
       replace H:(if t471=0 then (if x5_1.length<2199023255552 then (shared_All.l0 k1 l0 (x5_1++[(⟨t463,t464,t465,t466,t467,(⟨t468⟩:S63)⟩:S65)]) t459 (t459.length:Int) (wrap64 (x18_1+1))) else (none)) else (some (([]:List (S65)),t471)))=some (r1,r2):=H
       have A12:=zA A120
       clear A120
       have HC13:=zA H
       clear H
       have p462:0≤(x18_1:Int):=of_decide_eq_true zh
       have q462:x18_1<(t459.length:Int):=of_decide_eq_true zh
       obtain ⟨ad462,e462,hx462_0⟩:=Kd.at_int (Kd.R_reads' HO_16.out).2.2 x18_1 p462 q462
       cases e462
       replace p462:=eq_true p462
       replace q462:=eq_true q462
       go_upto_if 29 with (first|((with_reducible refine gate_callee (f:=46) rfl ?_);refine goesL_ (some 25) rfl rfl Try.func46 zK rfl #[.slice A0 l0.length c0,.int .i64 (rd t459 x18_1)] rfl zM ?_;(with_reducible refine (shared_evidence.calls k1 _ _ l0 (rd t459 x18_1) t463 t464 t465 t466 t467 t468 t471 _ ?side1 ?side2 A12.out).mono ?_);(case side1=>exact zC (Kd.C_below HR0.out HB.out));(case side2=>exact HC0.out);rintro e w14 ⟨v469,rfl,ho0,hb⟩;refine ⟨_,rfl,?_⟩;have HO470:=zA (Kd.R_lower ho0 (below_size zB));replace HO_5:=zA (Kd.S_elder' (zS HO_5) (Kd.R_base ho0) hb);replace HO_16:=zA (Kd.R_below (zR HO_16) hb);replace HB:=zA (below_step zB hb);(try clear hb);(try clear hb2);(try clear hk);(try clear hi);(try clear ho0))|((with_reducible refine gate_dst (N:=8) rfl ?_);refine box_event ?hg (N:=8) ?hd (cs:=#[.int .i64 0,.int .i64 0,.int .i64 0,.int .i64 0,.int .i64 0,.slice none 0 0]) (t:=65) ?hr ?_;(case hd=>rfl);(case hg=>rfl);(case hr=>first|(go_simp;done)|(go_simp;rfl));intro gb472 hg w15 hbox hb;have BK472:=zA (hbox);have GW472:=zA (zG hg (below_size zB):w.heap.size≤gb472);have GE472:=GW472;replace HO_5:=zA (Kd.S_below (Kd.S_elderB (zS HO_5) gb472 (Nat.le_of_eq hg.symm)) hb);replace HO_16:=zA (Kd.R_below (zR HO_16) hb);replace HO470:=zA (Kd.R_below (zR HO470) hb);replace HB:=zA (below_step zB hb);clear hb hbox hg;have hcz16_0:w15.cell? ⟨gb472,0,none⟩=some (.int .i64 0):=(blk_cell BK472.out 0).trans rfl;have hcz16_1:w15.cell? ⟨gb472,1,none⟩=some (.int .i64 0):=(blk_cell BK472.out 1).trans rfl;have hcz16_2:w15.cell? ⟨gb472,2,none⟩=some (.int .i64 0):=(blk_cell BK472.out 2).trans rfl;have hcz16_3:w15.cell? ⟨gb472,3,none⟩=some (.int .i64 0):=(blk_cell BK472.out 3).trans rfl;have hcz16_4:w15.cell? ⟨gb472,4,none⟩=some (.int .i64 0):=(blk_cell BK472.out 4).trans rfl;have hcz16_5:w15.cell? ⟨gb472,5,none⟩=some (.slice none 0 0):=(blk_cell BK472.out 5).trans rfl;have hfz16_0:=blk_frozen BK472.out 0;have hfz16_1:=blk_frozen BK472.out 1;have hfz16_2:=blk_frozen BK472.out 2;have hfz16_3:=blk_frozen BK472.out 3;have hfz16_4:=blk_frozen BK472.out 4;have hfz16_5:=blk_frozen BK472.out 5;obtain ⟨Ao17,co17,eo17⟩:=Kd.R_slice HO470.out;subst eo17))
       (try simp only [Act.put,zi,zs,zt])
       have H:=HC13.out
       clear HC13
       by_cases c18:t471=0
       ·rw [if_pos c18] at H
        have c18b0:(t471 == 0)=true:=beq_iff_eq.mpr c18
        have c18b1:(t471 != 0)=false:=bne_eq_false_iff_eq.mpr c18
        clear c18
        (first|rw [c18b0]|(simp only [i64_w,i32_w];rw [c18b0])|skip)
        (try rw [c18b1])
        by_cases c19:x5_1.length<2199023255552
        ·rw [if_pos c19] at H
         have LMc19:=zA c19
         clear c19
         obtain ⟨y473,hy473⟩:∃ y_:List (S65),y_=(x5_1++[(⟨t463,t464,t465,t466,t467,(⟨t468⟩:S63)⟩:S65)]):=⟨_,rfl⟩
         replace H:(shared_All.l0 k1 l0 y473 t459 (t459.length:Int) (wrap64 (x18_1+1)))=some (r1,r2):=by first|(rw [hy473];with_reducible exact H)|(have H2_:=(Option.bind_some _ _).symm.trans H;rw [hy473];with_reducible exact H2_)|(have H2_:=(Option.bind_some _ _).symm.trans H;with_reducible exact H2_)|with_reducible exact H|(rw [hy473];exact H)|exact H
         have Ny473:=zA hy473
         clear hy473
         have H':=zA H
         clear H
         have n0_:Aside0 (Kd.S k65 65 ((((((w15.setCell ⟨gb472,0,none⟩ (.int .i64 t463)).setCell ⟨gb472,1,none⟩ (.int .i64 t464)).setCell ⟨gb472,2,none⟩ (.int .i64 t465)).setCell ⟨gb472,3,none⟩ (.int .i64 t466)).setCell ⟨gb472,4,none⟩ (.int .i64 t467)).setCell ⟨gb472,5,none⟩ (.slice Ao17 t468.length co17)) w.heap.size (fun k_=>some k_≠(.slice Ao17 t468.length co17:Value).ownBlock∧k_≠gb472) u5 x5_1):=⟨by (with_reducible repeat (first|apply Kd.S_alloc|apply Kd.S_drewN|apply Kd.S_drew));exact Kd.S_mono (Kd.S_far (p:=⟨gb472,5,none⟩) (Kd.S_far (p:=⟨gb472,4,none⟩) (Kd.S_far (p:=⟨gb472,3,none⟩) (Kd.S_far (p:=⟨gb472,2,none⟩) (Kd.S_far (p:=⟨gb472,1,none⟩) (Kd.S_far (p:=⟨gb472,0,none⟩) (Kd.S_mono HO_5.out (fun k_ hk=>(⟨hk,hk.2⟩:_∧k_≠gb472))) (fun _ hk=>hk.2) (.int .i64 t463)) (fun _ hk=>hk.2) (.int .i64 t464)) (fun _ hk=>hk.2) (.int .i64 t465)) (fun _ hk=>hk.2) (.int .i64 t466)) (fun _ hk=>hk.2) (.int .i64 t467)) (fun _ hk=>hk.2) (.slice Ao17 t468.length co17)) (fun _ hk=>⟨hk.1.1.2,hk.1.2⟩)⟩
         have n1_:Aside0 (Kd.R (Kd.int .i64) 3 ((((((w15.setCell ⟨gb472,0,none⟩ (.int .i64 t463)).setCell ⟨gb472,1,none⟩ (.int .i64 t464)).setCell ⟨gb472,2,none⟩ (.int .i64 t465)).setCell ⟨gb472,3,none⟩ (.int .i64 t466)).setCell ⟨gb472,4,none⟩ (.int .i64 t467)).setCell ⟨gb472,5,none⟩ (.slice Ao17 t468.length co17)) w.heap.size (fun _=>True) (.slice (some ad462) t459.length co8) t459):=⟨by refine zr ?_;exact Kd.R_mono (Kd.R_far (p:=⟨gb472,5,none⟩) (Kd.R_far (p:=⟨gb472,4,none⟩) (Kd.R_far (p:=⟨gb472,3,none⟩) (Kd.R_far (p:=⟨gb472,2,none⟩) (Kd.R_far (p:=⟨gb472,1,none⟩) (Kd.R_far (p:=⟨gb472,0,none⟩) (Kd.R_types HO_16.out BK472.out (by decide)) (fun _ hk=>hk.2) (.int .i64 t463)) (fun _ hk=>hk.2) (.int .i64 t464)) (fun _ hk=>hk.2) (.int .i64 t465)) (fun _ hk=>hk.2) (.int .i64 t466)) (fun _ hk=>hk.2) (.int .i64 t467)) (fun _ hk=>hk.2) (.slice Ao17 t468.length co17)) (fun _ hk=>trivial)⟩
         have n2_:Aside0 (Kd.R k116 116 ((((((w15.setCell ⟨gb472,0,none⟩ (.int .i64 t463)).setCell ⟨gb472,1,none⟩ (.int .i64 t464)).setCell ⟨gb472,2,none⟩ (.int .i64 t465)).setCell ⟨gb472,3,none⟩ (.int .i64 t466)).setCell ⟨gb472,4,none⟩ (.int .i64 t467)).setCell ⟨gb472,5,none⟩ (.slice Ao17 t468.length co17)) w.heap.size (fun _=>True) (.slice Ao17 t468.length co17) t468):=⟨by refine zr ?_;exact Kd.R_mono (Kd.R_far (p:=⟨gb472,5,none⟩) (Kd.R_far (p:=⟨gb472,4,none⟩) (Kd.R_far (p:=⟨gb472,3,none⟩) (Kd.R_far (p:=⟨gb472,2,none⟩) (Kd.R_far (p:=⟨gb472,1,none⟩) (Kd.R_far (p:=⟨gb472,0,none⟩) (Kd.R_types HO470.out BK472.out (by decide)) (fun _ hk=>hk.2) (.int .i64 t463)) (fun _ hk=>hk.2) (.int .i64 t464)) (fun _ hk=>hk.2) (.int .i64 t465)) (fun _ hk=>hk.2) (.int .i64 t466)) (fun _ hk=>hk.2) (.int .i64 t467)) (fun _ hk=>hk.2) (.slice Ao17 t468.length co17)) (fun _ hk=>trivial)⟩
         have n3_:Aside0 (((((((w15.setCell ⟨gb472,0,none⟩ (.int .i64 t463)).setCell ⟨gb472,1,none⟩ (.int .i64 t464)).setCell ⟨gb472,2,none⟩ (.int .i64 t465)).setCell ⟨gb472,3,none⟩ (.int .i64 t466)).setCell ⟨gb472,4,none⟩ (.int .i64 t467)).setCell ⟨gb472,5,none⟩ (.slice Ao17 t468.length co17)).heap[gb472]?=some (.cells #[.int .i64 t463,.int .i64 t464,.int .i64 t465,.int .i64 t466,.int .i64 t467,.slice Ao17 t468.length co17] 65 (0,0))):=⟨by refine zj ?_;refine blk_put (cs:=#[.int .i64 t463,.int .i64 t464,.int .i64 t465,.int .i64 t466,.int .i64 t467,.slice none 0 0]) ?_ 5 _ rfl;refine zj ?_;refine blk_put (cs:=#[.int .i64 t463,.int .i64 t464,.int .i64 t465,.int .i64 t466,.int .i64 0,.slice none 0 0]) ?_ 4 _ rfl;refine zj ?_;refine blk_put (cs:=#[.int .i64 t463,.int .i64 t464,.int .i64 t465,.int .i64 0,.int .i64 0,.slice none 0 0]) ?_ 3 _ rfl;refine zj ?_;refine blk_put (cs:=#[.int .i64 t463,.int .i64 t464,.int .i64 0,.int .i64 0,.int .i64 0,.slice none 0 0]) ?_ 2 _ rfl;refine zj ?_;refine blk_put (cs:=#[.int .i64 t463,.int .i64 0,.int .i64 0,.int .i64 0,.int .i64 0,.slice none 0 0]) ?_ 1 _ rfl;refine zj ?_;refine blk_put (cs:=#[.int .i64 0,.int .i64 0,.int .i64 0,.int .i64 0,.int .i64 0,.slice none 0 0]) ?_ 0 _ rfl;refine zj ?_;exact BK472.out⟩
         have n4_:Aside0 (Below w.heap.size w ((((((w15.setCell ⟨gb472,0,none⟩ (.int .i64 t463)).setCell ⟨gb472,1,none⟩ (.int .i64 t464)).setCell ⟨gb472,2,none⟩ (.int .i64 t465)).setCell ⟨gb472,3,none⟩ (.int .i64 t466)).setCell ⟨gb472,4,none⟩ (.int .i64 t467)).setCell ⟨gb472,5,none⟩ (.slice Ao17 t468.length co17))):=⟨by repeat (first|(with_reducible first|exact HB.out|apply below_alloc|apply pw_below_drewN|apply below_drew1|refine below_set ?_ GE472.out)|exact HB.out)⟩
         (try clear HO_5)
         (try clear HO_16)
         (try clear HO470)
         (try clear BK472)
         (try clear HB)
         generalize ((((((w15.setCell ⟨gb472,0,none⟩ (.int .i64 t463)).setCell ⟨gb472,1,none⟩ (.int .i64 t464)).setCell ⟨gb472,2,none⟩ (.int .i64 t465)).setCell ⟨gb472,3,none⟩ (.int .i64 t466)).setCell ⟨gb472,4,none⟩ (.int .i64 t467)).setCell ⟨gb472,5,none⟩ (.slice Ao17 t468.length co17))=w20 at n0_ n1_ n2_ n3_ n4_ ⊢
         have HO_5:=n0_
         have HO_16:=n1_
         have HO470:=n2_
         have BK472:=n3_
         have HB:=n4_
         clear n0_ n1_ n2_ n3_ n4_
         have hcz21_0:w20.cell? ⟨gb472,0,none⟩=some (.int .i64 t463):=(blk_cell BK472.out 0).trans rfl
         have hcz21_1:w20.cell? ⟨gb472,1,none⟩=some (.int .i64 t464):=(blk_cell BK472.out 1).trans rfl
         have hcz21_2:w20.cell? ⟨gb472,2,none⟩=some (.int .i64 t465):=(blk_cell BK472.out 2).trans rfl
         have hcz21_3:w20.cell? ⟨gb472,3,none⟩=some (.int .i64 t466):=(blk_cell BK472.out 3).trans rfl
         have hcz21_4:w20.cell? ⟨gb472,4,none⟩=some (.int .i64 t467):=(blk_cell BK472.out 4).trans rfl
         have hcz21_5:w20.cell? ⟨gb472,5,none⟩=some (.slice Ao17 t468.length co17):=(blk_cell BK472.out 5).trans rfl
         have hfz21_0:=blk_frozen BK472.out 0
         have hfz21_1:=blk_frozen BK472.out 1
         have hfz21_2:=blk_frozen BK472.out 2
         have hfz21_3:=blk_frozen BK472.out 3
         have hfz21_4:=blk_frozen BK472.out 4
         have hfz21_5:=blk_frozen BK472.out 5
         go_wp2_with (first|((with_reducible refine gate_builtin (b:=.append) (xs:=#[.tmp 31,.tmp 33]) rfl ?_);at_builtin;refine Kd.S_append k65 (w0:=w) w.heap.size rfl (.tmp 31) (.tmp 33) 54 65 (.agg #[(.int .i64 0),(.int .i64 0),(.int .i64 0),(.int .i64 0),(.int .i64 0),(.slice none 0 0)]) 64 rfl Try.underlying54 info65 rfl (by decide) (by omega) u5 x5_1 (⟨t463,t464,t465,t466,t467,(⟨t468⟩:S63)⟩:S65) [.int .i64 t463,.int .i64 t464,.int .i64 t465,.int .i64 t466,.int .i64 t467,.slice Ao17 t468.length co17] (fun k_=>k_≠gb472) (fun k_=>some k_=(.slice Ao17 t468.length co17:Value).ownBlock) rfl rfl ?aP (fun k_ hk_=>((Kd.R_mono (ok':=fun k_=>((fun k_=>k_≠gb472)) k_∧some k_≠(u5:Value).ownBlock) (Kd.R_types (Kd.R_apart' (HO470.out) (Kd.S_typed HO_5.out) (by decide)) BK472.out (by decide)) (fun k_ hk=>⟨hk.2,hk.1.2⟩))).1 k_ hk_.symm) ?aF ?aO ?aB ?aS ?aL ?_;(case aP=>exact k65_mkM _ _ _ (⟨t463,t464,t465,t466,t467,(⟨t468⟩:S63)⟩:S65) (Kd.R_mono (Kd.R_tight rfl (Kd.R_mono (ok':=fun k_=>((fun k_=>k_≠gb472)) k_∧some k_≠(u5:Value).ownBlock) (Kd.R_types (Kd.R_apart' (HO470.out) (Kd.S_typed HO_5.out) (by decide)) BK472.out (by decide)) (fun k_ hk=>⟨hk.2,hk.1.2⟩))) (fun _ h_=>h_)));(case aB=>exact zB);(case aF=>exact (fun k_ hk=>Kd.freshB (g:=gb472) (o:=.cells #[.int .i64 t463,.int .i64 t464,.int .i64 t465,.int .i64 t466,.int .i64 t467,.slice Ao17 t468.length co17] 65 (0,0)) (zk BK472) k_ hk));(case aO=>exact (by (with_reducible repeat (first|apply Kd.S_alloc|apply Kd.S_drewN|apply Kd.S_drew));exact Kd.S_mono HO_5.out (fun k_ hk=>⟨hk.2,fun e_=>hk.1 e_⟩)));(case aS=>exact (below_size zB));(case aL=>have:=LMc19.out;omega);intro v474 w22 ho hb hg hat;rw [← Ny473.out] at ho;have HO475:=zA (ho);replace HO_16:=zA (Kd.R_over' (zR HO_16) (Kd.S_typed (zS HO_5)) (by decide) hg);replace BK472:=zA (blk_grown (g:=gb472) (o:=.cells #[.int .i64 t463,.int .i64 t464,.int .i64 t465,.int .i64 t466,.int .i64 t467,.slice Ao17 t468.length co17] 65 (0,0)) (zk BK472) hg (Kd.S_away HO_5.out (fun _ hk=>hk.2)));replace HB:=zA (hb);clear HO_5 HO470;clear ho hb hg hat))
         go_roundg k1
         case measure=>have:=HK1.out;omega
         case rel=>exact ⟨(y473),(wrap64 (x18_1+1)),zT,H',⟨by have:=HK1.out;omega⟩,⟨by (with_reducible repeat (first|apply Kd.S_alloc|apply Kd.S_drewN|apply Kd.S_drew));exact Kd.S_mono HO475.out (fun _ hk=>trivial)⟩,⟨by refine zr ?_;exact HO_16.out⟩,⟨by repeat (first|(with_reducible first|exact HB.out|apply below_alloc|apply pw_below_drewN|apply below_drew1|refine below_set ?_ GE472.out)|exact HB.out)⟩⟩
        ·rw [if_neg c19] at H
         exact absurd H (by simp)
       ·rw [if_neg c18] at H
        have c18b0:(t471 == 0)=false:=beq_eq_false_iff_ne.mpr c18
        have c18b1:(t471 != 0)=true:=bne_iff_ne.mpr c18
        (first|rw [c18b0]|(simp only [i64_w,i32_w];rw [c18b0])|skip)
        (try rw [c18b1])
        simp only [Option.some.injEq,Prod.mk.injEq] at H
        obtain ⟨rfl,rfl⟩:=H
        go_wp2
        go_ret2
        exact ⟨_,ze,by first|exact Kd.S_nil _ _ _ _ _|exact Kd.N_nil _ _ _ _ _|exact Kd.V_nil _ _ _ _ _|exact Kd.Q_nil _ _ _ _ _|exact Kd.R_nil _ _ _ _ _,by repeat (first|(with_reducible first|exact HB.out|apply below_alloc|apply pw_below_drewN|apply below_drew1|refine below_set ?_ GE472.out)|exact HB.out)⟩
      ·rw [if_neg c11] at H
       exact absurd H (by simp)
     ·rw [if_neg c10] at H
      exact absurd H (by simp)
    ·rw [if_neg c9] at H
     have c9b0:decide (x18_1<(t459.length:Int))=false:=decide_eq_false c9
     clear c9
     simp only [Option.some.injEq,Prod.mk.injEq] at H
     obtain ⟨rfl,rfl⟩:=H
     go_wp2
     go_ret2
     exact ⟨_,ze,by (with_reducible repeat (first|apply Kd.S_alloc|apply Kd.S_drewN|apply Kd.S_drew));exact HO_5.out,by repeat (first|(with_reducible first|exact HB.out|apply below_alloc|apply pw_below_drewN|apply below_drew1)|exact HB.out)⟩
 ·rw [if_neg c5] at H
  have c5b0:(t458 == 0)=false:=beq_eq_false_iff_ne.mpr c5
  have c5b1:(t458 != 0)=true:=bne_iff_ne.mpr c5
  (first|rw [c5b0]|(simp only [i64_w,i32_w];rw [c5b0])|skip)
  (try rw [c5b1])
  simp only [Option.some.injEq,Prod.mk.injEq] at H
  obtain ⟨rfl,rfl⟩:=H
  go_wp2
  go_ret2
  exact ⟨_,ze,by first|exact Kd.S_nil _ _ _ _ _|exact Kd.N_nil _ _ _ _ _|exact Kd.V_nil _ _ _ _ _|exact Kd.Q_nil _ _ _ _ _|exact Kd.R_nil _ _ _ _ _,by repeat (first|(with_reducible first|exact HB.out|apply below_alloc|apply pw_below_drewN|apply below_drew1)|exact HB.out)⟩
def slices_Equal_int_int.l0:Nat→List Int→List Int→Int→Int→Option (Bool)
 | 0,_,_,_,_=>none
 | k+1,x0,x1,x12,x13=>if x13<x12 then (if 0≤x13 then (if x13<(x0.length:Int) then (if x13<(x1.length:Int) then (if (rd x0 x13)=(rd x1 x13) then (slices_Equal_int_int.l0 k x0 x1 x12 (wrap64 (x13+1))) else (some false)) else (none)) else (none)) else (none)) else (some true)
def slices_Equal_int_int.f (k:Nat) (l0:List Int) (l1:List Int):Option (Bool):=if (l0.length:Int)=(l1.length:Int) then (slices_Equal_int_int.l0 k l0 l1 (l0.length:Int) 0) else (some false)
theorem slices_Equal_int_int.mono_l:∀ k,(∀ y0 y1 y2 y3,LeO (slices_Equal_int_int.l0 k y0 y1 y2 y3) (slices_Equal_int_int.l0 (k+1) y0 y1 y2 y3))
 | 0=>fun _ _ _ _ r h=>by simp [slices_Equal_int_int.l0] at h
 | k+1=>by
  have ih0:=slices_Equal_int_int.mono_l k
  ·intro y0 y1 y2 y3
   unfold slices_Equal_int_int.l0
   repeat' first
   | (with_reducible exact ih0 _ _ _ _)
   | (with_reducible exact LeO.refl _)
   | (with_reducible exact LeO.none _)
   | (with_reducible refine LeO.ite ?_ ?_)
   | (with_reducible refine LeO.bind ?_ (fun _=>?_))
   | exact LeO.none _
   | refine LeO.ite ?_ ?_
   | refine LeO.bind ?_ (fun _=>?_)
theorem slices_Equal_int_int.mono:∀ a0 a1 k,LeO (slices_Equal_int_int.f k a0 a1) (slices_Equal_int_int.f (k+1) a0 a1):=by
 intro a0 a1 k
 have ih0:=slices_Equal_int_int.mono_l k
 unfold slices_Equal_int_int.f
 repeat' first
   | (with_reducible exact ih0 _ _ _ _)
   | (with_reducible exact LeO.refl _)
   | (with_reducible exact LeO.none _)
   | (with_reducible refine LeO.ite ?_ ?_)
   | (with_reducible refine LeO.bind ?_ (fun _=>?_))
   | exact LeO.none _
   | refine LeO.ite ?_ ?_
   | refine LeO.bind ?_ (fun _=>?_)
set_option maxHeartbeats 8000000 in
set_option maxRecDepth 100000 in
theorem slices_Equal_int_int.calls (k:Nat) (A0:Option Addr) (c0:Nat) (l0:List Int) (A1:Option Addr) (c1:Nat) (l1:List Int) (r:Bool) (w:World) (hr0:Kd.C (Kd.int .i64) w A0 l0.length l0) (hc0:l0.length≤c0) (hr1:Kd.C (Kd.int .i64) w A1 l1.length l1) (hc1:l1.length≤c1) (h:slices_Equal_int_int.f k l0 l1=some r) :
  Calls Try.prog 17 #[.slice A0 l0.length c0,.slice A1 l1.length c1] w fun e w'=>e=.returned (.bool r)∧Drawn0 w w':=by
 have hu3:=Try.underlying3
 have HR0:=zA hr0
 have HC0:=zA hc0
 clear hr0 hc0
 have HR1:=zA hr1
 have HC1:=zA hc1
 clear hr1 hc1
 have H:(if (l0.length:Int)=(l1.length:Int) then (slices_Equal_int_int.l0 k l0 l1 (l0.length:Int) 0) else (some false))=some r:=h
 clear h
 by_cases c3:(l0.length:Int)=(l1.length:Int)
 ·rw [if_pos c3] at H
  have c3b0:((l0.length:Int) == (l1.length:Int))=true:=beq_iff_eq.mpr c3
  have c3b1:((l0.length:Int) != (l1.length:Int))=false:=bne_eq_false_iff_eq.mpr c3
  have c3b2:(l0.length == l1.length)=true:=by first|simpa using c3|(simp at c3 ⊢;omega)
  clear c3
  have H':=zA H
  clear H
  go_enter Try.func17,Try.ntmps17
  go_wp2
  repeat (go_quiet (fail);try go_wp2)
  go_loopg [13] k (fun kq v13 w'=>∃ (x13_1:Int),v13=.int .i64 x13_1∧Aside0 (slices_Equal_int_int.l0 kq l0 l1 (l0.length:Int) x13_1=some r)∧Aside0 (kq≤k)∧Drawn0 w w')
  case atStart=>exact ⟨(0),zT,H',⟨Nat.le_refl _⟩,by repeat (first|exact Drawn0.refl _|apply Drawn0.step)⟩
  case round=>
   clear H'
   try clear c3
   try clear c3b0
   try clear c3b1
   try clear c3b2
   obtain ⟨x13_1,rfl,HA,HK1,⟨m1,rfl⟩⟩:=hrel
   cases gk with
   | zero=>exact absurd HA.out (by simp [slices_Equal_int_int.l0])
   | succ k1=>
    have H:=HA.out
    clear HA
    simp only [slices_Equal_int_int.l0] at H
    by_cases c4:x13_1<(l0.length:Int)
    ·rw [if_pos c4] at H
     have c4b0:decide (x13_1<(l0.length:Int))=true:=decide_eq_true c4
     clear c4
     by_cases c5:0≤x13_1
     ·rw [if_pos c5] at H
      have c5b0:decide (0≤x13_1)=true:=decide_eq_true c5
      clear c5
      by_cases c6:x13_1<(l0.length:Int)
      ·rw [if_pos c6] at H
       have c6b0:decide (x13_1<(l0.length:Int))=true:=decide_eq_true c6
       clear c6
       by_cases c7:x13_1<(l1.length:Int)
       ·rw [if_pos c7] at H
        have c7b0:decide (x13_1<(l1.length:Int))=true:=decide_eq_true c7
        clear c7
        by_cases c8:(rd l0 x13_1)=(rd l1 x13_1)
        ·rw [if_pos c8] at H
         have c8b0:((rd l0 x13_1) == (rd l1 x13_1))=true:=beq_iff_eq.mpr c8
         have c8b1:((rd l0 x13_1) != (rd l1 x13_1))=false:=bne_eq_false_iff_eq.mpr c8
         clear c8
         have H':=zA H
         clear H
         have p476:0≤(x13_1:Int):=of_decide_eq_true zh
         have q476:x13_1<(l0.length:Int):=of_decide_eq_true zh
         obtain ⟨ad476,e476,hx476_0⟩:=Kd.at_int HR0.out x13_1 p476 q476
         cases e476
         replace p476:=eq_true p476
         replace q476:=eq_true q476
         have p477:0≤(x13_1:Int):=of_decide_eq_true zh
         have q477:x13_1<(l1.length:Int):=of_decide_eq_true zh
         obtain ⟨ad477,e477,hx477_0⟩:=Kd.at_int HR1.out x13_1 p477 q477
         cases e477
         replace p477:=eq_true p477
         replace q477:=eq_true q477
         go_wp2
         repeat (go_quiet (fail);try go_wp2)
         go_roundg k1
         case measure=>have:=HK1.out;omega
         case rel=>exact ⟨(wrap64 (x13_1+1)),zT,H',⟨by have:=HK1.out;omega⟩,by repeat (first|exact Drawn0.refl _|apply Drawn0.step)⟩
        ·rw [if_neg c8] at H
         have c8b0:((rd l0 x13_1) == (rd l1 x13_1))=false:=beq_eq_false_iff_ne.mpr c8
         have c8b1:((rd l0 x13_1) != (rd l1 x13_1))=true:=bne_iff_ne.mpr c8
         obtain rfl:=Option.some.inj H
         have p476:0≤(x13_1:Int):=of_decide_eq_true zh
         have q476:x13_1<(l0.length:Int):=of_decide_eq_true zh
         obtain ⟨ad476,e476,hx476_0⟩:=Kd.at_int HR0.out x13_1 p476 q476
         cases e476
         replace p476:=eq_true p476
         replace q476:=eq_true q476
         have p477:0≤(x13_1:Int):=of_decide_eq_true zh
         have q477:x13_1<(l1.length:Int):=of_decide_eq_true zh
         obtain ⟨ad477,e477,hx477_0⟩:=Kd.at_int HR1.out x13_1 p477 q477
         cases e477
         replace p477:=eq_true p477
         replace q477:=eq_true q477
         go_wp2
         repeat (go_quiet (fail);try go_wp2)
         go_ret
         exact ⟨by first|rfl|(simp;done)|(simp [*];done),by repeat (first|exact Drawn0.refl _|apply Drawn0.step)⟩
       ·rw [if_neg c7] at H
        exact absurd H (by simp)
      ·rw [if_neg c6] at H
       exact absurd H (by simp)
     ·rw [if_neg c5] at H
      exact absurd H (by simp)
    ·rw [if_neg c4] at H
     have c4b0:decide (x13_1<(l0.length:Int))=false:=decide_eq_false c4
     clear c4
     obtain rfl:=Option.some.inj H
     go_wp2
     repeat (go_quiet (fail);try go_wp2)
     go_ret
     exact ⟨by first|rfl|(simp;done)|(simp [*];done),by repeat (first|exact Drawn0.refl _|apply Drawn0.step)⟩
 ·rw [if_neg c3] at H
  have c3b0:((l0.length:Int) == (l1.length:Int))=false:=beq_eq_false_iff_ne.mpr c3
  have c3b1:((l0.length:Int) != (l1.length:Int))=true:=bne_iff_ne.mpr c3
  have c3b2:(l0.length == l1.length)=false:=by first|simpa using c3|(simp at c3 ⊢;omega)
  obtain rfl:=Option.some.inj H
  go_enter Try.func17,Try.ntmps17
  go_wp2
  repeat (go_quiet (fail);try go_wp2)
  go_ret
  exact ⟨by first|rfl|(simp;done)|(simp [*];done),by repeat (first|exact Drawn0.refl _|apply Drawn0.step)⟩
def solve_Holds_1_v1.f (k:Nat) (l0_0:List Int) (l0_1:List Int) (a1_0:Int):Option (Bool):=(solve_row.f k l0_0 l0_1 a1_0).bind fun t480=>((slices_Contains_int_int.f k l0_1 t480).bind fun t481=>(some (!t481)))
theorem solve_Holds_1_v1.mono:∀ a0 a1 a2 k,LeO (solve_Holds_1_v1.f k a0 a1 a2) (solve_Holds_1_v1.f (k+1) a0 a1 a2):=by
 intro a0 a1 a2 k
 unfold solve_Holds_1_v1.f
 repeat' first
   | (with_reducible exact slices_Contains_int_int.mono _ _ _)
   | (with_reducible exact solve_row.mono _ _ _ _)
   | (with_reducible exact LeO.refl _)
   | (with_reducible exact LeO.none _)
   | (with_reducible refine LeO.ite ?_ ?_)
   | (with_reducible refine LeO.bind ?_ (fun _=>?_))
   | exact LeO.none _
   | refine LeO.ite ?_ ?_
   | refine LeO.bind ?_ (fun _=>?_)
def solve_Holds_1_v1.T1:Bool×List (List Nat×List Nat):=(true,[([],[]),([0],[0]),([],[]),([],[]),([2,3],[2,3]),([1,4,4],[1,4]),([5],[5]),([6,5,0,1,2,3,4,5,6],[6])])
def solve_Holds_1_v1.B1:List Nat:=[0,1,0,0,12,31,63,127]
theorem solve_Holds_1_v1.tab1:rtab .any (opsOf Try.f75 1)=solve_Holds_1_v1.T1:=by kernel_rfl
theorem solve_Holds_1_v1.bits1:waitsOk solve_Holds_1_v1.T1.2 solve_Holds_1_v1.B1=true:=by kernel_rfl
set_option maxHeartbeats 8000000 in
set_option maxRecDepth 100000 in
theorem solve_Holds_1_v1.calls (k:Nat) (A0_0:Option Addr) (c0_0:Nat) (l0_0:List Int) (A0_1:Option Addr) (c0_1:Nat) (l0_1:List Int) (gp1_0:Nat) (a1_0:Int) (r:Bool) (w:World) (hr0_0:Kd.C (Kd.int .i64) w A0_0 l0_0.length l0_0) (hc0_0:l0_0.length≤c0_0) (hr0_1:Kd.C (Kd.int .i64) w A0_1 l0_1.length l0_1) (hc0_1:l0_1.length≤c0_1) (hb_gp1_0:w.heap[gp1_0]?=some (.cells #[.int .i64 a1_0] 3 (0,0))) (h:solve_Holds_1_v1.f k l0_0 l0_1 a1_0=some r) :
  Calls Try.prog 75 #[.agg #[.slice A0_0 l0_0.length c0_0,.slice A0_1 l0_1.length c0_1],.pointer (some ⟨gp1_0,0,none⟩)] w fun e w'=>e=.returned (.bool r)∧Below w.heap.size w w':=by
 have hu34:=Try.underlying34
 have hu29:=Try.underlying29
 have hu3:=Try.underlying3
 have HR0_0:=zA hr0_0
 have HC0_0:=zA hc0_0
 clear hr0_0 hc0_0
 have HR0_1:=zA hr0_1
 have HC0_1:=zA hc0_1
 clear hr0_1 hc0_1
 have BK478:=zA hb_gp1_0
 clear hb_gp1_0
 have HB:=zA (Below.refl w.heap.size w)
 have H:((solve_row.f k l0_0 l0_1 a1_0).bind fun t480=>((slices_Contains_int_int.f k l0_1 t480).bind fun t481=>(some (!t481))))=some r:=h
 clear h
 replace H:=Option.bind_eq_some_iff.mp H
 obtain ⟨t480,A30,H⟩:=H
 replace H:((slices_Contains_int_int.f k l0_1 t480).bind fun t481=>(some (!t481)))=some r:=H
 have A3:=zA A30
 clear A30
 replace H:=Option.bind_eq_some_iff.mp H
 obtain ⟨t481,A40,H⟩:=H
 replace H:(some (!t481))=some r:=H
 have A4:=zA A40
 clear A40
 obtain rfl:=Option.some.inj H
 go_enter Try.func75,Try.ntmps75
 try go_wp2_with (first|((with_reducible refine gate_dst (N:=2) rfl ?_);refine box_event ?hg (N:=2) ?hd (cs:=#[.slice A0_0 l0_0.length c0_0,.slice A0_1 l0_1.length c0_1]) (t:=34) ?hr ?_;(case hd=>rfl);(case hg=>rfl);(case hr=>first|(go_simp;done)|(go_simp;rfl));intro gb479 hg w5 hbox hb;have BK479:=zA (hbox);have GW479:=zA (zG hg (below_size zB):w.heap.size≤gb479);have GE479:=GW479;have NB478_479:=zA ((zl hg (zk BK478):gp1_0≠gb479));have NB479_478:=zA ((zg hg (zk BK478):gb479≠gp1_0));replace BK478:=zA (zb BK478 hb);replace HB:=zA (below_step zB hb);clear hb hbox hg))
 replace BK478:=zA (blk_drew BK478.out)
 replace BK479:=zA (blk_drew BK479.out)
 replace HB:=zA (below_drew1 HB.out)
 refine start_ (n:=8) (S:=fun w'=>w'.cell? ⟨gb479,0,none⟩=some (.slice A0_0 l0_0.length c0_0)∧w'.cell? ⟨gb479,1,none⟩=some (.slice A0_1 l0_1.length c0_1)∧w'.cell? ⟨gp1_0,0,none⟩=some (.int .i64 a1_0)) (ds:=[]) #[false,false,false,false,false,false,false,false] zK rfl rfl ⟨(blk_cell BK479.out 0).trans rfl,(blk_cell BK479.out 1).trans rfl,(blk_cell BK478.out 0).trans rfl⟩ (fun hHeld=>?_);refine with_tabW solve_Holds_1_v1.tab1 solve_Holds_1_v1.bits1 (fun HT_ HW_=>?_)
 generalize w5.drew=w6 at BK478 BK479 HB hHeld ⊢
 refine pure_ (i:=0) (N:=some 4) (v:=?_) (a':=?_) #[true,false,false,false,false,false,false,false] rfl rfl (any_of HT_.out zK) (fun _ _ _ h=>h) (Or.inl ⟨by rfl,?_⟩) ?_ ?_
 rotate_left
 ·intro w'
  go_simp
  with_reducible rfl
 rotate_left
 ·simp only [Act.put,zi,zs,zt,i64_w,i32_w]
  rfl
 refine take_ (i:=1) (N:=some 5) (v:=?_) (a':=?_) #[true,true,false,false,false,false,false,false] rfl rfl (take_ofW HT_.out HW_.out zK) (fun _ _ _ h=>h) (Or.inl ⟨by rfl,?_⟩) hHeld ?_ ?_
 rotate_left
 ·rintro w' ⟨s0,s1,s2⟩
  go_simp
  with_reducible rfl
 rotate_left
 ·simp only [Act.put,zi,zs,zt,i64_w,i32_w]
  rfl
 refine take_ (i:=2) (N:=some 6) (v:=?_) (a':=?_) #[true,true,true,false,false,false,false,false] rfl rfl (take_ofW HT_.out HW_.out zK) (fun _ _ _ h=>h) (Or.inl ⟨by rfl,?_⟩) hHeld ?_ ?_
 rotate_left
 ·rintro w' ⟨s0,s1,s2⟩
  go_simp
  with_reducible rfl
 rotate_left
 ·simp only [Act.put,zi,zs,zt,i64_w,i32_w]
  rfl
 refine take_ (i:=3) (N:=some 7) (v:=?_) (a':=?_) #[true,true,true,true,false,false,false,false] rfl rfl (take_ofW HT_.out HW_.out zK) (fun _ _ _ h=>h) (Or.inl ⟨by rfl,?_⟩) hHeld ?_ ?_
 rotate_left
 ·rintro w' ⟨s0,s1,s2⟩
  go_simp
  with_reducible rfl
 rotate_left
 ·simp only [Act.put,zi,zs,zt,i64_w,i32_w]
  rfl
 refine one_ (i:=4) (N:=some 8) #[true,true,true,true,true,false,false,false] rfl rfl (one_of HT_.out zK) (by decide) (fun K hK=>?_)
 refine goes_ Try.func76 zK rfl #[.agg #[.slice A0_0 l0_0.length c0_0,.slice A0_1 l0_1.length c0_1],.int .i64 a1_0] (by rfl) rfl rfl zM ?_
 with_reducible refine (solve_row.calls k _ _ l0_0 _ _ l0_1 a1_0 t480 _ ?side1 ?side2 ?side3 ?side4 A3.out).mono ?_
 (case side1=>exact zC (Kd.C_below HR0_0.out HB.out))
 (case side2=>exact HC0_0.out)
 (case side3=>exact zC (Kd.C_below HR0_1.out HB.out))
 (case side4=>exact HC0_1.out)
 rintro e w7 ⟨rfl,hb⟩
 refine ⟨_,rfl,?_⟩
 replace BK478:=zA (zb BK478 hb)
 replace BK479:=zA (zb BK479 hb)
 replace HB:=zA (below_step zB hb)
 (try clear hb)
 (try clear hb2)
 (try clear hk)
 (try clear hi)
 refine hK.out _ _ ⟨(blk_cell BK479.out 0).trans rfl,(blk_cell BK479.out 1).trans rfl,(blk_cell BK478.out 0).trans rfl⟩ (fun hHeld=>?_)
 clear hK K
 refine norm_ (a':=?_) ?_ ?_
 rotate_left
 ·show Act.put _ (some 8) _=_
  simp only [Act.put,zi,zs,zt,i64_w,i32_w]
  rfl
 refine one_ (i:=5) (N:=some 9) #[true,true,true,true,true,true,false,false] rfl rfl (one_of HT_.out zK) (by decide) (fun K hK=>?_)
 refine goes_ Try.func15 zK rfl #[.slice A0_1 l0_1.length c0_1,.int .i64 t480] (by rfl) rfl rfl zM ?_
 with_reducible refine (slices_Contains_int_int.calls k _ _ l0_1 t480 t481 _ ?side1 ?side2 A4.out).mono ?_
 (case side1=>exact zC (Kd.C_below HR0_1.out HB.out))
 (case side2=>exact HC0_1.out)
 rintro e w' ⟨rfl,⟨nd,rfl⟩⟩
 refine ⟨_,rfl,?_⟩
 refine hK.out _ _ ⟨(blk_cell BK479.out 0).trans rfl,(blk_cell BK479.out 1).trans rfl,(blk_cell BK478.out 0).trans rfl⟩ (fun hHeld=>?_)
 clear hK K
 refine norm_ (a':=?_) ?_ ?_
 rotate_left
 ·show Act.put _ (some 9) _=_
  simp only [Act.put,zi,zs,zt,i64_w,i32_w]
  rfl
 refine pure_ (i:=6) (N:=some 10) (v:=?_) (a':=?_) #[true,true,true,true,true,true,true,false] rfl rfl (any_of HT_.out zK) (fun _ _ _ h=>h) (Or.inl ⟨by rfl,?_⟩) ?_ ?_
 rotate_left
 ·intro w'
  go_simp
  with_reducible rfl
 rotate_left
 ·simp only [Act.put,zi,zs,zt,i64_w,i32_w]
  rfl
 refine pure_ (i:=7) (N:=some 3) (v:=?_) (a':=?_) #[true,true,true,true,true,true,true,true] rfl rfl (any_of HT_.out zK) (fun _ _ _ h=>h) (Or.inl ⟨by rfl,?_⟩) ?_ ?_
 rotate_left
 ·intro w'
  go_simp
  with_reducible rfl
 rotate_left
 ·simp only [Act.put,zi,zs,zt,i64_w,i32_w]
  rfl
 refine done_ (done_of HT_.out zK) ?_
 try go_wp2
 go_ret
 exact ⟨ze,by repeat (first|(with_reducible first|exact HB.out|apply below_alloc|apply pw_below_drewN|apply below_drew1|refine below_set ?_ GE478.out|refine below_set ?_ GE479.out)|exact HB.out)⟩
def api_Table_solve_Holds_1_v2.l0:Nat→List (S34)→Int→Int→Int→Option (Int)
 | 0,_,_,_,_=>none
 | k+1,x0,x7,x8,x483000=>if x8<x7 then (if 0≤x8 then (if x8<(x0.length:Int) then ((solve_Holds_1_v1.f k ((rd_T34 x0 x8).f0) ((rd_T34 x0 x8).f1) x483000).bind fun t484=>(if t484=true then (some x8) else (api_Table_solve_Holds_1_v2.l0 k x0 x7 (wrap64 (x8+1)) x483000))) else (none)) else (none)) else (some (-1))
def api_Table_solve_Holds_1_v2.f (k:Nat) (l0:List (S34)) (a1_0:Int):Option (Int):=api_Table_solve_Holds_1_v2.l0 k l0 (l0.length:Int) 0 a1_0
theorem api_Table_solve_Holds_1_v2.mono_l:∀ k,(∀ y0 y1 y2 y3,LeO (api_Table_solve_Holds_1_v2.l0 k y0 y1 y2 y3) (api_Table_solve_Holds_1_v2.l0 (k+1) y0 y1 y2 y3))
 | 0=>fun _ _ _ _ r h=>by simp [api_Table_solve_Holds_1_v2.l0] at h
 | k+1=>by
  have ih0:=api_Table_solve_Holds_1_v2.mono_l k
  ·intro y0 y1 y2 y3
   unfold api_Table_solve_Holds_1_v2.l0
   repeat' first
   | (with_reducible exact ih0 _ _ _ _)
   | (with_reducible exact solve_Holds_1_v1.mono _ _ _ _)
   | (with_reducible exact LeO.refl _)
   | (with_reducible exact LeO.none _)
   | (with_reducible refine LeO.ite ?_ ?_)
   | (with_reducible refine LeO.bind ?_ (fun _=>?_))
   | exact LeO.none _
   | refine LeO.ite ?_ ?_
   | refine LeO.bind ?_ (fun _=>?_)
theorem api_Table_solve_Holds_1_v2.mono:∀ a0 a1 k,LeO (api_Table_solve_Holds_1_v2.f k a0 a1) (api_Table_solve_Holds_1_v2.f (k+1) a0 a1):=by
 intro a0 a1 k
 have ih0:=api_Table_solve_Holds_1_v2.mono_l k
 unfold api_Table_solve_Holds_1_v2.f
 repeat' first
   | (with_reducible exact ih0 _ _ _ _)
   | (with_reducible exact solve_Holds_1_v1.mono _ _ _ _)
   | (with_reducible exact LeO.refl _)
   | (with_reducible exact LeO.none _)
   | (with_reducible refine LeO.ite ?_ ?_)
   | (with_reducible refine LeO.bind ?_ (fun _=>?_))
   | exact LeO.none _
   | refine LeO.ite ?_ ?_
   | refine LeO.bind ?_ (fun _=>?_)
set_option maxHeartbeats 8000000 in
set_option maxRecDepth 100000 in
theorem api_Table_solve_Holds_1_v2.calls (k:Nat) (A0:Option Addr) (c0:Nat) (l0:List (S34)) (gp1_0:Nat) (a1_0:Int) (r:Int) (w:World) (hr0:Kd.C k34 w A0 l0.length l0) (hc0:l0.length≤c0) (hb_gp1_0:w.heap[gp1_0]?=some (.cells #[.int .i64 a1_0] 3 (0,0))) (h:api_Table_solve_Holds_1_v2.f k l0 a1_0=some r) :
  Calls Try.prog 83 #[.slice A0 l0.length c0,.func (.func 75) #[] #[.pointer (some ⟨gp1_0,0,none⟩)]] w fun e w'=>e=.returned (.int .i64 r)∧Below w.heap.size w w':=by
 have hu34:=Try.underlying34
 have HR0:=zA hr0
 have HC0:=zA hc0
 clear hr0 hc0
 have BK482:=zA hb_gp1_0
 clear hb_gp1_0
 have HB:=zA (Below.refl w.heap.size w)
 have H:(api_Table_solve_Holds_1_v2.l0 k l0 (l0.length:Int) 0 a1_0)=some r:=h
 clear h
 have H':=zA H
 clear H
 go_enter Try.func83,Try.ntmps83
 go_wp2
 go_loopg [8] k (fun kq v8 w'=>∃ (x8_1:Int),v8=.int .i64 x8_1∧Aside0 (api_Table_solve_Holds_1_v2.l0 kq l0 (l0.length:Int) x8_1 a1_0=some r)∧Aside0 (kq≤k)∧Aside0 (w'.heap[gp1_0]?=some (.cells #[.int .i64 a1_0] 3 (0,0)))∧Aside0 (Below w.heap.size w w'))
 case atStart=>exact ⟨(0),zT,H',⟨Nat.le_refl _⟩,⟨by refine zj ?_;exact BK482.out⟩,⟨by repeat (first|(with_reducible first|exact HB.out|apply below_alloc|apply pw_below_drewN|apply below_drew1|refine below_set ?_ GE482.out)|exact HB.out)⟩⟩
 case round=>
  clear H'
  obtain ⟨x8_1,rfl,HA,HK1,BK482,HB⟩:=hrel
  cases gk with
  | zero=>exact absurd HA.out (by simp [api_Table_solve_Holds_1_v2.l0])
  | succ k1=>
   have H:=HA.out
   clear HA
   simp only [api_Table_solve_Holds_1_v2.l0] at H
   by_cases c3:x8_1<(l0.length:Int)
   ·rw [if_pos c3] at H
    have c3b0:decide (x8_1<(l0.length:Int))=true:=decide_eq_true c3
    clear c3
    by_cases c4:0≤x8_1
    ·rw [if_pos c4] at H
     have c4b0:decide (0≤x8_1)=true:=decide_eq_true c4
     clear c4
     by_cases c5:x8_1<(l0.length:Int)
     ·rw [if_pos c5] at H
      have c5b0:decide (x8_1<(l0.length:Int))=true:=decide_eq_true c5
      clear c5
      replace H:=Option.bind_eq_some_iff.mp H
      obtain ⟨t484,A60,H⟩:=H
      replace H:(if t484=true then (some x8_1) else (api_Table_solve_Holds_1_v2.l0 k1 l0 (l0.length:Int) (wrap64 (x8_1+1)) a1_0))=some r:=H
      have A6:=zA A60
      clear A60
      have HC7:=zA H
      clear H
      have p483:0≤(x8_1:Int):=of_decide_eq_true zh
      have q483:x8_1<(l0.length:Int):=of_decide_eq_true zh
      obtain ⟨ad483,A483_0,c483_0,A483_1,c483_1,e483,hx483_0,hx483_1,hl483_0,hi483_0,hl483_1,hi483_1⟩:=at_T34 HR0.out x8_1 p483 q483
      cases e483
      replace hx483_0:=(HB.out.cell (World.block_lt_of_cell? w _ hx483_0)).trans hx483_0
      replace hx483_1:=(HB.out.cell (World.block_lt_of_cell? w _ hx483_1)).trans hx483_1
      have HR483_0:=zA hi483_0
      have HC483_0:=zA hl483_0
      clear hi483_0 hl483_0
      have HR483_1:=zA hi483_1
      have HC483_1:=zA hl483_1
      clear hi483_1 hl483_1
      replace p483:=eq_true p483
      replace q483:=eq_true q483
      go_upto_if 16 with (first|(go_at_call 75;(with_reducible refine (solve_Holds_1_v1.calls k1 _ _ ((rd_T34 l0 x8_1).f0) _ _ ((rd_T34 l0 x8_1).f1) gp1_0 a1_0 t484 _ ?side1 ?side2 ?side3 ?side4 ?side5 A6.out).mono ?_);(case side1=>exact zC (Kd.C_below HR483_0.out HB.out));(case side2=>exact HC483_0.out);(case side3=>exact zC (Kd.C_below HR483_1.out HB.out));(case side4=>exact HC483_1.out);(case side5=>refine zj ?_;exact BK482.out);rintro e w8 ⟨rfl,hb⟩;replace BK482:=zA (zb BK482 hb);replace HB:=zA (below_step zB hb);(try clear hb);(try clear hb2);(try clear hk);(try clear hi)))
      (try simp only [Act.put,zi,zs,zt])
      have H:=HC7.out
      clear HC7
      by_cases c9:t484=true
      ·subst c9
       have H1:(some x8_1)=some r:=by rw [if_pos rfl] at H;exact H
       clear H
       have H:=H1
       clear H1
       obtain rfl:=Option.some.inj H
       go_wp2
       go_ret
       exact ⟨ze,by repeat (first|(with_reducible first|exact HB.out|apply below_alloc|apply pw_below_drewN|apply below_drew1|refine below_set ?_ GE482.out)|exact HB.out)⟩
      ·replace c9:=Bool.eq_false_iff.mpr c9
       subst c9
       have H1:(api_Table_solve_Holds_1_v2.l0 k1 l0 (l0.length:Int) (wrap64 (x8_1+1)) a1_0)=some r:=by rw [if_neg (show ¬ (false=true) by decide)] at H;exact H
       clear H
       have H:=H1
       clear H1
       have H':=zA H
       clear H
       go_wp2
       go_roundg k1
       case measure=>have:=HK1.out;omega
       case rel=>exact ⟨(wrap64 (x8_1+1)),zT,H',⟨by have:=HK1.out;omega⟩,⟨by refine zj ?_;exact BK482.out⟩,⟨by repeat (first|(with_reducible first|exact HB.out|apply below_alloc|apply pw_below_drewN|apply below_drew1|refine below_set ?_ GE482.out)|exact HB.out)⟩⟩
     ·rw [if_neg c5] at H
      exact absurd H (by simp)
    ·rw [if_neg c4] at H
     exact absurd H (by simp)
   ·rw [if_neg c3] at H
    have c3b0:decide (x8_1<(l0.length:Int))=false:=decide_eq_false c3
    clear c3
    obtain rfl:=Option.some.inj H
    go_wp2
    go_ret
    exact ⟨ze,by repeat (first|(with_reducible first|exact HB.out|apply below_alloc|apply pw_below_drewN|apply below_drew1|refine below_set ?_ GE482.out)|exact HB.out)⟩
def api_Table_solve_Holds_1.f (k:Nat) (l0:List (S34)) (a1_0:Int):Option (Bool):=(api_Table_solve_Holds_1_v2.f k l0 a1_0).bind fun t486=>(some (decide (t486≥0)))
theorem api_Table_solve_Holds_1.mono:∀ a0 a1 k,LeO (api_Table_solve_Holds_1.f k a0 a1) (api_Table_solve_Holds_1.f (k+1) a0 a1):=by
 intro a0 a1 k
 unfold api_Table_solve_Holds_1.f
 repeat' first
   | (with_reducible exact api_Table_solve_Holds_1_v2.mono _ _ _)
   | (with_reducible exact LeO.refl _)
   | (with_reducible exact LeO.none _)
   | (with_reducible refine LeO.ite ?_ ?_)
   | (with_reducible refine LeO.bind ?_ (fun _=>?_))
   | exact LeO.none _
   | refine LeO.ite ?_ ?_
   | refine LeO.bind ?_ (fun _=>?_)
set_option maxHeartbeats 8000000 in
set_option maxRecDepth 100000 in
theorem api_Table_solve_Holds_1.calls (k:Nat) (A0:Option Addr) (c0:Nat) (l0:List (S34)) (gp1_0:Nat) (a1_0:Int) (r:Bool) (w:World) (hr0:Kd.C k34 w A0 l0.length l0) (hc0:l0.length≤c0) (hb_gp1_0:w.heap[gp1_0]?=some (.cells #[.int .i64 a1_0] 3 (0,0))) (h:api_Table_solve_Holds_1.f k l0 a1_0=some r) :
  Calls Try.prog 74 #[.slice A0 l0.length c0,.func (.func 75) #[] #[.pointer (some ⟨gp1_0,0,none⟩)]] w fun e w'=>e=.returned (.bool r)∧Below w.heap.size w w':=by
 have HR0:=zA hr0
 have HC0:=zA hc0
 clear hr0 hc0
 have BK485:=zA hb_gp1_0
 clear hb_gp1_0
 have HB:=zA (Below.refl w.heap.size w)
 have H:((api_Table_solve_Holds_1_v2.f k l0 a1_0).bind fun t486=>(some (decide (t486≥0))))=some r:=h
 clear h
 replace H:=Option.bind_eq_some_iff.mp H
 obtain ⟨t486,A30,H⟩:=H
 replace H:(some (decide (t486≥0)))=some r:=H
 have A3:=zA A30
 clear A30
 obtain rfl:=Option.some.inj H
 go_enter Try.func74,Try.ntmps74
 go_wp2_with (first|((with_reducible refine gate_callee (f:=83) rfl ?_);refine goesL_ (some 7) rfl rfl Try.func83 zK rfl #[.slice A0 l0.length c0,.func (.func 75) #[] #[.pointer (some ⟨gp1_0,0,none⟩)]] rfl zM ?_;(with_reducible refine (api_Table_solve_Holds_1_v2.calls k _ _ l0 gp1_0 a1_0 t486 _ ?side1 ?side2 ?side3 A3.out).mono ?_);(case side1=>repeat (first|exact HR0.out|(with_reducible refine Kd.C_alloc ?_ _)|(with_reducible refine Kd.C_drewN ?_ _)|(with_reducible refine Kd.C_drew ?_)));(case side2=>exact HC0.out);(case side3=>refine zj ?_;exact BK485.out);rintro e w4 ⟨rfl,hb⟩;refine ⟨_,rfl,?_⟩;replace BK485:=zA (zb BK485 hb);replace HB:=zA (below_step zB hb);(try clear hb);(try clear hb2);(try clear hk);(try clear hi)))
 go_ret
 exact ⟨ze,by repeat (first|(with_reducible first|exact HB.out|apply below_alloc|apply pw_below_drewN|apply below_drew1|refine below_set ?_ GE485.out)|exact HB.out)⟩
def solve_Holds.l0:Nat→List (S34)→Int→List Int→Int→Int→Int→Option (Bool)
 | 0,_,_,_,_,_,_=>none
 | k+1,x0,x5,x20,x21,x22,x488000=>if x22<x21 then (if 0≤x22 then (if x22<(x20.length:Int) then (if 0≤(rd x20 x22) then (solve_Holds.l0 k x0 (Go.bits .or .i64 x5 (shl .i64 1 (rd x20 x22))) x20 x21 (wrap64 (x22+1)) x488000) else (none)) else (none)) else (none)) else (if (Go.bits .andNot .i64 x488000 x5)=0 then ((api_Table_solve_Holds_1.f k x0 x488000).bind fun t493=>(some (!t493))) else (some false))
def solve_Holds.f (k:Nat) (l0:List (S34)) (a1:Int):Option (Bool):=(solve_valid.f k l0).bind fun t488=>(if t488=0 then (if a1<0 then (some false) else (if a1≥16777216 then (some false) else ((solve_occurring.f k l0).bind fun t489=>(solve_Holds.l0 k l0 0 t489 (t489.length:Int) 0 a1)))) else (some false))
theorem solve_Holds.mono_l:∀ k,(∀ y0 y1 y2 y3 y4 y5,LeO (solve_Holds.l0 k y0 y1 y2 y3 y4 y5) (solve_Holds.l0 (k+1) y0 y1 y2 y3 y4 y5))
 | 0=>fun _ _ _ _ _ _ r h=>by simp [solve_Holds.l0] at h
 | k+1=>by
  have ih0:=solve_Holds.mono_l k
  ·intro y0 y1 y2 y3 y4 y5
   unfold solve_Holds.l0
   repeat' first
   | (with_reducible exact ih0 _ _ _ _ _ _)
   | (with_reducible exact api_Table_solve_Holds_1.mono _ _ _)
   | (with_reducible exact solve_occurring.mono _ _)
   | (with_reducible exact solve_valid.mono _ _)
   | (with_reducible exact LeO.refl _)
   | (with_reducible exact LeO.none _)
   | (with_reducible refine LeO.ite ?_ ?_)
   | (with_reducible refine LeO.bind ?_ (fun _=>?_))
   | exact LeO.none _
   | refine LeO.ite ?_ ?_
   | refine LeO.bind ?_ (fun _=>?_)
theorem solve_Holds.mono:∀ a0 a1 k,LeO (solve_Holds.f k a0 a1) (solve_Holds.f (k+1) a0 a1):=by
 intro a0 a1 k
 have ih0:=solve_Holds.mono_l k
 unfold solve_Holds.f
 repeat' first
   | (with_reducible exact ih0 _ _ _ _ _ _)
   | (with_reducible exact api_Table_solve_Holds_1.mono _ _ _)
   | (with_reducible exact solve_occurring.mono _ _)
   | (with_reducible exact solve_valid.mono _ _)
   | (with_reducible exact LeO.refl _)
   | (with_reducible exact LeO.none _)
   | (with_reducible refine LeO.ite ?_ ?_)
   | (with_reducible refine LeO.bind ?_ (fun _=>?_))
   | exact LeO.none _
   | refine LeO.ite ?_ ?_
   | refine LeO.bind ?_ (fun _=>?_)
set_option maxHeartbeats 8000000 in
set_option maxRecDepth 100000 in
theorem solve_Holds.calls (k:Nat) (A0:Option Addr) (c0:Nat) (l0:List (S34)) (a1:Int) (r:Bool) (w:World) (hr0:Kd.C k34 w A0 l0.length l0) (hc0:l0.length≤c0) (h:solve_Holds.f k l0 a1=some r) :
  Calls Try.prog 64 #[.slice A0 l0.length c0,.int .i64 a1] w fun e w'=>e=.returned (.bool r)∧Below w.heap.size w w':=by
 have hu3:=Try.underlying3
 have HR0:=zA hr0
 have HC0:=zA hc0
 clear hr0 hc0
 have HB:=zA (Below.refl w.heap.size w)
 have H:((solve_valid.f k l0).bind fun t488=>(if t488=0 then (if a1<0 then (some false) else (if a1≥16777216 then (some false) else ((solve_occurring.f k l0).bind fun t489=>(solve_Holds.l0 k l0 0 t489 (t489.length:Int) 0 a1)))) else (some false)))=some r:=h
 clear h
 have HC3:=zA H
 clear H
 go_enter Try.func64,Try.ntmps64
 go_upto_region 1 with (first|((with_reducible refine gate_dst (N:=3) rfl ?_);refine box_event ?hg (N:=3) ?hd (cs:=#[.int .i64 a1]) (t:=3) ?hr ?_;(case hd=>rfl);(case hg=>rfl);(case hr=>first|(go_simp;done)|(go_simp;rfl));intro gb487 hg w4 hbox hb;have BK487:=zA (hbox);have GW487:=zA (zG hg (below_size zB):w.heap.size≤gb487);have GE487:=GW487;replace HB:=zA (below_step zB hb);clear hb hbox hg))
 (try simp only [Act.put,zi,zs,zt])
 have H:=HC3.out
 clear HC3
 replace H:=Option.bind_eq_some_iff.mp H
 obtain ⟨t488,A50,H⟩:=H
 replace H:(if t488=0 then (if a1<0 then (some false) else (if a1≥16777216 then (some false) else ((solve_occurring.f k l0).bind fun t489=>(solve_Holds.l0 k l0 0 t489 (t489.length:Int) 0 a1)))) else (some false))=some r:=H
 have A5:=zA A50
 clear A50
 by_cases c6:t488=0
 ·rw [if_pos c6] at H
  have c6b0:(t488 == 0)=true:=beq_iff_eq.mpr c6
  have c6b1:(t488 != 0)=false:=bne_eq_false_iff_eq.mpr c6
  clear c6
  (first|rw [c6b0]|(simp only [i64_w,i32_w];rw [c6b0])|skip)
  (try rw [c6b1])
  by_cases c7:a1<0
  ·rw [if_pos c7] at H
   have c7b0:decide (a1<0)=true:=decide_eq_true c7
   clear c7
   obtain rfl:=Option.some.inj H
   go_wp2_with (first|((with_reducible refine gate_callee (f:=50) rfl ?_);refine goesL_ (some 9) rfl rfl Try.func50 zK rfl #[.slice A0 l0.length c0] rfl zM ?_;(with_reducible refine (solve_valid.calls k _ _ l0 t488 _ ?side1 ?side2 A5.out).mono ?_);(case side1=>exact zC (Kd.C_below HR0.out HB.out));(case side2=>exact HC0.out);rintro e w8 ⟨rfl,hb⟩;refine ⟨_,rfl,?_⟩;replace BK487:=zA (zb BK487 hb);replace HB:=zA (below_step zB hb);(try clear hb);(try clear hb2);(try clear hk);(try clear hi);have hcz9_0:w8.cell? ⟨gb487,0,none⟩=some (.int .i64 a1):=(blk_cell BK487.out 0).trans rfl;have hfz9_0:=blk_frozen BK487.out 0))
   go_ret
   exact ⟨ze,by repeat (first|(with_reducible first|exact HB.out|apply below_alloc|apply pw_below_drewN|apply below_drew1|refine below_set ?_ GE487.out)|exact HB.out)⟩
  ·rw [if_neg c7] at H
   have c7b0:decide (a1<0)=false:=decide_eq_false c7
   clear c7
   have HC10:=zA H
   clear H
   go_upto_if 18 with (first|((with_reducible refine gate_callee (f:=50) rfl ?_);refine goesL_ (some 9) rfl rfl Try.func50 zK rfl #[.slice A0 l0.length c0] rfl zM ?_;(with_reducible refine (solve_valid.calls k _ _ l0 t488 _ ?side1 ?side2 A5.out).mono ?_);(case side1=>exact zC (Kd.C_below HR0.out HB.out));(case side2=>exact HC0.out);rintro e w11 ⟨rfl,hb⟩;refine ⟨_,rfl,?_⟩;replace BK487:=zA (zb BK487 hb);replace HB:=zA (below_step zB hb);(try clear hb);(try clear hb2);(try clear hk);(try clear hi);have hcz12_0:w11.cell? ⟨gb487,0,none⟩=some (.int .i64 a1):=(blk_cell BK487.out 0).trans rfl;have hfz12_0:=blk_frozen BK487.out 0))
   (try simp only [Act.put,zi,zs,zt])
   have H:=HC10.out
   clear HC10
   by_cases c13:a1≥16777216
   ·rw [if_pos c13] at H
    have c13b0:decide (16777216≤a1)=true:=decide_eq_true c13
    clear c13
    (first|rw [c13b0]|(simp only [i64_w,i32_w];rw [c13b0])|skip)
    obtain rfl:=Option.some.inj H
    go_wp2
    go_ret
    exact ⟨ze,by repeat (first|(with_reducible first|exact HB.out|apply below_alloc|apply pw_below_drewN|apply below_drew1|refine below_set ?_ GE487.out)|exact HB.out)⟩
   ·rw [if_neg c13] at H
    have c13b0:decide (16777216≤a1)=false:=decide_eq_false c13
    clear c13
    (first|rw [c13b0]|(simp only [i64_w,i32_w];rw [c13b0])|skip)
    replace H:=Option.bind_eq_some_iff.mp H
    obtain ⟨t489,A140,H⟩:=H
    replace H:(solve_Holds.l0 k l0 0 t489 (t489.length:Int) 0 a1)=some r:=H
    have A14:=zA A140
    clear A140
    have H':=zA H
    clear H
    go_wp2_with (first|((with_reducible refine gate_callee (f:=51) rfl ?_);refine goesL_ (some 20) rfl rfl Try.func51 zK rfl #[.slice A0 l0.length c0] rfl zM ?_;(with_reducible refine (solve_occurring.calls k _ _ l0 t489 _ ?side1 ?side2 A14.out).mono ?_);(case side1=>exact zC (Kd.C_below HR0.out HB.out));(case side2=>exact HC0.out);rintro e w15 ⟨v490,rfl,ho0,hb⟩;refine ⟨_,rfl,?_⟩;have HO491:=zA (Kd.R_lower (Kd.R_newB ho0 (g:=gb487) (o:=.cells #[.int .i64 a1] 3 (0,0)) (zk BK487)) (below_size zB));replace BK487:=zA (zb BK487 hb);replace HB:=zA (below_step zB hb);(try clear hb);(try clear hb2);(try clear hk);(try clear hi);(try clear ho0);obtain ⟨Ao16,co16,eo16⟩:=Kd.R_slice HO491.out;subst eo16))
    go_loopg [5,22] k (fun kq v5 v22 w'=>∃ (x5_1:Int) (x22_1:Int),v5=.int .i64 x5_1∧v22=.int .i64 x22_1∧Aside0 (solve_Holds.l0 kq l0 x5_1 t489 (t489.length:Int) x22_1 a1=some r)∧Aside0 (kq≤k)∧Aside0 (Kd.R (Kd.int .i64) 3 w' w.heap.size (fun k_=>k_≠gb487) (.slice Ao16 t489.length co16) t489)∧Aside0 (w'.heap[gb487]?=some (.cells #[.int .i64 a1] 3 (0,0)))∧Aside0 (Below w.heap.size w w'))
    case atStart=>exact ⟨(0),(0),zT,zT,H',⟨Nat.le_refl _⟩,⟨by refine zr ?_;exact Kd.R_mono HO491.out (fun _ hk=>hk.2)⟩,⟨by refine zj ?_;exact BK487.out⟩,⟨by repeat (first|(with_reducible first|exact HB.out|apply below_alloc|apply pw_below_drewN|apply below_drew1|refine below_set ?_ GE487.out)|exact HB.out)⟩⟩
    case round=>
     clear H'
     try clear c6
     try clear c6b0
     try clear c6b1
     try clear c7
     try clear c7b0
     try clear c13
     try clear c13b0
     try clear hcz12_0
     try clear hfz12_0
     obtain ⟨x5_1,x22_1,rfl,rfl,HA,HK1,HO_20,BK487,HB⟩:=hrel
     cases gk with
     | zero=>exact absurd HA.out (by simp [solve_Holds.l0])
     | succ k1=>
      have H:=HA.out
      clear HA
      simp only [solve_Holds.l0] at H
      by_cases c17:x22_1<(t489.length:Int)
      ·rw [if_pos c17] at H
       have c17b0:decide (x22_1<(t489.length:Int))=true:=decide_eq_true c17
       clear c17
       by_cases c18:0≤x22_1
       ·rw [if_pos c18] at H
        have c18b0:decide (0≤x22_1)=true:=decide_eq_true c18
        clear c18
        by_cases c19:x22_1<(t489.length:Int)
        ·rw [if_pos c19] at H
         have c19b0:decide (x22_1<(t489.length:Int))=true:=decide_eq_true c19
         clear c19
         by_cases c20:0≤(rd t489 x22_1)
         ·rw [if_pos c20] at H
          have c20b0:=eq_true c20
          have c20b1:decide (0≤(rd t489 x22_1))=true:=decide_eq_true c20
          clear c20
          obtain ⟨ji21,hji21⟩:∃ j_:Int,(shl .i64 1 (rd t489 x22_1))=j_:=⟨_,rfl⟩
          replace H:(solve_Holds.l0 k1 l0 (Go.bits .or .i64 x5_1 (ji21)) t489 (t489.length:Int) (wrap64 (x22_1+1)) a1)=some r:=by first|(rw [hji21] at H;exact H)|(simp only [hji21] at H ⊢;exact H)
          have hji21_:(IntKind.i64.wrap (1 * 2 ^ min (rd t489 x22_1).toNat 64))=ji21:=hji21
          have hji21z:(rd t489 x22_1)≤64→(IntKind.i64.wrap (1 * 2 ^ (rd t489 x22_1).toNat))=ji21:=shl_small hji21
          have hji21u:(IntKind.i64.wrap (2 ^ min (rd t489 x22_1).toNat 64))=ji21:=by have h_:=hji21_;rw [Int.one_mul] at h_;exact h_
          have hji21v:(rd t489 x22_1)≤64→(IntKind.i64.wrap (2 ^ (rd t489 x22_1).toNat))=ji21:=fun hle_=>by have h_:=hji21z hle_;rw [Int.one_mul] at h_;exact h_
          have hji21y:(wrap64 (1 * 2 ^ min (rd t489 x22_1).toNat 64))=ji21:=(i64_w _).symm.trans hji21_
          have hji21x:(rd t489 x22_1)≤64→(wrap64 (1 * 2 ^ (rd t489 x22_1).toNat))=ji21:=fun h_=>(i64_w _).symm.trans (hji21z h_)
          have H':=zA H
          clear H
          have p492:0≤(x22_1:Int):=of_decide_eq_true zh
          have q492:x22_1<(t489.length:Int):=of_decide_eq_true zh
          obtain ⟨ad492,e492,hx492_0⟩:=Kd.at_int (Kd.R_reads' HO_20.out).2.2 x22_1 p492 q492
          cases e492
          replace p492:=eq_true p492
          replace q492:=eq_true q492
          go_wp2
          go_roundg k1
          case measure=>have:=HK1.out;omega
          case rel=>exact ⟨(Go.bits .or .i64 x5_1 (ji21)),(wrap64 (x22_1+1)),(by first|rfl|(simp;done)|(simp only [← hji21] <;> (first|rfl|simp))|(simp [*];done)),zT,H',⟨by have:=HK1.out;omega⟩,⟨by refine zr ?_;exact HO_20.out⟩,⟨by refine zj ?_;exact BK487.out⟩,⟨by repeat (first|(with_reducible first|exact HB.out|apply below_alloc|apply pw_below_drewN|apply below_drew1|refine below_set ?_ GE487.out)|exact HB.out)⟩⟩
         ·rw [if_neg c20] at H
          exact absurd H (by simp)
        ·rw [if_neg c19] at H
         exact absurd H (by simp)
       ·rw [if_neg c18] at H
        exact absurd H (by simp)
      ·rw [if_neg c17] at H
       have c17b0:decide (x22_1<(t489.length:Int))=false:=decide_eq_false c17
       clear c17
       by_cases c22:(Go.bits .andNot .i64 a1 x5_1)=0
       ·rw [if_pos c22] at H
        have c22b0:((Go.bits .andNot .i64 a1 x5_1) == 0)=true:=beq_iff_eq.mpr c22
        have c22b1:((Go.bits .andNot .i64 a1 x5_1) != 0)=false:=bne_eq_false_iff_eq.mpr c22
        clear c22
        replace H:=Option.bind_eq_some_iff.mp H
        obtain ⟨t493,A230,H⟩:=H
        replace H:(some (!t493))=some r:=H
        have A23:=zA A230
        clear A230
        obtain rfl:=Option.some.inj H
        have hcz24_0:wr.cell? ⟨gb487,0,none⟩=some (.int .i64 a1):=(blk_cell BK487.out 0).trans rfl
        have hfz24_0:=blk_frozen BK487.out 0
        go_wp2_with (first|(go_at_call 74;(with_reducible refine (api_Table_solve_Holds_1.calls k1 _ _ l0 gb487 a1 t493 _ ?side1 ?side2 ?side3 A23.out).mono ?_);(case side1=>exact zC (Kd.C_below HR0.out HB.out));(case side2=>exact HC0.out);(case side3=>refine zj ?_;exact BK487.out);rintro e w25 ⟨rfl,hb⟩;replace HO_20:=zA (Kd.R_below (zR HO_20) hb);replace BK487:=zA (zb BK487 hb);replace HB:=zA (below_step zB hb);(try clear hb);(try clear hb2);(try clear hk);(try clear hi)))
        go_ret
        exact ⟨ze,by repeat (first|(with_reducible first|exact HB.out|apply below_alloc|apply pw_below_drewN|apply below_drew1|refine below_set ?_ GE487.out)|exact HB.out)⟩
       ·rw [if_neg c22] at H
        have c22b0:((Go.bits .andNot .i64 a1 x5_1) == 0)=false:=beq_eq_false_iff_ne.mpr c22
        have c22b1:((Go.bits .andNot .i64 a1 x5_1) != 0)=true:=bne_iff_ne.mpr c22
        obtain rfl:=Option.some.inj H
        have hcz26_0:wr.cell? ⟨gb487,0,none⟩=some (.int .i64 a1):=(blk_cell BK487.out 0).trans rfl
        have hfz26_0:=blk_frozen BK487.out 0
        go_wp2
        go_ret
        exact ⟨ze,by repeat (first|(with_reducible first|exact HB.out|apply below_alloc|apply pw_below_drewN|apply below_drew1|refine below_set ?_ GE487.out)|exact HB.out)⟩
 ·rw [if_neg c6] at H
  have c6b0:(t488 == 0)=false:=beq_eq_false_iff_ne.mpr c6
  have c6b1:(t488 != 0)=true:=bne_iff_ne.mpr c6
  (first|rw [c6b0]|(simp only [i64_w,i32_w];rw [c6b0])|skip)
  (try rw [c6b1])
  obtain rfl:=Option.some.inj H
  go_wp2_with (first|((with_reducible refine gate_callee (f:=50) rfl ?_);refine goesL_ (some 9) rfl rfl Try.func50 zK rfl #[.slice A0 l0.length c0] rfl zM ?_;(with_reducible refine (solve_valid.calls k _ _ l0 t488 _ ?side1 ?side2 A5.out).mono ?_);(case side1=>exact zC (Kd.C_below HR0.out HB.out));(case side2=>exact HC0.out);rintro e w27 ⟨rfl,hb⟩;refine ⟨_,rfl,?_⟩;replace BK487:=zA (zb BK487 hb);replace HB:=zA (below_step zB hb);(try clear hb);(try clear hb2);(try clear hk);(try clear hi)))
  go_ret
  exact ⟨ze,by repeat (first|(with_reducible first|exact HB.out|apply below_alloc|apply pw_below_drewN|apply below_drew1|refine below_set ?_ GE487.out)|exact HB.out)⟩
def slices_Index_bool_bool.l0:Nat→List Bool→Bool→Int→Int→Option (Int)
 | 0,_,_,_,_=>none
 | k+1,x0,x1,x7,x8=>if x8<x7 then (if 0≤x8 then (if x8<(x0.length:Int) then (if (x1 == (rdOf false x0 x8))=true then (some x8) else (slices_Index_bool_bool.l0 k x0 x1 x7 (wrap64 (x8+1)))) else (none)) else (none)) else (some (-1))
def slices_Index_bool_bool.f (k:Nat) (l0:List Bool) (a1:Bool):Option (Int):=slices_Index_bool_bool.l0 k l0 a1 (l0.length:Int) 0
theorem slices_Index_bool_bool.mono_l:∀ k,(∀ y0 y1 y2 y3,LeO (slices_Index_bool_bool.l0 k y0 y1 y2 y3) (slices_Index_bool_bool.l0 (k+1) y0 y1 y2 y3))
 | 0=>fun _ _ _ _ r h=>by simp [slices_Index_bool_bool.l0] at h
 | k+1=>by
  have ih0:=slices_Index_bool_bool.mono_l k
  ·intro y0 y1 y2 y3
   unfold slices_Index_bool_bool.l0
   repeat' first
   | (with_reducible exact ih0 _ _ _ _)
   | (with_reducible exact LeO.refl _)
   | (with_reducible exact LeO.none _)
   | (with_reducible refine LeO.ite ?_ ?_)
   | (with_reducible refine LeO.bind ?_ (fun _=>?_))
   | exact LeO.none _
   | refine LeO.ite ?_ ?_
   | refine LeO.bind ?_ (fun _=>?_)
theorem slices_Index_bool_bool.mono:∀ a0 a1 k,LeO (slices_Index_bool_bool.f k a0 a1) (slices_Index_bool_bool.f (k+1) a0 a1):=by
 intro a0 a1 k
 have ih0:=slices_Index_bool_bool.mono_l k
 unfold slices_Index_bool_bool.f
 repeat' first
   | (with_reducible exact ih0 _ _ _ _)
   | (with_reducible exact LeO.refl _)
   | (with_reducible exact LeO.none _)
   | (with_reducible refine LeO.ite ?_ ?_)
   | (with_reducible refine LeO.bind ?_ (fun _=>?_))
   | exact LeO.none _
   | refine LeO.ite ?_ ?_
   | refine LeO.bind ?_ (fun _=>?_)
set_option maxHeartbeats 8000000 in
set_option maxRecDepth 100000 in
theorem slices_Index_bool_bool.calls (k:Nat) (A0:Option Addr) (c0:Nat) (l0:List Bool) (a1:Bool) (r:Int) (w:World) (hr0:Kd.C Kd.bool w A0 l0.length l0) (hc0:l0.length≤c0) (h:slices_Index_bool_bool.f k l0 a1=some r) :
  Calls Try.prog 97 #[.slice A0 l0.length c0,.bool a1] w fun e w'=>e=.returned (.int .i64 r)∧Drawn0 w w':=by
 have hu4:=Try.underlying4
 have HR0:=zA hr0
 have HC0:=zA hc0
 clear hr0 hc0
 have H:(slices_Index_bool_bool.l0 k l0 a1 (l0.length:Int) 0)=some r:=h
 clear h
 have H':=zA H
 clear H
 go_enter Try.func97,Try.ntmps97
 go_wp2
 go_loopg [8] k (fun kq v8 w'=>∃ (x8_1:Int),v8=.int .i64 x8_1∧Aside0 (slices_Index_bool_bool.l0 kq l0 a1 (l0.length:Int) x8_1=some r)∧Aside0 (kq≤k)∧Drawn0 w w')
 case atStart=>exact ⟨(0),zT,H',⟨Nat.le_refl _⟩,by repeat (first|exact Drawn0.refl _|apply Drawn0.step)⟩
 case round=>
  clear H'
  obtain ⟨x8_1,rfl,HA,HK1,⟨m1,rfl⟩⟩:=hrel
  cases gk with
  | zero=>exact absurd HA.out (by simp [slices_Index_bool_bool.l0])
  | succ k1=>
   have H:=HA.out
   clear HA
   simp only [slices_Index_bool_bool.l0] at H
   by_cases c3:x8_1<(l0.length:Int)
   ·rw [if_pos c3] at H
    have c3b0:decide (x8_1<(l0.length:Int))=true:=decide_eq_true c3
    clear c3
    by_cases c4:0≤x8_1
    ·rw [if_pos c4] at H
     have c4b0:decide (0≤x8_1)=true:=decide_eq_true c4
     clear c4
     by_cases c5:x8_1<(l0.length:Int)
     ·rw [if_pos c5] at H
      have c5b0:decide (x8_1<(l0.length:Int))=true:=decide_eq_true c5
      clear c5
      by_cases c6:(a1 == (rdOf false l0 x8_1))=true
      ·rw [if_pos c6] at H
       have c6b0:(a1 == (rdOf false l0 x8_1))=true:=c6
       (try (have c6b1:decide (a1=(rdOf false l0 x8_1))=true:=by simpa using c6))
       (try (have c6b2:(a1 == (rdOf false l0 x8_1))=true:=by simpa using c6))
       clear c6
       obtain rfl:=Option.some.inj H
       have p494:0≤(x8_1:Int):=of_decide_eq_true zh
       have q494:x8_1<(l0.length:Int):=of_decide_eq_true zh
       obtain ⟨ad494,e494,hx494_0⟩:=Kd.at_bool HR0.out x8_1 p494 q494
       cases e494
       replace p494:=eq_true p494
       replace q494:=eq_true q494
       go_wp2
       go_ret
       exact ⟨by first|rfl|(simp;done)|(simp [*];done),by repeat (first|exact Drawn0.refl _|apply Drawn0.step)⟩
      ·rw [if_neg c6] at H
       have c6b0:(a1 == (rdOf false l0 x8_1))=false:=by simpa using c6
       (try (have c6b1:decide (a1=(rdOf false l0 x8_1))=false:=by simpa using c6))
       (try (have c6b2:(a1 == (rdOf false l0 x8_1))=false:=by simpa using c6))
       (try (have c6b3:¬ (a1=(rdOf false l0 x8_1)):=by simpa using c6))
       clear c6
       have H':=zA H
       clear H
       have p494:0≤(x8_1:Int):=of_decide_eq_true zh
       have q494:x8_1<(l0.length:Int):=of_decide_eq_true zh
       obtain ⟨ad494,e494,hx494_0⟩:=Kd.at_bool HR0.out x8_1 p494 q494
       cases e494
       replace p494:=eq_true p494
       replace q494:=eq_true q494
       go_wp2
       go_roundg k1
       case measure=>have:=HK1.out;omega
       case rel=>exact ⟨(wrap64 (x8_1+1)),zT,H',⟨by have:=HK1.out;omega⟩,by repeat (first|exact Drawn0.refl _|apply Drawn0.step)⟩
     ·rw [if_neg c5] at H
      exact absurd H (by simp)
    ·rw [if_neg c4] at H
     exact absurd H (by simp)
   ·rw [if_neg c3] at H
    have c3b0:decide (x8_1<(l0.length:Int))=false:=decide_eq_false c3
    clear c3
    obtain rfl:=Option.some.inj H
    go_wp2
    go_ret
    exact ⟨by first|rfl|(simp;done)|(simp [*];done),by repeat (first|exact Drawn0.refl _|apply Drawn0.step)⟩
def slices_Contains_bool_bool.f (k:Nat) (l0:List Bool) (a1:Bool):Option (Bool):=(slices_Index_bool_bool.f k l0 a1).bind fun t495=>(some (decide (t495≥0)))
theorem slices_Contains_bool_bool.mono:∀ a0 a1 k,LeO (slices_Contains_bool_bool.f k a0 a1) (slices_Contains_bool_bool.f (k+1) a0 a1):=by
 intro a0 a1 k
 unfold slices_Contains_bool_bool.f
 repeat' first
   | (with_reducible exact slices_Index_bool_bool.mono _ _ _)
   | (with_reducible exact LeO.refl _)
   | (with_reducible exact LeO.none _)
   | (with_reducible refine LeO.ite ?_ ?_)
   | (with_reducible refine LeO.bind ?_ (fun _=>?_))
   | exact LeO.none _
   | refine LeO.ite ?_ ?_
   | refine LeO.bind ?_ (fun _=>?_)
set_option maxHeartbeats 8000000 in
set_option maxRecDepth 100000 in
theorem slices_Contains_bool_bool.calls (k:Nat) (A0:Option Addr) (c0:Nat) (l0:List Bool) (a1:Bool) (r:Bool) (w:World) (hr0:Kd.C Kd.bool w A0 l0.length l0) (hc0:l0.length≤c0) (h:slices_Contains_bool_bool.f k l0 a1=some r) :
  Calls Try.prog 84 #[.slice A0 l0.length c0,.bool a1] w fun e w'=>e=.returned (.bool r)∧Drawn0 w w':=by
 have HR0:=zA hr0
 have HC0:=zA hc0
 clear hr0 hc0
 have H:((slices_Index_bool_bool.f k l0 a1).bind fun t495=>(some (decide (t495≥0))))=some r:=h
 clear h
 replace H:=Option.bind_eq_some_iff.mp H
 obtain ⟨t495,A30,H⟩:=H
 replace H:(some (decide (t495≥0)))=some r:=H
 have A3:=zA A30
 clear A30
 obtain rfl:=Option.some.inj H
 go_enter Try.func84,Try.ntmps84
 go_wp2_with (first|((with_reducible refine gate_callee (f:=97) rfl ?_);refine goesL_ (some 7) rfl rfl Try.func97 zK rfl #[.slice A0 l0.length c0,.bool a1] rfl zM ?_;(with_reducible refine (slices_Index_bool_bool.calls k _ _ l0 a1 t495 _ ?side1 ?side2 A3.out).mono ?_);(case side1=>repeat (first|exact HR0.out|(with_reducible refine Kd.C_alloc ?_ _)|(with_reducible refine Kd.C_drewN ?_ _)|(with_reducible refine Kd.C_drew ?_)));(case side2=>exact HC0.out);rintro e w' ⟨rfl,⟨nd,rfl⟩⟩;refine ⟨_,rfl,?_⟩))
 go_ret
 exact ⟨by first|rfl|(simp;done)|(simp [*];done),by repeat (first|exact Drawn0.refl _|apply Drawn0.step)⟩
end Go.Proofs.Ytngpkbbljnbojaa.S
