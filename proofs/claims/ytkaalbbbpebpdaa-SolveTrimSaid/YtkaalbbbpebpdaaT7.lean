import Derived.Test.YtkaalbbbpebpdaaT0
import Derived.Test.YtkaalbbbpebpdaaT2
import Derived.Test.YtkaalbbbpebpdaaT5
import Derived.Test.YtkaalbbbpebpdaaT6
namespace Go.Proofs.Ytkaalbbbpebpdaa.T
open Go.RowKit Go.Proofs.YtkaalbbbpebpdaaW.PrintWords Go.Proofs.YtkaalbbbpebpdaaW.PrintLast Go.Proofs.YtkaalbbbpebpdaaW.PrintMore
attribute [local go_sem] max2_int min2_int max_two min_two max_three min_three max_four min_four Try.underlying23 Try.underlying25 Try.underlying28 Try.underlying3 Try.underlying33 Try.underlying35 Try.underlying4 Try.underlying48
set_option linter.unusedVariables false
set_option linter.unusedSimpArgs false
/-- What All says of all solutions. -/
def solve_All.of (s:List Int):List Int×Int:=if s.length≤1000 then (s,0) else ([],3)
def solve_All.f (k:Nat) (l0:List (S35)):Option (List Int×Int):=(solve_valid.f k l0).bind fun t76=>(if t76=0 then ((solve_occurring.f k l0).bind fun t77=>((solve_search.f k l0 t77 0 0).bind fun s=>some (solve_All.of s))) else (some (([]:List Int),t76)))
section
attribute [local go_sem] Oper.semAt_some
set_option maxHeartbeats 8000000 in
set_option maxRecDepth 100000 in
theorem solve_All.calls (k:Nat) (A0:Option Addr) (c0:Nat) (l0:List (S35)) (r1:List Int) (r2:Int) (w:World) (hr0:Kd.C k35 w A0 l0.length l0) (hc0:l0.length≤c0) (h:solve_All.f k l0=some (r1,r2)) :
  Calls Try.prog 12 #[.slice A0 l0.length c0] w fun e w'=>∃ v0_:Value,e=.returned (.tuple #[v0_,.int .i64 r2])∧Kd.R (Kd.int .i64) 3 w' w.heap.size (fun _=>True) v0_ r1∧Below w.heap.size w w':=by
 have HR0:=zA hr0;have HC0:=zA hc0;clear hr0 hc0;have HB:=zA (Below.refl w.heap.size w);have H:((solve_valid.f k l0).bind fun t76=>(if t76=0 then ((solve_occurring.f k l0).bind fun t77=>((solve_search.f k l0 t77 0 0).bind fun s=>some (solve_All.of s))) else (some (([]:List Int),t76))))=some (r1,r2):=h;clear h;obtain ⟨t76,A2,H⟩:=zo H;have HC3:=zA H;clear H;refine (callsIn_wide (n:=5)).1 ?_;refine callsIn_of_wp_marks Try.func12 rfl trivial ?_ rfl;simp only [Try.ntmps12,List.size_toArray,List.length_cons,List.length_nil,Nat.reduceAdd,Nat.reduceSub,Array.replicate_succ,Array.replicate_zero,List.push_toArray,List.append_toArray,List.nil_append,List.cons_append];refine wpIn_wide.2 ?_
 go_upto_if 10 with (first|((with_reducible refine gd 2 rfl ?_);refine zx #[.slice none 0 0] 33 ?_;intro gb49 hg w4 BK49 hb GW49 HB1;have GE49:=GW49;clear HB hb hg;have HB:=HB1;clear HB1)|((with_reducible refine gd 3 rfl ?_);refine zx #[.int .i64 0] 28 ?_;intro gb50 hg w5 BK50 hb GW50 HB1;have GE50:=GW50;have NB49_50:=zL hg BK49;have NB50_49:=zLs NB49_50;replace BK49:=zw BK49 hb;clear HB hb hg;have HB:=HB1;clear HB1)|((with_reducible refine gate_callee (f:=15) rfl ?_);refine zgo 8 Try.func15 #[.slice A0 l0.length c0] ?_;(with_reducible refine (solve_valid.calls k _ _ l0 t76 _ (zD HR0 HB) HC0.out A2.out).mono ?_);rintro e w6 ⟨rfl,hb⟩;refine ⟨_,rfl,?_⟩;replace BK49:=zw BK49 hb;replace BK50:=zw BK50 hb;replace HB:=zu hb;clear hb))
 (try simp only [Act.put,zi,zs,zt]);have H:=HC3.out;clear HC3
 rcases ife H with ⟨c7b0,c7b1,H⟩|⟨c7,c7b0,c7b1,H⟩
 ·(first|rw [c7b0]|(simp only [i64_w,i32_w];rw [c7b0])|skip)
  (try rw [c7b1]);obtain ⟨t77,A8,H⟩:=zo H;replace H:=Option.bind_eq_some_iff.mp H;obtain ⟨s_,AS0,H⟩:=H;have AS:=zA AS0;clear AS0;have HFS:=zA (Option.some.inj H);clear H
  go_wp2_with (first|((with_reducible refine gate_dst (N:=5) rfl ?_);refine box_event ?hg (N:=5) ?hd (cs:=#[.slice none 0 0]) (t:=33) ?hr ?_;(case hd=>rfl);(case hg=>rfl);(case hr=>first|(go_simp;done)|(go_simp;rfl));intro gb53 hg w10 hbox hb;have n0_:=zA (zb BK49 hb);have n1_:=zA (zb BK50 hb);have n2_:=zA (below_step zB hb);have n3_:=zA (hbox);have n4_:=zA ((zG hg (below_size zB):w.heap.size≤gb53));have n5_:=zA ((zG hg (below_size zB):w.heap.size≤gb53));have n6_:=zA ((zl hg (zk BK49):gb49≠gb53));have n7_:=zA ((zg hg (zk BK49):gb53≠gb49));have n8_:=zA ((zl hg (zk BK50):gb50≠gb53));have n9_:=zA ((zg hg (zk BK50):gb53≠gb50));clear BK49;clear BK50;clear HB;have BK49:=n0_;have BK50:=n1_;have HB:=n2_;have LT53:=zA (blk_lt n3_.out);have BK53:=n3_;have GW53:=n4_;have GE53:=n5_;have NB49_53:=n6_;have NB53_49:=n7_;have NB50_53:=n8_;have NB53_50:=n9_;clear n0_ n1_ n2_ n3_ n4_ n5_ n6_ n7_ n8_ n9_;clear hb hbox hg)|((with_reducible refine gate_callee (f:=23) rfl ?_);refine zgo 14 Try.func23 #[.slice A0 l0.length c0] ?_;(with_reducible refine (solve_occurring.calls k _ _ l0 t77 _ (zD HR0 HB) HC0.out A8.out).mono ?_);rintro e w11 ⟨v73,rfl,ho0,hb⟩;refine ⟨_,rfl,?_⟩;have hn10:=zA hb.size;have hS10:=zA (below_size HB.out);have HO87:=zA ho0;replace BK49:=zw BK49 hb;replace BK50:=zw BK50 hb;replace BK53:=zw BK53 hb;replace HB:=zu hb;clear hb;(try clear ho0);obtain ⟨A73,c73,e73⟩:=Kd.R_slice HO87.out;subst e73))
  refine (solve_solutions.in_ A0 l0.length c0 A73 t77.length c73 0 0 _).mono ?_;rintro e w12 ⟨g0,g1,g2,rfl,hg0,hg1,hs0,hs1,hs2,hb⟩;have n0_:=zA (Kd.R_below HO87.out hb);have n1_:=zA (zb BK49 hb);have n2_:=zA (zb BK50 hb);have n4_:=zA (zb BK53 hb);have n3_:=zA (below_step zB hb);have hn11:=zA hb.size;have hc73:=zA (Kd.R_reads' HO87.out).2.1;clear BK49 BK50 BK53 HB HO87 hb hg0 hg1;have HO87:=n0_;have BK49:=n1_;have BK50:=n2_;have BK53:=n4_;have HB:=n3_;clear n0_ n1_ n2_ n3_ n4_
  go_wp2
  have hlt53:gb53<w10.heap.size:=LT53.out;have h94:w10.heap.size≤w12.heap.size:=Nat.le_trans hn10.out hn11.out;have HN12:=zA h94
  have hL:∀ W',KpS w.heap.size w10.heap.size w12.heap.size w12 W'→Kd.C k35 W' A0 l0.length l0:=fun W' hk=>Kd.C_kept_came k35_heap HR0.out HB.out (fun k hk=>hk.1) W' hk.kept
  have hV:∀ W',KpS w.heap.size w10.heap.size w12.heap.size w12 W'→Kd.C (Kd.int .i64) W' A73 t77.length t77:=fun W' hk=>Kd.C_kept_own (Kd.R_bound HO87.out) (fun k hk hs=>by have h_:=hS10.out;obtain ⟨_,h1,h2,_⟩:=hk;omega) W' hk.kept
  have hS12:=zA (Nat.le_trans hS10.out h94);refine (wpIn_wide (n:=5)).1 ?_;refine wpIn_rangeFunc_ownF (n:=5) rfl (by omega) (gf:=38) (lb:=#[.pointer (some ⟨g0,0,none⟩),.pointer (some ⟨g1,0,none⟩),.pointer (some ⟨g2,0,none⟩)]) rfl trivial (enters_of Try.func38 zK rfl)
   (solve_solutions_stops w.heap.size w10.heap.size w12.heap.size A0 c0 l0 HC0.out A73 c73 t77 hc73.out 0 0 g0 g1 g2 k s_ w12 (Nat.le_refl _) hL hV AS.out hs0 hs1 hs2)
   KpS.trans (fun W l o o' hl h ho _=>KpS.put hS12.out W l o o' hl h ho) (Below.refl _ _) (fun _=>rfl)
   (fun (pre:List Int) (W:World)=>(∃ (A:Option Addr) (c:Nat),W.heap[gb53]?=some (.cells #[.slice A pre.length c] 33 (0,0))∧Kd.R (Kd.int .i64) 3 W w12.heap.size (fun _=>True) (.slice A pre.length c) pre)∧pre.length≤1000∧w12.heap.size≤W.heap.size∧W.heap[gb49]?=some (.cells #[.slice none 0 0] 33 (0,0))∧W.heap[gb50]?=some (.cells #[.int .i64 0] 28 (0,0))∧Below w.heap.size w W)
   (fun c pre W=>c=Code.ret∧1000<pre.length∧W.heap[gb49]?=some (.cells #[.slice none 0 0] 33 (0,0))∧W.heap[gb50]?=some (.cells #[.int .i64 3] 28 (0,0))∧Below w.heap.size w W)
   (fun s A B row hs hg hr=>by
    obtain ⟨⟨Aa,ca,h1,h2⟩,h3,h4,h5,h6,h7⟩:=hs;refine ⟨⟨Aa,ca,blk_grown h1 hg (ne_row_ hr h1),?_⟩,h3,Nat.le_trans h4 hg.size,blk_grown h5 hg (ne_row_ hr h5),blk_grown h6 hg (ne_row_ hr h6),h7.grown hg h7.size (fun k e=>Nat.le_trans HB.out.size (hr k e).1)⟩
    exact Kd.R_mono (Kd.R_grown (Kd.R_bound h2) hg (fun k hk=>by obtain ⟨_,_,_,q,_,cs,hb⟩:=hk;exact ne_row_ hr hb)) (fun _ _=>trivial))
   (fun c s A B row hs hg hr=>by
    obtain ⟨e1,e2,h1,h2,h3⟩:=hs
    exact ⟨e1,e2,blk_grown h1 hg (ne_row_ hr h1),blk_grown h2 hg (ne_row_ hr h2),h3.grown hg h3.size (fun k e=>Nat.le_trans HB.out.size (hr k e).1)⟩)
   ⟨⟨none,0,BK53.out,Kd.R_nil _ _ _ _ _⟩,by simp,Nat.le_refl _,BK49.out,BK50.out,HB.out⟩
   (fun x=>{tmps:=#[.slice A0 l0.length c0,undef,.pointer (some ⟨gb49,0,none⟩),.pointer (some ⟨gb50,0,none⟩),.int .i64 t76,.pointer (some ⟨gb53,0,none⟩),.int .i64 x,.slice A0 l0.length c0,.int .i64 t76,.int .i64 t76,.bool false,undef,.slice A0 l0.length c0,.slice A0 l0.length c0,.slice A73 t77.length c73,.agg #[.int .i64 0,.int .i64 0],.func (.func 38) #[] #[.pointer (some ⟨g0,0,none⟩),.pointer (some ⟨g1,0,none⟩),.pointer (some ⟨g2,0,none⟩)],.int .i64 x,undef,undef,undef,undef,undef,undef,undef,undef],defers:=[]}) ?assign ?body ?done ?stop
  case assign=>
   intro l x W K hK
   gi_wp2
   exact hK
  case body=>
   rintro l pre x W ⟨⟨Aa,ca,hb3,hR⟩,hp,hsz,hb1,hb2,hbl⟩ _;have hcz3:W.cell? ⟨gb53,0,none⟩=some (.slice Aa pre.length ca):=(blk_cell hb3 0).trans rfl;have hfz3:=blk_frozen hb3 0
   by_cases cl:(pre.length:Int)=1000
   ·have cl0:((pre.length:Int) == 1000)=true:=beq_iff_eq.mpr cl;have hcz0:W.cell? ⟨gb49,0,none⟩=some (.slice none 0 0):=(blk_cell hb1 0).trans rfl;have hfz0:=blk_frozen hb1 0;have hcz1:W.cell? ⟨gb50,0,none⟩=some (.int .i64 0):=(blk_cell hb2 0).trans rfl;have hfz1:=blk_frozen hb2 0;have hnb:=NB49_50.out;have hnc:=NB50_49.out
    gi_wp2
    have h2_:=two_set hb1 hb2 NB49_50.out (.slice none 0 0) (.int .i64 3);exact ⟨two_keep _ _ _ _ _,rfl,by simp;omega,h2_.1,h2_.2,below_set (below_set hbl GE49.out) GE50.out⟩
   ·have cl0:((pre.length:Int) == 1000)=false:=beq_eq_false_iff_ne.mpr cl;obtain ⟨i0,hi,hz0,hz1,hz2⟩:=info_parts info3;have hB53:=zA hb3;have hRR:=zA hR
    have hne:∀ k,(Value.slice Aa pre.length ca).ownBlock=some k→k≠gb53:=fun k hk e=>by have h_:=Kd.R_base hR k hk;omega
    have hrow:=Kd.own_of_R (Kd.R_alloc hR (.cells #[.int .i64 x] 3 (0,0)))
    have t1:pre.length+1≤maxLen:=by unfold maxLen;omega
    have t2:(pre.length+1) * 8≤140737488355328:=by omega
    have t3:w12.heap.size≤(W.alloc (Obj.cells #[.int .i64 x] 3 (0,0))).heap.size:=by rw [World.size_alloc];omega
    have t4:=cell_one_new W (.int .i64 x) 3
    gi_wp2_with (gi_at_builtin;refine wpListIn_append_own _ rfl _ _ 33 rfl w12.heap.size 3 i0 (.int .i64 0) 1 8 Try.underlying33 hi hz0 hz1 hz2 rfl (by decide) _ _ _ rfl hrow ⟨W.heap.size,0,none⟩ 1 1 [.int .i64 x] rfl rfl t4 (by simp [Value.oneCell']) t1 t2 t3 ?_;intro v' w1 hown' hgrow _;obtain ⟨g',cap',rfl⟩:=ownsRow_succ hown';have hb3':=blk_grown (blk_alloc hB53.out (.cells #[.int .i64 x] 3 (0,0))) hgrow (fun e=>hne _ e.symm rfl);have hc3':w1.cell? ⟨gb53,0,none⟩=some (.slice Aa pre.length ca):=(blk_cell hb3' 0).trans rfl;have hf3':=blk_frozen hb3' 0)
    have hbase:∀ k,(Value.slice Aa pre.length ca).ownBlock=some k→w12.heap.size≤k:=fun k hk=>Kd.R_base hRR.out k hk
    have l49:=blk_lt BK49.out;have l50:=blk_lt BK50.out;have l53:=blk_lt BK53.out
    have hRW:Kd.R (Kd.int .i64) 3 w1 w12.heap.size (fun _=>True) (.slice (some ⟨g',0,none⟩) (pre.length+1) cap') (pre++[x]):=by
     have h_:=Kd.R_of_own (enc:=Value.int .i64) (h1:=fun _=>rfl) (xs:=pre++[x]) (ok:=fun _=>True) (by rw [List.length_append];simpa [encs] using hown') (fun _ _=>trivial);exact h_
    have hRW2:Kd.R (Kd.int .i64) 3 (w1.setCell ⟨gb53,0,none⟩ (.slice (some ⟨g',0,none⟩) (pre.length+1) cap')) w12.heap.size (fun _=>True) (.slice (some ⟨g',0,none⟩) (pre.length+1) cap') (pre++[x]):=
     Kd.R_mono (Kd.R_far (p:=⟨gb53,0,none⟩) (Kd.R_bound hRW) (fun k hk=>by obtain ⟨_,hge,_⟩:=hk;show k≠gb53;omega) _) (fun _ _=>trivial)
    have hlen:(pre++[x]).length=pre.length+1:=by simp
    refine ⟨((KeepsOthers.alloc _ _).trans (KeepsOthers.of_grownBy hgrow (fun j o e hj=>by obtain ⟨cs,hc⟩:=own_typed hrow j e;rw [hj] at hc;cases hc;rfl))).trans (KeepsOthers.setCell _ _ _),
     ((KpS.below (below_alloc (Below.refl _ _) _)).trans (KpS.grown hgrow hS12.out (fun k e=>⟨hbase k e,by obtain ⟨cs,hc⟩:=own_typed hrow k e;exact ⟨cs,3,hc,by decide⟩⟩))).trans (KpS.set hb3' (by decide) GE53.out LT53.out HN12.out 0 _),
     ⟨some ⟨g',0,none⟩,cap',by rw [hlen];exact blk_put (cs:=#[.slice Aa pre.length ca]) hb3' 0 _ rfl,by rw [hlen];exact hRW2⟩,by rw [hlen];omega,
     Nat.le_trans t3 (Nat.le_trans hgrow.size (by simp [World.setCell])),blk_far (blk_grown (blk_alloc hb1 _) hgrow (fun e=>by have h_:=hbase _ e.symm;omega)) NB49_53.out _,blk_far (blk_grown (blk_alloc hb2 _) hgrow (fun e=>by have h_:=hbase _ e.symm;omega)) NB50_53.out _,
     below_set ((below_alloc hbl _).grown hgrow (by rw [World.size_alloc];have h_:=hbl.size;omega) (fun k e=>Nat.le_trans HB.out.size (hbase k e))) GE53.out⟩
  case done=>
   rintro D ys W hD hys ⟨⟨Aa,ca,hb3,hR⟩,hp,hsz,hb1,hb2,hbl⟩ hK;subst hys;have hcz0:W.cell? ⟨gb49,0,none⟩=some (.slice none 0 0):=(blk_cell hb1 0).trans rfl;have hfz0:=blk_frozen hb1 0;have hcz1:W.cell? ⟨gb50,0,none⟩=some (.int .i64 0):=(blk_cell hb2 0).trans rfl;have hfz1:=blk_frozen hb2 0;have hcz3:W.cell? ⟨gb53,0,none⟩=some (.slice Aa ys.length ca):=(blk_cell hb3 0).trans rfl;have hfz3:=blk_frozen hb3 0;have hnb:=NB49_50.out;have hnc:=NB50_49.out;have hnb2:=NB53_49.out;have hnb3:=NB53_50.out;have HKD:=zA hK;have HRR:=zA hR;clear hK hR
   go_wp2
   have h2_:=two_set hb1 hb2 NB49_50.out (.slice Aa ys.length ca) (.int .i64 0);have hKD:=(two_keep W gb49 gb50 (.slice Aa ys.length ca) (.int .i64 0)).same D _ HKD.out rfl;have hbl2:Below w.heap.size w ((W.setCell ⟨gb49,0,none⟩ (.slice Aa ys.length ca)).setCell ⟨gb50,0,none⟩ (.int .i64 0)):=below_set (below_set hbl GE49.out) GE50.out;have l49:=blk_lt BK49.out;have l50:=blk_lt BK50.out
   have hR2:Kd.R (Kd.int .i64) 3 ((W.setCell ⟨gb49,0,none⟩ (.slice Aa ys.length ca)).setCell ⟨gb50,0,none⟩ (.int .i64 0)) w12.heap.size (fun _=>True) (.slice Aa ys.length ca) ys:=
    Kd.R_mono (Kd.R_far (p:=⟨gb50,0,none⟩) (Kd.R_far (p:=⟨gb49,0,none⟩) (Kd.R_bound HRR.out) (fun k hk=>by obtain ⟨_,hge,_⟩:=hk;show k≠gb49;omega) _) (fun k hk=>by obtain ⟨_,hge,_⟩:=hk;show k≠gb50;omega) _) (fun _ _=>trivial)
   have e_:=HFS.out;simp only [solve_All.of,if_pos hp,Prod.mk.injEq] at e_;obtain ⟨rfl,rfl⟩:=e_;refine ⟨by simp,.inl ⟨_,_,rfl,run_takeDeferred hKD,?_⟩⟩;refine ⟨_,results_two rfl _ _ gb49 gb50 _ _ rfl rfl (run_loadVar_one _ _ 33 33 _ (0,0) _ (blk_deferred h2_.1 hKD _) Try.underlying33 rfl) (run_loadVar_one _ _ 28 28 _ (0,0) _ (blk_deferred h2_.2 hKD _) Try.underlying28 rfl),_,rfl,?_,hbl2.grown (grownBy_putObj' _ D _) hbl2.size (fun k e=>by cases e;exact Nat.le_trans HB.out.size hD)⟩;exact Kd.R_lower (Kd.R_mono (Kd.R_grown (Kd.R_bound hR2) (grownBy_putObj' _ D (.deferred none)) (fun k hk e=>by obtain ⟨_,_,_,q,_,cs,hb⟩:=hk;cases e;rw [hKD] at hb;cases hb)) (fun _ _=>trivial)) HB.out.size
  case stop=>
   rintro D c pre W hD hSp ⟨rfl,hp,hb1,hb2,hbl⟩ hK;refine wpIn_wide.2 ?_
   go_wp2
   have hle:=hSp.length_le;have e_:=HFS.out;simp only [solve_All.of,if_neg (show ¬ s_.length≤1000 by omega),Prod.mk.injEq] at e_;obtain ⟨rfl,rfl⟩:=e_;refine ⟨by simp,.inl ⟨_,_,rfl,run_takeDeferred hK,?_⟩⟩;exact ⟨_,results_two rfl _ _ gb49 gb50 _ _ rfl rfl (run_loadVar_one _ _ 33 33 _ (0,0) _ (blk_deferred hb1 hK _) Try.underlying33 rfl) (run_loadVar_one _ _ 28 28 _ (0,0) _ (blk_deferred hb2 hK _) Try.underlying28 rfl),_,rfl,Kd.R_nil _ _ _ _ _,hbl.grown (grownBy_putObj' _ D _) hbl.size (fun k e=>by cases e;exact Nat.le_trans HB.out.size hD)⟩
 ·(first|rw [c7b0]|(simp only [i64_w,i32_w];rw [c7b0])|skip)
  (try rw [c7b1]);simp only [Option.some.injEq,Prod.mk.injEq] at H;obtain ⟨rfl,rfl⟩:=H;have hnb31:=NB49_50.out;have hnc31:=NB50_49.out;have hcz32_0:=zc0 BK49;have hfz32_0:=zf BK49 0;have hcz33_0:=zc0 BK50;have hfz33_0:=zf BK50 0
  go_wp2
  have h2_:=two_set BK49.out BK50.out NB49_50.out (.slice none 0 0) (.int .i64 t76);exact ⟨_,results_two rfl _ _ gb49 gb50 _ _ rfl rfl (run_loadVar_one _ _ 33 33 _ (0,0) _ h2_.1 Try.underlying33 rfl) (run_loadVar_one _ _ 28 28 _ (0,0) _ h2_.2 Try.underlying28 rfl),_,rfl,Kd.R_nil _ _ _ _ _,below_set (below_set HB.out GE49.out) GE50.out⟩
end
def slices_Equal_int_int.l0:Nat→List Int→List Int→Int→Int→Option (Bool)
 | 0,_,_,_,_=>none
 | k+1,x0,x1,x12,x13=>if x13<x12 then (if 0≤x13 then (if x13<(x0.length:Int) then (if x13<(x1.length:Int) then (if (rd x0 x13)=(rd x1 x13) then (slices_Equal_int_int.l0 k x0 x1 x12 (wrap64 (x13+1))) else (some false)) else (none)) else (none)) else (none)) else (some true)
def slices_Equal_int_int.f (k:Nat) (l0:List Int) (l1:List Int):Option (Bool):=if (l0.length:Int)=(l1.length:Int) then (slices_Equal_int_int.l0 k l0 l1 (l0.length:Int) 0) else (some false)
set_option maxHeartbeats 8000000 in
set_option maxRecDepth 100000 in
theorem slices_Equal_int_int.calls (k:Nat) (A0:Option Addr) (c0:Nat) (l0:List Int) (A1:Option Addr) (c1:Nat) (l1:List Int) (r:Bool) (w:World) (hr0:Kd.C (Kd.int .i64) w A0 l0.length l0) (hc0:l0.length≤c0) (hr1:Kd.C (Kd.int .i64) w A1 l1.length l1) (hc1:l1.length≤c1) (h:slices_Equal_int_int.f k l0 l1=some r) :
  Calls Try.prog 13 #[.slice A0 l0.length c0,.slice A1 l1.length c1] w fun e w'=>e=.returned (.bool r)∧Drawn0 w w':=by
 have HR0:=zA hr0;have HC0:=zA hc0;clear hr0 hc0;have HR1:=zA hr1;have HC1:=zA hc1;clear hr1 hc1;have H:(if (l0.length:Int)=(l1.length:Int) then (slices_Equal_int_int.l0 k l0 l1 (l0.length:Int) 0) else (some false))=some r:=h;clear h
 rcases if0 H with ⟨c3,H⟩|⟨c3,H⟩
 ·have c3b0:((l0.length:Int) == (l1.length:Int))=true:=beq_iff_eq.mpr c3;have c3b1:((l0.length:Int) != (l1.length:Int))=false:=bne_eq_false_iff_eq.mpr c3
  have c3b2:(l0.length == l1.length)=true:=by first|simpa using c3|(simp at c3 ⊢;omega)
  clear c3;have H':=zA H;clear H
  go_enter Try.func13,Try.ntmps13
  go_wp2
  repeat (go_quiet (fail);try go_wp2)
  go_loopg [13] k (fun kq v13 w'=>∃ (x13_1:Int),v13=.int .i64 x13_1∧Aside0 (slices_Equal_int_int.l0 kq l0 l1 (l0.length:Int) x13_1=some r)∧Aside0 (kq≤k)∧Drawn0 w w')
  case atStart=>exact ⟨(0),zT,H',⟨Nat.le_refl _⟩,by repeat (first|exact Drawn0.refl _|apply Drawn0.step)⟩
  case round=>
   clear H'
   try clear c3
   try clear c3b0
   try clear c3b1
   try clear c3b2
   obtain ⟨x13_1,rfl,HA,HK1,⟨m1,rfl⟩⟩:=hrel
   cases gk with
   | zero=>exact absurd HA.out (by simp [slices_Equal_int_int.l0])
   | succ k1=>
    have H:=HA.out;clear HA;simp only [slices_Equal_int_int.l0] at H
    rcases ifd H with ⟨c4b0,H⟩|⟨c4b0,H⟩
    ·obtain ⟨c5b0,H⟩:=ifd1 H;obtain ⟨c6b0,H⟩:=ifd1 H;obtain ⟨c7b0,H⟩:=ifd1 H
     rcases ife H with ⟨c8b0,c8b1,H⟩|⟨c8,c8b0,c8b1,H⟩
     ·have H':=zA H;clear H;obtain ⟨p58,q58,ad58,e58,hx58_0⟩:=zp (Kd.at_int HR0.out x13_1)
      cases e58
      replace p58:=eq_true p58;replace q58:=eq_true q58;obtain ⟨p59,q59,ad59,e59,hx59_0⟩:=zp (Kd.at_int HR1.out x13_1)
      cases e59
      replace p59:=eq_true p59;replace q59:=eq_true q59
      go_wp2
      repeat (go_quiet (fail);try go_wp2)
      go_roundg k1
      case measure=>have:=HK1.out;omega
      case rel=>exact ⟨(wrap64 (x13_1+1)),zT,H',⟨by have:=HK1.out;omega⟩,by repeat (first|exact Drawn0.refl _|apply Drawn0.step)⟩
     ·obtain rfl:=Option.some.inj H;obtain ⟨p58,q58,ad58,e58,hx58_0⟩:=zp (Kd.at_int HR0.out x13_1)
      cases e58
      replace p58:=eq_true p58;replace q58:=eq_true q58;obtain ⟨p59,q59,ad59,e59,hx59_0⟩:=zp (Kd.at_int HR1.out x13_1)
      cases e59
      replace p59:=eq_true p59;replace q59:=eq_true q59
      go_wp2
      repeat (go_quiet (fail);try go_wp2)
      go_ret
      exact ⟨by first|rfl|(simp;done)|(simp [*];done),by repeat (first|exact Drawn0.refl _|apply Drawn0.step)⟩
    ·obtain rfl:=Option.some.inj H
     go_wp2
     repeat (go_quiet (fail);try go_wp2)
     go_ret
     exact ⟨by first|rfl|(simp;done)|(simp [*];done),by repeat (first|exact Drawn0.refl _|apply Drawn0.step)⟩
 ·have c3b0:((l0.length:Int) == (l1.length:Int))=false:=beq_eq_false_iff_ne.mpr c3;have c3b1:((l0.length:Int) != (l1.length:Int))=true:=bne_iff_ne.mpr c3
  have c3b2:(l0.length == l1.length)=false:=by first|simpa using c3|(simp at c3 ⊢;omega)
  obtain rfl:=Option.some.inj H
  go_enter Try.func13,Try.ntmps13
  go_wp2
  repeat (go_quiet (fail);try go_wp2)
  go_ret
  exact ⟨by first|rfl|(simp;done)|(simp [*];done),by repeat (first|exact Drawn0.refl _|apply Drawn0.step)⟩
def ancepslaw40_awake.f (k:Nat) :Option (Bool):=(some (([(⟨(([0,1]:List Int)),(([1,2]:List Int))⟩:S35),(⟨(([1,2]:List Int)),(([0,3]:List Int))⟩:S35),(⟨(([0,2]:List Int)),(([0,3]:List Int))⟩:S35)]:List (S35)):List (S35))).bind fun y55=>((solve_Refute.f k y55).bind fun bt62=>((solve_First.f k y55).bind fun bt88=>(if 2≤(y55.length:Int) then ((solve_All.f k (y55.take 2)).bind fun bt81=>(if bt62.2=0 then (if (bt62.1.length:Int)=11 then ((solve_Check.f k y55 bt62.1).bind fun t89=>(if t89=true then (if bt88.2=10 then (if bt81.2=0 then ((slices_Equal_int_int.f k bt81.1 (([1,6]:List Int))).bind fun t85=>(some t85)) else (none)) else (none)) else (none))) else (none)) else (none))) else (none))))
set_option maxHeartbeats 8000000 in
set_option maxRecDepth 100000 in
theorem ancepslaw40_awake.calls (k:Nat)  (r:Bool) (w:World) (h:ancepslaw40_awake.f k =some r) :
  Calls Try.prog 4 #[] w fun e w'=>e=.returned (.bool r)∧Below w.heap.size w w':=by
 have HB:=zA (Below.refl w.heap.size w);have H:((some (([(⟨(([0,1]:List Int)),(([1,2]:List Int))⟩:S35),(⟨(([1,2]:List Int)),(([0,3]:List Int))⟩:S35),(⟨(([0,2]:List Int)),(([0,3]:List Int))⟩:S35)]:List (S35)):List (S35))).bind fun y55=>((solve_Refute.f k y55).bind fun bt62=>((solve_First.f k y55).bind fun bt88=>(if 2≤(y55.length:Int) then ((solve_All.f k (y55.take 2)).bind fun bt81=>(if bt62.2=0 then (if (bt62.1.length:Int)=11 then ((solve_Check.f k y55 bt62.1).bind fun t89=>(if t89=true then (if bt88.2=10 then (if bt81.2=0 then ((slices_Equal_int_int.f k bt81.1 (([1,6]:List Int))).bind fun t85=>(some t85)) else (none)) else (none)) else (none))) else (none)) else (none))) else (none)))))=some r:=h;clear h
 first|(replace H:=zyb (([0,1]:List Int)) H;obtain ⟨y63,Ny63,H⟩:=H)|(obtain ⟨y63,hy63⟩:=zY (([0,1]:List Int));(try rw (occs:=.pos [1]) [← hy63] at H);have Ny63:=zA hy63;clear hy63)
 first|(replace H:=zyb (([1,2]:List Int)) H;obtain ⟨y65,Ny65,H⟩:=H)|(obtain ⟨y65,hy65⟩:=zY (([1,2]:List Int));(try rw (occs:=.pos [1]) [← hy65] at H);have Ny65:=zA hy65;clear hy65)
 first|(replace H:=zyb (([1,2]:List Int)) H;obtain ⟨y66,Ny66,H⟩:=H)|(obtain ⟨y66,hy66⟩:=zY (([1,2]:List Int));(try rw (occs:=.pos [1]) [← hy66] at H);have Ny66:=zA hy66;clear hy66)
 first|(replace H:=zyb (([0,3]:List Int)) H;obtain ⟨y67,Ny67,H⟩:=H)|(obtain ⟨y67,hy67⟩:=zY (([0,3]:List Int));(try rw (occs:=.pos [1]) [← hy67] at H);have Ny67:=zA hy67;clear hy67)
 first|(replace H:=zyb (([0,2]:List Int)) H;obtain ⟨y68,Ny68,H⟩:=H)|(obtain ⟨y68,hy68⟩:=zY (([0,2]:List Int));(try rw (occs:=.pos [1]) [← hy68] at H);have Ny68:=zA hy68;clear hy68)
 first|(replace H:=zyb (([0,3]:List Int)) H;obtain ⟨y69,Ny69,H⟩:=H)|(obtain ⟨y69,hy69⟩:=zY (([0,3]:List Int));(try rw (occs:=.pos [1]) [← hy69] at H);have Ny69:=zA hy69;clear hy69)
 first|(replace H:=zyb (([(⟨y63,y65⟩:S35),(⟨y66,y67⟩:S35),(⟨y68,y69⟩:S35)]:List (S35))) H;obtain ⟨y55,Ny55,H⟩:=H)|(obtain ⟨y55,hy55⟩:=zY (([(⟨y63,y65⟩:S35),(⟨y66,y67⟩:S35),(⟨y68,y69⟩:S35)]:List (S35)));(try rw (occs:=.pos [1]) [← hy55] at H);have Ny55:=zA hy55;clear hy55)
 obtain ⟨t62,t95,A1,H⟩:=zO H
 dsimp only at H
 obtain ⟨t88,t90,A2,H⟩:=zO H
 dsimp only at H
 obtain ⟨c3,H⟩:=if1 H;have c3b0:=eq_true c3;have c3b1:decide (2≤(y55.length:Int))=true:=decide_eq_true c3;clear c3
 first|(replace H:=zyb (y55.take 2) H;obtain ⟨y71,Ny71,H⟩:=H)|(obtain ⟨y71,hy71⟩:=zY (y55.take 2);(try rw (occs:=.pos [1]) [← hy71] at H);have Ny71:=zA hy71;clear hy71)
 obtain ⟨t81,t91,A4,H⟩:=zO H
 dsimp only at H
 obtain ⟨c5,H⟩:=if1 H;have c5b0:(t95 == 0)=true:=beq_iff_eq.mpr c5;have c5b1:(t95 != 0)=false:=bne_eq_false_iff_eq.mpr c5;clear c5;obtain ⟨c6,H⟩:=if1 H;have c6b0:((t62.length:Int) == 11)=true:=beq_iff_eq.mpr c6;have c6b1:((t62.length:Int) != 11)=false:=bne_eq_false_iff_eq.mpr c6;clear c6;obtain ⟨t89,A7,H⟩:=zo H
 by_cases c8:t89=true
 ·subst c8
  have H1:(if t90=10 then (if t91=0 then ((slices_Equal_int_int.f k t81 (([1,6]:List Int))).bind fun t85=>(some t85)) else (none)) else (none))=some r:=by rw [if_pos rfl] at H;exact H
  clear H;have H:=H1;clear H1;obtain ⟨c9,H⟩:=if1 H;have c9b0:(t90 == 10)=true:=beq_iff_eq.mpr c9;have c9b1:(t90 != 10)=false:=bne_eq_false_iff_eq.mpr c9;clear c9;obtain ⟨c10,H⟩:=if1 H;have c10b0:(t91 == 0)=true:=beq_iff_eq.mpr c10;have c10b1:(t91 != 0)=false:=bne_eq_false_iff_eq.mpr c10;clear c10
  first|(replace H:=zyb (([1,6]:List Int)) H;obtain ⟨y78,Ny78,H⟩:=H)|(obtain ⟨y78,hy78⟩:=zY (([1,6]:List Int));(try rw (occs:=.pos [1]) [← hy78] at H);have Ny78:=zA hy78;clear hy78)
  obtain ⟨t85,A11,H⟩:=zo H;obtain rfl:=Option.some.inj H
  go_enter Try.func4,Try.ntmps4
  go_wp2_with (first|((with_reducible refine gate_dst (N:=8) rfl ?_);(try (refine gate_guard (by rfl) ?_;dsimp only));refine Kd.R_lit (Kd.int .i64) _ 3 ?hg (N:=8) ?hd (xs:=([0,1]:List Int)) (inner:=[.int .i64 0,.int .i64 1]) (ok:=fun _=>True) (okp:=fun _=>True) ?hr ?hp (fun _ hk=>hk) trivial (Below.refl _ _) (Nat.le_refl _) (by simp) ?_;(case hd=>rfl);(case hg=>rfl);(case hr=>first|(go_simp;done)|(go_simp;rfl));(case hp=>exact (Reps.one (show Kd.M (Kd.int .i64) _ _ _ 0 [.int .i64 0] from rfl) (Reps.one (show Kd.M (Kd.int .i64) _ _ _ 1 [.int .i64 1] from rfl) (Reps.none _ _))));intro v99 w12 ho13 hb hg_ hnew_;clear hg_ hnew_;(first|rw [← Ny63.out] at ho13|(simp only [Int.reduceToNat] at ho13;rw [← Ny63.out] at ho13));have HO60:=zA (Kd.R_lower ho13 (below_size zB));replace HB:=zu hb;clear hb ho13)|((with_reducible refine gate_dst (N:=9) rfl ?_);(try (refine gate_guard (by rfl) ?_;dsimp only));refine Kd.R_lit (Kd.int .i64) _ 3 ?hg (N:=9) ?hd (xs:=([1,2]:List Int)) (inner:=[.int .i64 1,.int .i64 2]) (ok:=fun _=>True) (okp:=fun _=>True) ?hr ?hp (fun _ hk=>hk) trivial (Below.refl _ _) (Nat.le_refl _) (by simp) ?_;(case hd=>rfl);(case hg=>rfl);(case hr=>first|(go_simp;done)|(go_simp;rfl));(case hp=>exact (Reps.one (show Kd.M (Kd.int .i64) _ _ _ 1 [.int .i64 1] from rfl) (Reps.one (show Kd.M (Kd.int .i64) _ _ _ 2 [.int .i64 2] from rfl) (Reps.none _ _))));intro v326 w14 ho15 hb hg_ hnew_;clear hg_ hnew_;(first|rw [← Ny65.out] at ho15|(simp only [Int.reduceToNat] at ho15;rw [← Ny65.out] at ho15));have HO70:=zA (Kd.R_lower (Kd.R_new' ho15 (Kd.R_lt (zR HO60))) (below_size zB));replace HO60:=zA (Kd.R_elder' (zR HO60) (Kd.R_base ho15) hb);replace HB:=zu hb;clear hb ho15;obtain ⟨Ao16,co16,eo16⟩:=Kd.R_slice HO70.out;subst eo16;obtain ⟨Ao17,co17,eo17⟩:=Kd.R_slice HO60.out;subst eo17)|((with_reducible refine gate_dst (N:=11) rfl ?_);(try (refine gate_guard (by rfl) ?_;dsimp only));refine Kd.R_lit (Kd.int .i64) _ 3 ?hg (N:=11) ?hd (xs:=([1,2]:List Int)) (inner:=[.int .i64 1,.int .i64 2]) (ok:=fun _=>True) (okp:=fun _=>True) ?hr ?hp (fun _ hk=>hk) trivial (Below.refl _ _) (Nat.le_refl _) (by simp) ?_;(case hd=>rfl);(case hg=>rfl);(case hr=>first|(go_simp;done)|(go_simp;rfl));(case hp=>exact (Reps.one (show Kd.M (Kd.int .i64) _ _ _ 1 [.int .i64 1] from rfl) (Reps.one (show Kd.M (Kd.int .i64) _ _ _ 2 [.int .i64 2] from rfl) (Reps.none _ _))));intro v329 w18 ho19 hb hg_ hnew_;clear hg_ hnew_;(first|rw [← Ny66.out] at ho19|(simp only [Int.reduceToNat] at ho19;rw [← Ny66.out] at ho19));have HO74:=zA (Kd.R_lower (Kd.R_new' (Kd.R_new' ho19 (Kd.R_lt (zR HO60))) (Kd.R_lt (zR HO70))) (below_size zB));replace HO60:=zA (Kd.R_elder' (zR HO60) (Kd.R_base ho19) hb);replace HO70:=zA (Kd.R_elder' (zR HO70) (Kd.R_base ho19) hb);replace HB:=zu hb;clear hb ho19)|((with_reducible refine gate_dst (N:=12) rfl ?_);(try (refine gate_guard (by rfl) ?_;dsimp only));refine Kd.R_lit (Kd.int .i64) _ 3 ?hg (N:=12) ?hd (xs:=([0,3]:List Int)) (inner:=[.int .i64 0,.int .i64 3]) (ok:=fun _=>True) (okp:=fun _=>True) ?hr ?hp (fun _ hk=>hk) trivial (Below.refl _ _) (Nat.le_refl _) (by simp) ?_;(case hd=>rfl);(case hg=>rfl);(case hr=>first|(go_simp;done)|(go_simp;rfl));(case hp=>exact (Reps.one (show Kd.M (Kd.int .i64) _ _ _ 0 [.int .i64 0] from rfl) (Reps.one (show Kd.M (Kd.int .i64) _ _ _ 3 [.int .i64 3] from rfl) (Reps.none _ _))));intro v332 w20 ho21 hb hg_ hnew_;clear hg_ hnew_;(first|rw [← Ny67.out] at ho21|(simp only [Int.reduceToNat] at ho21;rw [← Ny67.out] at ho21));have HO79:=zA (Kd.R_lower (Kd.R_new' (Kd.R_new' (Kd.R_new' ho21 (Kd.R_lt (zR HO60))) (Kd.R_lt (zR HO70))) (Kd.R_lt (zR HO74))) (below_size zB));replace HO60:=zA (Kd.R_elder' (zR HO60) (Kd.R_base ho21) hb);replace HO70:=zA (Kd.R_elder' (zR HO70) (Kd.R_base ho21) hb);replace HO74:=zA (Kd.R_elder' (zR HO74) (Kd.R_base ho21) hb);replace HB:=zu hb;clear hb ho21;obtain ⟨Ao22,co22,eo22⟩:=Kd.R_slice HO79.out;subst eo22;obtain ⟨Ao23,co23,eo23⟩:=Kd.R_slice HO74.out;subst eo23)|((with_reducible refine gate_dst (N:=14) rfl ?_);(try (refine gate_guard (by rfl) ?_;dsimp only));refine Kd.R_lit (Kd.int .i64) _ 3 ?hg (N:=14) ?hd (xs:=([0,2]:List Int)) (inner:=[.int .i64 0,.int .i64 2]) (ok:=fun _=>True) (okp:=fun _=>True) ?hr ?hp (fun _ hk=>hk) trivial (Below.refl _ _) (Nat.le_refl _) (by simp) ?_;(case hd=>rfl);(case hg=>rfl);(case hr=>first|(go_simp;done)|(go_simp;rfl));(case hp=>exact (Reps.one (show Kd.M (Kd.int .i64) _ _ _ 0 [.int .i64 0] from rfl) (Reps.one (show Kd.M (Kd.int .i64) _ _ _ 2 [.int .i64 2] from rfl) (Reps.none _ _))));intro v335 w24 ho25 hb hg_ hnew_;clear hg_ hnew_;(first|rw [← Ny68.out] at ho25|(simp only [Int.reduceToNat] at ho25;rw [← Ny68.out] at ho25));have HO86:=zA (Kd.R_lower (Kd.R_new' (Kd.R_new' (Kd.R_new' (Kd.R_new' ho25 (Kd.R_lt (zR HO60))) (Kd.R_lt (zR HO70))) (Kd.R_lt (zR HO74))) (Kd.R_lt (zR HO79))) (below_size zB));replace HO60:=zA (Kd.R_elder' (zR HO60) (Kd.R_base ho25) hb);replace HO70:=zA (Kd.R_elder' (zR HO70) (Kd.R_base ho25) hb);replace HO74:=zA (Kd.R_elder' (zR HO74) (Kd.R_base ho25) hb);replace HO79:=zA (Kd.R_elder' (zR HO79) (Kd.R_base ho25) hb);replace HB:=zu hb;clear hb ho25)|((with_reducible refine gate_dst (N:=15) rfl ?_);(try (refine gate_guard (by rfl) ?_;dsimp only));refine Kd.R_lit (Kd.int .i64) _ 3 ?hg (N:=15) ?hd (xs:=([0,3]:List Int)) (inner:=[.int .i64 0,.int .i64 3]) (ok:=fun _=>True) (okp:=fun _=>True) ?hr ?hp (fun _ hk=>hk) trivial (Below.refl _ _) (Nat.le_refl _) (by simp) ?_;(case hd=>rfl);(case hg=>rfl);(case hr=>first|(go_simp;done)|(go_simp;rfl));(case hp=>exact (Reps.one (show Kd.M (Kd.int .i64) _ _ _ 0 [.int .i64 0] from rfl) (Reps.one (show Kd.M (Kd.int .i64) _ _ _ 3 [.int .i64 3] from rfl) (Reps.none _ _))));intro v338 w26 ho27 hb hg_ hnew_;clear hg_ hnew_;(first|rw [← Ny69.out] at ho27|(simp only [Int.reduceToNat] at ho27;rw [← Ny69.out] at ho27));have HO92:=zA (Kd.R_lower (Kd.R_new' (Kd.R_new' (Kd.R_new' (Kd.R_new' (Kd.R_new' ho27 (Kd.R_lt (zR HO60))) (Kd.R_lt (zR HO70))) (Kd.R_lt (zR HO74))) (Kd.R_lt (zR HO79))) (Kd.R_lt (zR HO86))) (below_size zB));replace HO60:=zA (Kd.R_elder' (zR HO60) (Kd.R_base ho27) hb);replace HO70:=zA (Kd.R_elder' (zR HO70) (Kd.R_base ho27) hb);replace HO74:=zA (Kd.R_elder' (zR HO74) (Kd.R_base ho27) hb);replace HO79:=zA (Kd.R_elder' (zR HO79) (Kd.R_base ho27) hb);replace HO86:=zA (Kd.R_elder' (zR HO86) (Kd.R_base ho27) hb);replace HB:=zu hb;clear hb ho27;obtain ⟨Ao28,co28,eo28⟩:=Kd.R_slice HO92.out;subst eo28;obtain ⟨Ao29,co29,eo29⟩:=Kd.R_slice HO86.out;subst eo29)|((with_reducible refine gate_dst (N:=17) rfl ?_);(try (refine gate_guard (by rfl) ?_;dsimp only));refine Kd.N_lit k35 _ 35 ?hg (N':=17) ?hd (xs:=([(⟨y63,y65⟩:S35),(⟨y66,y67⟩:S35),(⟨y68,y69⟩:S35)]:List (S35))) (inner:=[.slice Ao17 y63.length co17,.slice Ao16 y65.length co16,.slice Ao23 y66.length co23,.slice Ao22 y67.length co22,.slice Ao29 y68.length co29,.slice Ao28 y69.length co28]) (ok:=(fun _=>True)) (okp:=(fun _=>True)) ?hr ?hp (fun _ hk=>hk) ((show ∀ k_,w26.heap.size≤k_→(fun _=>True) k_ from fun k_ hk=>trivial) _ (Nat.le_refl _)) (Below.refl _ _) (Nat.le_refl _) (by simp) ?_;(case hd=>rfl);(case hg=>rfl);(case hr=>first|(go_simp;done)|(go_simp;rfl));(case hp=>exact (Reps.c2 (show Kd.FK k35 _ _ (⟨y63,y65⟩:S35) [.slice Ao17 y63.length co17,.slice Ao16 y65.length co16] from (k35_mkF _ _ (⟨y63,y65⟩:S35) (Kd.R_reads' (Kd.R_mono (ok':=(fun _=>True)) (HO60.out) (fun k_ hk=>trivial))).2.1 (Kd.R_F (Kd.R_mono (ok':=(fun _=>True)) (HO60.out) (fun k_ hk=>trivial))) (Kd.R_reads' (Kd.R_mono (ok':=(fun _=>True)) (HO70.out) (fun k_ hk=>trivial))).2.1 (Kd.R_F (Kd.R_mono (ok':=(fun _=>True)) (HO70.out) (fun k_ hk=>trivial))))) (Reps.c2 (show Kd.FK k35 _ _ (⟨y66,y67⟩:S35) [.slice Ao23 y66.length co23,.slice Ao22 y67.length co22] from (k35_mkF _ _ (⟨y66,y67⟩:S35) (Kd.R_reads' (Kd.R_mono (ok':=(fun _=>True)) (HO74.out) (fun k_ hk=>trivial))).2.1 (Kd.R_F (Kd.R_mono (ok':=(fun _=>True)) (HO74.out) (fun k_ hk=>trivial))) (Kd.R_reads' (Kd.R_mono (ok':=(fun _=>True)) (HO79.out) (fun k_ hk=>trivial))).2.1 (Kd.R_F (Kd.R_mono (ok':=(fun _=>True)) (HO79.out) (fun k_ hk=>trivial))))) (Reps.c2 (show Kd.FK k35 _ _ (⟨y68,y69⟩:S35) [.slice Ao29 y68.length co29,.slice Ao28 y69.length co28] from (k35_mkF _ _ (⟨y68,y69⟩:S35) (Kd.R_reads' (Kd.R_mono (ok':=(fun _=>True)) (HO86.out) (fun k_ hk=>trivial))).2.1 (Kd.R_F (Kd.R_mono (ok':=(fun _=>True)) (HO86.out) (fun k_ hk=>trivial))) (Kd.R_reads' (Kd.R_mono (ok':=(fun _=>True)) (HO92.out) (fun k_ hk=>trivial))).2.1 (Kd.R_F (Kd.R_mono (ok':=(fun _=>True)) (HO92.out) (fun k_ hk=>trivial))))) (Reps.none _ _)))));intro v341 w30 ho31 hb hg_ hnew_;clear hg_ hnew_;(first|rw [← Ny55.out] at ho31|(simp only [Int.reduceToNat] at ho31;rw [← Ny55.out] at ho31));have HO57:=zA (Kd.N_lower ho31 (below_size zB));replace HB:=zu hb;clear HO60 HO70 HO74 HO79 HO86 HO92;clear hb ho31;obtain ⟨Ao32,co32,eo32⟩:=Kd.N_slice HO57.out;subst eo32)|((with_reducible refine gate_callee (f:=10) rfl ?_);refine zgo 20 Try.func10 #[.slice Ao32 y55.length co32] ?_;(with_reducible refine (solve_Refute.calls k _ _ y55 t62 t95 _ ?side1 ?side2 A1.out).mono ?_);(case side1=>exact zC (Kd.N_reads' HO57.out).2.2);(case side2=>exact (Kd.N_reads' HO57.out).2.1);rintro e w33 ⟨v344,rfl,ho0,hb⟩;refine ⟨_,rfl,?_⟩;have HO75:=zA (Kd.R_lower ho0 (below_size zB));replace HO57:=zA (Kd.N_elder' (zN HO57) (Kd.R_base ho0) hb);replace HB:=zu hb;clear hb;(try clear ho0))|((with_reducible refine gd 2 rfl ?_);(try (refine gate_guard (by rfl) ?_;dsimp only));refine zx #[.slice none 0 0] 25 ?_;intro gb56 hg w34 BK56 hb GW56 HB1;have GE56:=GW56;replace HO57:=zA (Kd.N_below (Kd.N_elderB (zN HO57) gb56 (Nat.le_of_eq hg.symm)) hb);replace HO75:=zA (Kd.R_below (zR HO75) hb);clear HB hb hg;have HB:=HB1;clear HB1;obtain ⟨Ao35,co35,eo35⟩:=Kd.R_slice HO75.out;subst eo35;have hcz36_0:=zc0 BK56;have hfz36_0:=zf BK56 0)|((with_reducible refine gate_callee (f:=11) rfl ?_);refine zgo 25 Try.func11 #[.slice Ao32 y55.length co32] ?_;(with_reducible refine (solve_First.calls k _ _ y55 t88 t90 _ ?side1 ?side2 A2.out).mono ?_);(case side1=>refine (Kd.N_reads' (e:=35) (base:=w.heap.size) (ok:=fun k_=>((True∧some k_≠(.slice Ao35 t62.length co35:Value).ownBlock)∧k_≠gb56)) (n:=y55.length) (c:=co32) ?_).2.2;exact (by (with_reducible repeat (first|apply Kd.N_alloc|apply Kd.N_drewN|apply Kd.N_drew));exact (Kd.N_mono (Kd.N_far (p:=⟨gb56,0,none⟩) (Kd.N_mono HO57.out (fun k_ hk=>(⟨hk,hk.2⟩:_∧k_≠gb56))) (fun _ hk=>hk.2) (.slice Ao35 t62.length co35)) (fun _ h_=>h_.1))));(case side2=>exact (Kd.N_reads' HO57.out).2.1);rintro e w37 ⟨rfl,hb⟩;refine ⟨_,rfl,?_⟩;replace HO57:=zA (Kd.N_below (by (with_reducible repeat (first|apply Kd.N_alloc|apply Kd.N_drewN|apply Kd.N_drew));exact (Kd.N_mono (Kd.N_far (p:=⟨gb56,0,none⟩) (Kd.N_mono HO57.out (fun k_ hk=>(⟨hk,hk.2⟩:_∧k_≠gb56))) (fun _ hk=>hk.2) (.slice Ao35 t62.length co35)) (fun _ h_=>h_.1))) hb);replace HO75:=zA (Kd.R_below (by refine zr ?_;exact (Kd.R_mono (Kd.R_far (p:=⟨gb56,0,none⟩) (Kd.R_types HO75.out BK56.out (by decide)) (fun _ hk=>hk.2) (.slice Ao35 t62.length co35)) (fun _ h_=>h_.1))) hb);replace BK56:=zA (blk_below (g:=gb56) (o:=.cells #[.slice Ao35 t62.length co35] 25 (0,0)) (by refine zj ?_;refine blk_put (cs:=#[.slice none 0 0]) ?_ 0 _ rfl;refine zj ?_;exact BK56.out) hb);replace HB:=zu hb;clear hb;have q38:(2:Int)≤((y55.length:Int):Int):=of_decide_eq_true zh;obtain ⟨i96,hi96,_,hsz38,_⟩:=info_parts info35;have hroom38:y55.length≤co32:=(Kd.N_reads' HO57.out).2.1;have hC38:Kd.F k35 _ _ Ao32 y55.length y55:=(Kd.V_at (base:=w.heap.size) (Kd.N_V HO57.out)).2.2;have hcut38:=cut_to (P:=Try.prog) 22 35 .i64 Try.underlying22 hi96 Ao32 y55.length co32 2 (by omega) q38 hroom38;have hr38:=Kd.F_take (m:=2) hC38 (by omega);have hy38:y71.length=(2:Int).toNat:=(by rw [Ny71.out,List.length_take];omega);rw [← Ny71.out] at hr38;rw [← hy38] at hcut38;have HO82:=zA (show Kd.V k35 35 _ w.heap.size _ (.slice Ao32 y71.length co32) y71 from Kd.V_mk (by omega) hr38);have HC82:=zA (show y71.length≤co32 from by omega);clear hr38 hC38 hroom38 hi96 hsz38;have KY38:=zA hy38;clear hy38;replace q38:=eq_true q38)|((with_reducible refine gate_callee (f:=12) rfl ?_);refine zgo 31 Try.func12 #[.slice Ao32 y71.length co32] ?_;(with_reducible refine (solve_All.calls k _ _ y71 t81 t91 _ ?side1 ?side2 A4.out).mono ?_);(case side1=>exact zC (Kd.V_reads' HO82.out).2.2);(case side2=>exact (Kd.V_reads' HO82.out).2.1);rintro e w39 ⟨v357,rfl,ho0,hb⟩;refine ⟨_,rfl,?_⟩;have HO84:=zA (Kd.R_lower ho0 (below_size zB));replace HO57:=zA (Kd.N_elder' (zN HO57) (Kd.R_base ho0) hb);replace HO75:=zA (Kd.R_below (zR HO75) hb);replace HO82:=zA (Kd.V_elder' (zV HO82) (Kd.R_base ho0) hb);replace BK56:=zw BK56 hb;replace HB:=zu hb;clear hb;(try clear ho0);have hcz40_0:=zc0 BK56;have hfz40_0:=zf BK56 0)|(go_at_call 9;(with_reducible refine (solve_Check.calls k _ _ y55 _ _ t62 true _ ?side1 ?side2 ?side3 ?side4 A7.out).mono ?_);(case side1=>exact zC (Kd.N_reads' HO57.out).2.2);(case side2=>exact (Kd.N_reads' HO57.out).2.1);(case side3=>exact zC (Kd.R_reads' HO75.out).2.2);(case side4=>exact (Kd.R_reads' HO75.out).2.1);rintro e w41 ⟨rfl,hb⟩;replace HO57:=zA (Kd.N_below (zN HO57) hb);replace HO75:=zA (Kd.R_below (zR HO75) hb);replace HO82:=zA (Kd.V_below (zV HO82) hb);replace HO84:=zA (Kd.R_below (zR HO84) hb);replace BK56:=zw BK56 hb;replace HB:=zu hb;clear hb)|((with_reducible refine gate_dst (N:=57) rfl ?_);(try (refine gate_guard (by rfl) ?_;dsimp only));refine Kd.R_lit (Kd.int .i64) _ 3 ?hg (N:=57) ?hd (xs:=([1,6]:List Int)) (inner:=[.int .i64 1,.int .i64 6]) (ok:=fun _=>True) (okp:=fun _=>True) ?hr ?hp (fun _ hk=>hk) trivial (Below.refl _ _) (Nat.le_refl _) (by simp) ?_;(case hd=>rfl);(case hg=>rfl);(case hr=>first|(go_simp;done)|(go_simp;rfl));(case hp=>exact (Reps.one (show Kd.M (Kd.int .i64) _ _ _ 1 [.int .i64 1] from rfl) (Reps.one (show Kd.M (Kd.int .i64) _ _ _ 6 [.int .i64 6] from rfl) (Reps.none _ _))));intro v361 w42 ho43 hb hg_ hnew_;clear hg_ hnew_;(first|rw [← Ny78.out] at ho43|(simp only [Int.reduceToNat] at ho43;rw [← Ny78.out] at ho43));have HO97:=zA (Kd.R_lower (Kd.R_new' ho43 (Kd.R_lt (zR HO84))) (below_size zB));replace HO57:=zA (Kd.N_elder' (zN HO57) (Kd.R_base ho43) hb);replace HO75:=zA (Kd.R_below (zR HO75) hb);replace HO82:=zA (Kd.V_elder' (zV HO82) (Kd.R_base ho43) hb);replace HO84:=zA (Kd.R_elder' (zR HO84) (Kd.R_base ho43) hb);replace BK56:=zw BK56 hb;replace HB:=zu hb;clear hb ho43;obtain ⟨Ao44,co44,eo44⟩:=Kd.R_slice HO84.out;subst eo44;obtain ⟨Ao45,co45,eo45⟩:=Kd.R_slice HO97.out;subst eo45)|(go_at_call 13;(with_reducible refine (slices_Equal_int_int.calls k _ _ t81 _ _ y78 t85 _ ?side1 ?side2 ?side3 ?side4 A11.out).mono ?_);(case side1=>exact zC (Kd.R_reads' HO84.out).2.2);(case side2=>exact (Kd.R_reads' HO84.out).2.1);(case side3=>exact zC (Kd.R_reads' HO97.out).2.2);(case side4=>exact (Kd.R_reads' HO97.out).2.1);rintro e w' ⟨rfl,⟨nd,rfl⟩⟩))
  go_ret
  exact ⟨ze,zv1 HB GE56⟩
 ·replace c8:=Bool.eq_false_iff.mpr c8;subst c8
  have H1:(none)=some r:=by rw [if_neg (show ¬ (false=true) by decide)] at H;exact H
  clear H;have H:=H1;clear H1;exact absurd H (by simp)
def ancepsref38_Few.f (l0_0:List Int) (l0_1:List Int):Option (Bool):=if (l0_0.length:Int)≤12 then (some (decide ((l0_1.length:Int)≤1030))) else (some false)
set_option maxHeartbeats 8000000 in
set_option maxRecDepth 100000 in
theorem ancepsref38_Few.calls (A0_0:Option Addr) (c0_0:Nat) (l0_0:List Int) (A0_1:Option Addr) (c0_1:Nat) (l0_1:List Int) (r:Bool) (w:World) (hr0_0:Kd.C (Kd.int .i64) w A0_0 l0_0.length l0_0) (hc0_0:l0_0.length≤c0_0) (hr0_1:Kd.C (Kd.int .i64) w A0_1 l0_1.length l0_1) (hc0_1:l0_1.length≤c0_1) (h:ancepsref38_Few.f l0_0 l0_1=some r) :
  Calls Try.prog 14 #[.agg #[.slice A0_0 l0_0.length c0_0,.slice A0_1 l0_1.length c0_1]] w fun e w'=>e=.returned (.bool r)∧Below w.heap.size w w':=by
 have HR0_0:=zA hr0_0;have HC0_0:=zA hc0_0;clear hr0_0 hc0_0;have HR0_1:=zA hr0_1;have HC0_1:=zA hc0_1;clear hr0_1 hc0_1;have HB:=zA (Below.refl w.heap.size w);have H:(if (l0_0.length:Int)≤12 then (some (decide ((l0_1.length:Int)≤1030))) else (some false))=some r:=h;clear h;have HC2:=zA H;clear H
 go_enter Try.func14,Try.ntmps14
 go_upto_region 1 with (first|((with_reducible refine gd 1 rfl ?_);(try (refine gate_guard (by rfl) ?_;dsimp only));refine zx #[.slice A0_0 l0_0.length c0_0,.slice A0_1 l0_1.length c0_1] 35 ?_;intro gb72 hg w3 BK72 hb GW72 HB1;have GE72:=GW72;clear HB hb hg;have HB:=HB1;clear HB1))
 (try simp only [Act.put,zi,zs,zt]);have H:=HC2.out;clear HC2
 rcases if0 H with ⟨c4,H⟩|⟨c4,H⟩
 ·have c4b0:decide ((l0_0.length:Int)≤12)=true:=decide_eq_true c4;have c4b1:decide (l0_0.length≤12)=true:=decide_eq_true (by omega);clear c4
  (first|rw [c4b0]|(simp only [i64_w,i32_w];rw [c4b0])|skip)
  (try rw [c4b1]);obtain rfl:=Option.some.inj H;have hcz5_0:=zc0 BK72;have hcz5_1:=zc1 BK72;have hfz5_0:=zf BK72
  go_wp2
  go_ret
  exact ⟨ze,zv1 HB GE72⟩
 ·have c4b0:decide ((l0_0.length:Int)≤12)=false:=decide_eq_false c4;have c4b1:decide (l0_0.length≤12)=false:=decide_eq_false (by omega);clear c4
  (first|rw [c4b0]|(simp only [i64_w,i32_w];rw [c4b0])|skip)
  (try rw [c4b1]);obtain rfl:=Option.some.inj H;have hcz6_0:=zc0 BK72;have hcz6_1:=zc1 BK72;have hfz6_0:=zf BK72
  go_wp2
  go_ret
  exact ⟨ze,zv1 HB GE72⟩
theorem arr_box {w:World} {g b:Nat} (h:w.heap[g]?=some (.cells #[.bool false,.bool false,.bool false,.bool false,.bool false,.bool false,.bool false,.bool false,.bool false,.bool false,.bool false,.bool false,.bool false,.bool false,.bool false,.bool false,.bool false,.bool false,.bool false,.bool false,.bool false,.bool false,.bool false,.bool false] 42 (0,0))) (hb:b≤g) :
  Kd.R Kd.bool 42 w b (fun _=>True) (.slice (some ⟨g,0,none⟩) 24 24) (List.replicate 24 false):=
 Kd.R_of_own (enc:=Value.bool) (h1:=fun _=>rfl) ⟨by simp [encs],.inr ⟨g,24,_,rfl,hb,h,by simp,by simp [maxLen],rfl,by simp [encs,List.replicate]⟩⟩ (fun _ _=>trivial)
theorem arr_len {w:World} {g b:Nat} {ok:Nat→Prop} {x:List Bool} (h:Kd.R Kd.bool 42 w b ok (.slice (some ⟨g,0,none⟩) 24 24) x):x.length=24:=by
 obtain ⟨A,c,e⟩:=Kd.R_slice h
 injection e with _ e2 _
 exact e2.symm
mutual
def ancepsref40_Few.l0:Nat→List (S35)→List Bool→Int→Int→Int→Option (Bool)
 | 0,_,_,_,_,_=>none
 | k+1,x0,x3,x4,x5,x6=>if x6<(x0.length:Int) then (if 0≤x6 then ((ancepsref38_Few.f ((rd_T35 x0 x6).f0) ((rd_T35 x0 x6).f1)).bind fun t93=>(if t93=true then (ancepsref40_Few.l1 k x0 x3 x4 (wrap64 (x5+(((rd_T35 x0 x6).f1).length:Int))) x6 0) else (some false))) else (none)) else (if x4≤10 then (some (decide (x5≤2000))) else (some false))
def ancepsref40_Few.l1:Nat→List (S35)→List Bool→Int→Int→Int→Int→Option (Bool)
 | 0,_,_,_,_,_,_=>none
 | k+1,x0,x3,x4,x5,x6,x7=>if 0≤x6 then (if x6<(x0.length:Int) then (if x7<(((rd_T35 x0 x6).f0).length:Int) then (if 0≤x7 then (if (rd ((rd_T35 x0 x6).f0) x7)≥0 then (if (rd ((rd_T35 x0 x6).f0) x7)<24 then (if 0≤(rd ((rd_T35 x0 x6).f0) x7) then (if (rd ((rd_T35 x0 x6).f0) x7)<(x3.length:Int) then (if (rdOf false x3 (rd ((rd_T35 x0 x6).f0) x7)=true) then (ancepsref40_Few.l1 k x0 x3 x4 x5 x6 (wrap64 (x7+1))) else (ancepsref40_Few.l1 k x0 (x3.set ((rd ((rd_T35 x0 x6).f0) x7):Int).toNat true) (wrap64 (x4+1)) x5 x6 (wrap64 (x7+1)))) else (none)) else (none)) else (ancepsref40_Few.l1 k x0 x3 x4 x5 x6 (wrap64 (x7+1)))) else (ancepsref40_Few.l1 k x0 x3 x4 x5 x6 (wrap64 (x7+1)))) else (none)) else (ancepsref40_Few.l0 k x0 x3 x4 x5 (wrap64 (x6+1)))) else (none)) else (none)
end
def ancepsref40_Few.f (k:Nat) (l0:List (S35)):Option (Bool):=if (l0.length:Int)>18 then (some false) else (if 24≤281474976710656 then (ancepsref40_Few.l0 k l0 (List.replicate 24 false) 0 0 0) else (none))
set_option maxHeartbeats 8000000 in
set_option maxRecDepth 100000 in
theorem ancepsref40_Few.calls (k:Nat) (A0:Option Addr) (c0:Nat) (l0:List (S35)) (r:Bool) (w:World) (hr0:Kd.C k35 w A0 l0.length l0) (hc0:l0.length≤c0) (h:ancepsref40_Few.f k l0=some r) :
  Calls Try.prog 5 #[.slice A0 l0.length c0] w fun e w'=>e=.returned (.bool r)∧Below w.heap.size w w':=by
 have HR0:=zA hr0;have HC0:=zA hc0;clear hr0 hc0;have HB:=zA (Below.refl w.heap.size w);have H:(if (l0.length:Int)>18 then (some false) else (if 24≤281474976710656 then (ancepsref40_Few.l0 k l0 (List.replicate 24 false) 0 0 0) else (none)))=some r:=h;clear h
 rcases if0 H with ⟨c2,H⟩|⟨c2,H⟩
 ·have c2b0:decide (18<(l0.length:Int))=true:=decide_eq_true c2;have c2b1:decide (18<l0.length)=true:=decide_eq_true (by omega);clear c2;obtain rfl:=Option.some.inj H
  go_enter Try.func5,Try.ntmps5
  go_wp2
  go_ret
  exact ⟨ze,zv0 HB⟩
 ·have c2b0:decide (18<(l0.length:Int))=false:=decide_eq_false c2;have c2b1:decide (18<l0.length)=false:=decide_eq_false (by omega);clear c2;obtain ⟨c3,H⟩:=if1 H;have c3b0:=eq_true c3;have c3b1:decide (24≤281474976710656)=true:=decide_eq_true c3;clear c3
  first|(replace H:=zyb (List.replicate 24 false) H;obtain ⟨y83,Ny83,H⟩:=H)|(obtain ⟨y83,hy83⟩:=zY (List.replicate 24 false);(try rw (occs:=.pos [1]) [← hy83] at H);have Ny83:=zA hy83;clear hy83)
  have H':=zA H;clear H
  go_enter Try.func5,Try.ntmps5
  go_wp2_with (first|((with_reducible refine gate_dst (N:=3) rfl ?_);refine box_event ?hg (N:=3) ?hd (cs:=#[.bool false,.bool false,.bool false,.bool false,.bool false,.bool false,.bool false,.bool false,.bool false,.bool false,.bool false,.bool false,.bool false,.bool false,.bool false,.bool false,.bool false,.bool false,.bool false,.bool false,.bool false,.bool false,.bool false,.bool false]) (t:=42) ?hr ?_;(case hd=>rfl);(case hg=>rfl);(case hr=>first|(go_simp;done)|(go_simp;rfl));intro ga hgA w4 hbox hb;have ho5:=arr_box hbox (Nat.le_of_eq hgA.symm);clear hbox hgA;rw [← Ny83.out] at ho5;have HO98:=zA (Kd.R_lower ho5 (below_size zB));replace HB:=zu hb;clear hb ho5))
  go_loopg [4,5,6] k (fun kq v4 v5 v6 w'=>∃ (x3_1:List Bool) (x4_1:Int) (x5_1:Int) (x6_1:Int),v4=.int .i64 x4_1∧v5=.int .i64 x5_1∧v6=.int .i64 x6_1∧Aside0 (ancepsref40_Few.l0 kq l0 x3_1 x4_1 x5_1 x6_1=some r)∧Aside0 (kq≤k)∧Aside0 (Kd.R Kd.bool 42 w' w.heap.size (fun _=>True) (.slice (some ⟨ga,0,none⟩) 24 24) x3_1)∧Aside0 (Below w.heap.size w w'))
  case atStart=>exact ⟨(y83),(0),(0),(0),zT,zT,zT,H',⟨Nat.le_refl _⟩,⟨by refine zr ?_;exact HO98.out⟩,⟨zv0 HB⟩⟩
  case round=>
   clear H'
   try clear c2
   try clear c2b0
   try clear c2b1
   try clear c3
   try clear c3b0
   try clear c3b1
   obtain ⟨x3_1,x4_1,x5_1,x6_1,rfl,rfl,rfl,HA,HK1,HO_3,HB⟩:=hrel
   cases gk with
   | zero=>exact absurd HA.out (by simp [ancepsref40_Few.l0])
   | succ k1=>
    have H:=HA.out;clear HA;simp only [ancepsref40_Few.l0] at H
    rcases ifd H with ⟨c6b0,H⟩|⟨c6b0,H⟩
    ·obtain ⟨c7b0,H⟩:=ifd1 H;obtain ⟨t93,A8,H⟩:=zo H;have HC9:=zA H;clear H;obtain ⟨p51,q51,ad51,A51_0,c51_0,A51_1,c51_1,e51,hx51_0,hx51_1,hl51_0,hi51_0,hl51_1,hi51_1⟩:=zp (at_T35 HR0.out x6_1)
     cases e51
     replace hx51_0:=zd HB hx51_0;replace hx51_1:=zd HB hx51_1;have HR51_0:=zA hi51_0;have HC51_0:=zA hl51_0;clear hi51_0 hl51_0;have HR51_1:=zA hi51_1;have HC51_1:=zA hl51_1;clear hi51_1 hl51_1;replace p51:=eq_true p51;replace q51:=eq_true q51
     go_upto_if 23 with (first|((with_reducible refine gate_callee (f:=14) rfl ?_);refine zgo 22 Try.func14 #[.agg #[.slice A51_0 ((rd_T35 l0 x6_1).f0).length c51_0,.slice A51_1 ((rd_T35 l0 x6_1).f1).length c51_1]] ?_;(with_reducible refine (ancepsref38_Few.calls _ _ ((rd_T35 l0 x6_1).f0) _ _ ((rd_T35 l0 x6_1).f1) t93 _ (zD HR51_0 HB) HC51_0.out (zD HR51_1 HB) HC51_1.out A8.out).mono ?_);rintro e w10 ⟨rfl,hb⟩;refine ⟨_,rfl,?_⟩;replace HO_3:=zA (Kd.R_below (zR HO_3) hb);replace HB:=zu hb;clear hb))
     (try simp only [Act.put,zi,zs,zt]);have H:=HC9.out;clear HC9
     by_cases c11:t93=true
     ·subst c11
      have H1:(ancepsref40_Few.l1 k1 l0 x3_1 x4_1 (wrap64 (x5_1+(((rd_T35 l0 x6_1).f1).length:Int))) x6_1 0)=some r:=by rw [if_pos rfl] at H;exact H
      clear H;have H:=H1;clear H1;have H':=zA H;clear H;obtain ⟨p54,q54,ad54,A54_0,c54_0,A54_1,c54_1,e54,hx54_0,hx54_1,hl54_0,hi54_0,hl54_1,hi54_1⟩:=zp (at_T35 HR0.out x6_1)
      obtain rfl:ad51=ad54:=(by injection e54)
      replace hx54_0:=zd HB hx54_0;replace hx54_1:=zd HB hx54_1;have HR54_0:=zA hi54_0;have HC54_0:=zA hl54_0;clear hi54_0 hl54_0;have HR54_1:=zA hi54_1;have HC54_1:=zA hl54_1;clear hi54_1 hl54_1;replace p54:=eq_true p54;replace q54:=eq_true q54
      go_wp2
      go_loopg [4,7] k1 (fun kq v4 v7 w'=>∃ (x3_2:List Bool) (x4_2:Int) (x7_2:Int),v4=.int .i64 x4_2∧v7=.int .i64 x7_2∧Aside0 (ancepsref40_Few.l1 kq l0 x3_2 x4_2 (wrap64 (x5_1+(((rd_T35 l0 x6_1).f1).length:Int))) x6_1 x7_2=some r)∧Aside0 (kq≤k1)∧Aside0 (Kd.R Kd.bool 42 w' w.heap.size (fun _=>True) (.slice (some ⟨ga,0,none⟩) 24 24) x3_2)∧Aside0 (Below w.heap.size w w'))
      case atStart=>exact ⟨(x3_1),(x4_1),(0),zT,zT,H',⟨Nat.le_refl _⟩,⟨by refine zr ?_;exact HO_3.out⟩,⟨zv0 HB⟩⟩
      case round=>
       clear H'
       try clear c2
       try clear c2b0
       try clear c2b1
       try clear c3
       try clear c3b0
       try clear c3b1
       try clear c6
       try clear c6b0
       try clear c7
       try clear c7b0
       try clear c11
       try clear hx51_0
       try clear hx51_1
       try clear hx54_0
       try clear hx54_1
       try clear p51
       try clear p54
       try clear q51
       try clear q54
       obtain ⟨x3_2,x4_2,x7_2,rfl,rfl,HA,HK2,HO_3,HB⟩:=hrel
       cases gk with
       | zero=>exact absurd HA.out (by simp [ancepsref40_Few.l1])
       | succ k2=>
        have H:=HA.out;clear HA;simp only [ancepsref40_Few.l1] at H;obtain ⟨c12b0,H⟩:=ifd1 H
        (first|rw [c12b0]|(simp only [i64_w,i32_w];rw [c12b0])|skip)
        obtain ⟨c13b0,H⟩:=ifd1 H
        rcases ifd H with ⟨c14b0,H⟩|⟨c14b0,H⟩
        ·obtain ⟨c15b0,H⟩:=ifd1 H
         rcases if0 H with ⟨c16,H⟩|⟨c16,H⟩
         ·have c16b0:decide (0≤(rd ((rd_T35 l0 x6_1).f0) x7_2))=true:=decide_eq_true c16;clear c16
          rcases ifd H with ⟨c17b0,H⟩|⟨c17b0,H⟩
          ·obtain ⟨c18b0,H⟩:=ifd1 H;obtain ⟨c19b0,H⟩:=ifd1 H
           obtain ⟨bq20,hbq20⟩:∃ b_:Bool,b_=(rdOf false x3_2 (rd ((rd_T35 l0 x6_1).f0) x7_2)):=⟨_,rfl⟩
           replace H:(if (bq20=true) then (ancepsref40_Few.l1 k2 l0 x3_2 x4_2 (wrap64 (x5_1+(((rd_T35 l0 x6_1).f1).length:Int))) x6_1 (wrap64 (x7_2+1))) else (ancepsref40_Few.l1 k2 l0 (x3_2.set ((rd ((rd_T35 l0 x6_1).f0) x7_2):Int).toNat true) (wrap64 (x4_2+1)) (wrap64 (x5_1+(((rd_T35 l0 x6_1).f1).length:Int))) x6_1 (wrap64 (x7_2+1))))=some r:=by rw [← hbq20] at H;exact H
           have Nbq20:=zA hbq20;clear hbq20
           by_cases c21:(bq20=true)
           ·subst c21
            have H1:(ancepsref40_Few.l1 k2 l0 x3_2 x4_2 (wrap64 (x5_1+(((rd_T35 l0 x6_1).f1).length:Int))) x6_1 (wrap64 (x7_2+1)))=some r:=by rw [if_pos rfl] at H;exact H
            clear H;have H:=H1;clear H1;have H':=zA H;clear H;obtain ⟨p46,q46,ad46,A46_0,c46_0,A46_1,c46_1,e46,hx46_0,hx46_1,hl46_0,hi46_0,hl46_1,hi46_1⟩:=zp (at_T35 HR0.out x6_1)
            obtain rfl:ad51=ad46:=(by injection e46)
            replace hx46_0:=zd HB hx46_0;replace hx46_1:=zd HB hx46_1;have HR46_0:=zA hi46_0;have HC46_0:=zA hl46_0;clear hi46_0 hl46_0;have HR46_1:=zA hi46_1;have HC46_1:=zA hl46_1;clear hi46_1 hl46_1;replace p46:=eq_true p46;replace q46:=eq_true q46;obtain ⟨p47,q47,ad47,A47_0,c47_0,A47_1,c47_1,e47,hx47_0,hx47_1,hl47_0,hi47_0,hl47_1,hi47_1⟩:=zp (at_T35 HR0.out x6_1)
            obtain rfl:ad51=ad47:=(by injection e47)
            replace hx47_0:=zd HB hx47_0;replace hx47_1:=zd HB hx47_1;have HR47_0:=zA hi47_0;have HC47_0:=zA hl47_0;clear hi47_0 hl47_0;have HR47_1:=zA hi47_1;have HC47_1:=zA hl47_1;clear hi47_1 hl47_1;replace p47:=eq_true p47;replace q47:=eq_true q47;have ea_:=Option.some.inj (hx46_0.symm.trans hx47_0)
            injection ea_ with ea_ en_ ec_
            subst ea_;subst ec_;clear en_;have ea_:=Option.some.inj (hx46_1.symm.trans hx47_1)
            injection ea_ with ea_ en_ ec_
            subst ea_;subst ec_;clear en_;obtain ⟨p52,q52,ad52,e52,hx52_0⟩:=zp (Kd.at_int HR47_0.out x7_2)
            cases e52
            replace hx52_0:=zd HB hx52_0;replace p52:=eq_true p52;replace q52:=eq_true q52;have p61:0≤((rd ((rd_T35 l0 x6_1).f0) x7_2):Int):=of_decide_eq_true zh;have q61:(rd ((rd_T35 l0 x6_1).f0) x7_2)<(x3_2.length:Int):=of_decide_eq_true zh;have hl24_:=arr_len HO_3.out;have ha24_:((rd ((rd_T35 l0 x6_1).f0) x7_2)<24)=True:=eq_true (by omega);have hx61_0:=(Kd.R_celln false HO_3.out (rd ((rd_T35 l0 x6_1).f0) x7_2) p61 (by omega)).1;(try rw [← Nbq20.out] at hx61_0);replace p61:=eq_true p61;replace q61:=eq_true q61
            go_wp2
            go_roundg k2
            case measure=>have:=HK1.out;have:=HK2.out;omega
            case rel=>exact ⟨(x3_2),(x4_2),(wrap64 (x7_2+1)),zT,zT,H',⟨by have:=HK1.out;have:=HK2.out;omega⟩,⟨by refine zr ?_;exact HO_3.out⟩,⟨zv0 HB⟩⟩
           ·replace c21:=Bool.eq_false_iff.mpr c21;subst c21
            have H1:(ancepsref40_Few.l1 k2 l0 (x3_2.set ((rd ((rd_T35 l0 x6_1).f0) x7_2):Int).toNat true) (wrap64 (x4_2+1)) (wrap64 (x5_1+(((rd_T35 l0 x6_1).f1).length:Int))) x6_1 (wrap64 (x7_2+1)))=some r:=by rw [if_neg (show ¬ (false=true) by decide)] at H;exact H
            clear H;have H:=H1;clear H1
            first|(replace H:=zyb (x3_2.set ((rd ((rd_T35 l0 x6_1).f0) x7_2):Int).toNat true) H;obtain ⟨y80,Ny80,H⟩:=H)|(obtain ⟨y80,hy80⟩:=zY (x3_2.set ((rd ((rd_T35 l0 x6_1).f0) x7_2):Int).toNat true);(try rw (occs:=.pos [1]) [← hy80] at H);have Ny80:=zA hy80;clear hy80)
            have H':=zA H;clear H;obtain ⟨p46,q46,ad46,A46_0,c46_0,A46_1,c46_1,e46,hx46_0,hx46_1,hl46_0,hi46_0,hl46_1,hi46_1⟩:=zp (at_T35 HR0.out x6_1)
            obtain rfl:ad51=ad46:=(by injection e46)
            replace hx46_0:=zd HB hx46_0;replace hx46_1:=zd HB hx46_1;have HR46_0:=zA hi46_0;have HC46_0:=zA hl46_0;clear hi46_0 hl46_0;have HR46_1:=zA hi46_1;have HC46_1:=zA hl46_1;clear hi46_1 hl46_1;replace p46:=eq_true p46;replace q46:=eq_true q46;obtain ⟨p47,q47,ad47,A47_0,c47_0,A47_1,c47_1,e47,hx47_0,hx47_1,hl47_0,hi47_0,hl47_1,hi47_1⟩:=zp (at_T35 HR0.out x6_1)
            obtain rfl:ad51=ad47:=(by injection e47)
            replace hx47_0:=zd HB hx47_0;replace hx47_1:=zd HB hx47_1;have HR47_0:=zA hi47_0;have HC47_0:=zA hl47_0;clear hi47_0 hl47_0;have HR47_1:=zA hi47_1;have HC47_1:=zA hl47_1;clear hi47_1 hl47_1;replace p47:=eq_true p47;replace q47:=eq_true q47;have ea_:=Option.some.inj (hx46_0.symm.trans hx47_0)
            injection ea_ with ea_ en_ ec_
            subst ea_;subst ec_;clear en_;have ea_:=Option.some.inj (hx46_1.symm.trans hx47_1)
            injection ea_ with ea_ en_ ec_
            subst ea_;subst ec_;clear en_;obtain ⟨p52,q52,ad52,e52,hx52_0⟩:=zp (Kd.at_int HR47_0.out x7_2)
            cases e52
            replace hx52_0:=zd HB hx52_0;replace p52:=eq_true p52;replace q52:=eq_true q52;have p61:0≤((rd ((rd_T35 l0 x6_1).f0) x7_2):Int):=of_decide_eq_true zh;have q61:(rd ((rd_T35 l0 x6_1).f0) x7_2)<(x3_2.length:Int):=of_decide_eq_true zh;have hl24_:=arr_len HO_3.out;have ha24_:((rd ((rd_T35 l0 x6_1).f0) x7_2)<24)=True:=eq_true (by omega);have hx61_0:=(Kd.R_celln false HO_3.out (rd ((rd_T35 l0 x6_1).f0) x7_2) p61 (by omega)).1;(try rw [← Nbq20.out] at hx61_0);replace p61:=eq_true p61;replace q61:=eq_true q61;have p23:0≤((rd ((rd_T35 l0 x6_1).f0) x7_2):Int):=of_decide_eq_true zh
            have q23:((rd ((rd_T35 l0 x6_1).f0) x7_2):Int)<24:=by first|omega|exact of_decide_eq_true zh|(have h2_:(rd ((rd_T35 l0 x6_1).f0) x7_2)<(x3_2.length:Int):=of_decide_eq_true zh;have h3_:=arr_len HO_3.out;omega)
            have hl24b_:=arr_len HO_3.out;have gb23:=Kd.R_base HO_3.out ga rfl;have GB23:=zA gb23;clear gb23
            (first|simp only [add_plain] at hx61_0|skip)
            obtain ⟨hx23_0,hf23_0⟩:=Kd.R_celln false HO_3.out ((rd ((rd_T35 l0 x6_1).f0) x7_2):Int) p23 q23;replace p23:=eq_true p23;replace q23:=eq_true q23;have HP25:=Kd.R_putg HO_3.out ((rd ((rd_T35 l0 x6_1).f0) x7_2):Int) true
            go_wp2_with (first|((with_reducible refine gate_store (t:=4) (p:=63) rfl ?_);refine store_event (t:=4) (p:=63) (v:=?vo_w26) (w1:=(wr.setCell ⟨ga,((rd ((rd_T35 l0 x6_1).f0) x7_2):Int).toNat,none⟩ (.bool true))) ?hg ?ho ?hn ?hr ?_;(case ho=>rfl);(case hg=>rfl);(case hn=>rfl);(case hr=>first|(go_simp;done)|(go_simp;rfl));intro w26 hw;have hg:wr.grownBy w26 (some ga):=(by rw [hw];exact HP25.2);have hp_:Kd.R Kd.bool 42 w26 w.heap.size (fun _=>True) (.slice (some ⟨ga,0,none⟩) 24 24) y80:=(by rw [hw,Ny80.out];exact HP25.1);clear HP25;replace HO_3:=zA (hp_);replace HB:=zA ((by rw [hw];exact below_set (HB.out) GB23.out:Below w.heap.size w w26));clear hg hw hp_))
            go_roundg k2
            case measure=>have:=HK1.out;have:=HK2.out;omega
            case rel=>exact ⟨(y80),(wrap64 (x4_2+1)),(wrap64 (x7_2+1)),zT,zT,H',⟨by have:=HK1.out;have:=HK2.out;omega⟩,⟨by refine zr ?_;exact HO_3.out⟩,⟨zv0 HB⟩⟩
          ·have H':=zA H;clear H;obtain ⟨p46,q46,ad46,A46_0,c46_0,A46_1,c46_1,e46,hx46_0,hx46_1,hl46_0,hi46_0,hl46_1,hi46_1⟩:=zp (at_T35 HR0.out x6_1)
           obtain rfl:ad51=ad46:=(by injection e46)
           replace hx46_0:=zd HB hx46_0;replace hx46_1:=zd HB hx46_1;have HR46_0:=zA hi46_0;have HC46_0:=zA hl46_0;clear hi46_0 hl46_0;have HR46_1:=zA hi46_1;have HC46_1:=zA hl46_1;clear hi46_1 hl46_1;replace p46:=eq_true p46;replace q46:=eq_true q46;obtain ⟨p47,q47,ad47,A47_0,c47_0,A47_1,c47_1,e47,hx47_0,hx47_1,hl47_0,hi47_0,hl47_1,hi47_1⟩:=zp (at_T35 HR0.out x6_1)
           obtain rfl:ad51=ad47:=(by injection e47)
           replace hx47_0:=zd HB hx47_0;replace hx47_1:=zd HB hx47_1;have HR47_0:=zA hi47_0;have HC47_0:=zA hl47_0;clear hi47_0 hl47_0;have HR47_1:=zA hi47_1;have HC47_1:=zA hl47_1;clear hi47_1 hl47_1;replace p47:=eq_true p47;replace q47:=eq_true q47;have ea_:=Option.some.inj (hx46_0.symm.trans hx47_0)
           injection ea_ with ea_ en_ ec_
           subst ea_;subst ec_;clear en_;have ea_:=Option.some.inj (hx46_1.symm.trans hx47_1)
           injection ea_ with ea_ en_ ec_
           subst ea_;subst ec_;clear en_;obtain ⟨p52,q52,ad52,e52,hx52_0⟩:=zp (Kd.at_int HR47_0.out x7_2)
           cases e52
           replace hx52_0:=zd HB hx52_0;replace p52:=eq_true p52;replace q52:=eq_true q52
           go_wp2
           go_roundg k2
           case measure=>have:=HK1.out;have:=HK2.out;omega
           case rel=>exact ⟨(x3_2),(x4_2),(wrap64 (x7_2+1)),zT,zT,H',⟨by have:=HK1.out;have:=HK2.out;omega⟩,⟨by refine zr ?_;exact HO_3.out⟩,⟨zv0 HB⟩⟩
         ·have c16b0:decide (0≤(rd ((rd_T35 l0 x6_1).f0) x7_2))=false:=decide_eq_false c16;clear c16;have H':=zA H;clear H;obtain ⟨p46,q46,ad46,A46_0,c46_0,A46_1,c46_1,e46,hx46_0,hx46_1,hl46_0,hi46_0,hl46_1,hi46_1⟩:=zp (at_T35 HR0.out x6_1)
          obtain rfl:ad51=ad46:=(by injection e46)
          replace hx46_0:=zd HB hx46_0;replace hx46_1:=zd HB hx46_1;have HR46_0:=zA hi46_0;have HC46_0:=zA hl46_0;clear hi46_0 hl46_0;have HR46_1:=zA hi46_1;have HC46_1:=zA hl46_1;clear hi46_1 hl46_1;replace p46:=eq_true p46;replace q46:=eq_true q46;obtain ⟨p47,q47,ad47,A47_0,c47_0,A47_1,c47_1,e47,hx47_0,hx47_1,hl47_0,hi47_0,hl47_1,hi47_1⟩:=zp (at_T35 HR0.out x6_1)
          obtain rfl:ad51=ad47:=(by injection e47)
          replace hx47_0:=zd HB hx47_0;replace hx47_1:=zd HB hx47_1;have HR47_0:=zA hi47_0;have HC47_0:=zA hl47_0;clear hi47_0 hl47_0;have HR47_1:=zA hi47_1;have HC47_1:=zA hl47_1;clear hi47_1 hl47_1;replace p47:=eq_true p47;replace q47:=eq_true q47;have ea_:=Option.some.inj (hx46_0.symm.trans hx47_0)
          injection ea_ with ea_ en_ ec_
          subst ea_;subst ec_;clear en_;have ea_:=Option.some.inj (hx46_1.symm.trans hx47_1)
          injection ea_ with ea_ en_ ec_
          subst ea_;subst ec_;clear en_;obtain ⟨p52,q52,ad52,e52,hx52_0⟩:=zp (Kd.at_int HR47_0.out x7_2)
          cases e52
          replace hx52_0:=zd HB hx52_0;replace p52:=eq_true p52;replace q52:=eq_true q52
          go_wp2
          go_roundg k2
          case measure=>have:=HK1.out;have:=HK2.out;omega
          case rel=>exact ⟨(x3_2),(x4_2),(wrap64 (x7_2+1)),zT,zT,H',⟨by have:=HK1.out;have:=HK2.out;omega⟩,⟨by refine zr ?_;exact HO_3.out⟩,⟨zv0 HB⟩⟩
        ·have H':=zA H;clear H;obtain ⟨p46,q46,ad46,A46_0,c46_0,A46_1,c46_1,e46,hx46_0,hx46_1,hl46_0,hi46_0,hl46_1,hi46_1⟩:=zp (at_T35 HR0.out x6_1)
         obtain rfl:ad51=ad46:=(by injection e46)
         replace hx46_0:=zd HB hx46_0;replace hx46_1:=zd HB hx46_1;have HR46_0:=zA hi46_0;have HC46_0:=zA hl46_0;clear hi46_0 hl46_0;have HR46_1:=zA hi46_1;have HC46_1:=zA hl46_1;clear hi46_1 hl46_1;replace p46:=eq_true p46;replace q46:=eq_true q46
         go_wp2
         go_roundg k2
         case measure=>have:=HK1.out;have:=HK2.out;omega
         case rel=>exact ⟨(x3_2),(x4_2),((wrap64 (x5_1+(((rd_T35 l0 x6_1).f1).length:Int)))),(wrap64 (x6_1+1)),zT,zT,zT,H',⟨by have:=HK1.out;have:=HK2.out;omega⟩,⟨by refine zr ?_;exact HO_3.out⟩,⟨zv0 HB⟩⟩
     ·replace c11:=Bool.eq_false_iff.mpr c11;subst c11
      have H1:(some false)=some r:=by rw [if_neg (show ¬ (false=true) by decide)] at H;exact H
      clear H;have H:=H1;clear H1;obtain rfl:=Option.some.inj H
      go_wp2
      go_ret
      exact ⟨ze,zv0 HB⟩
    ·rcases ifd H with ⟨c27b0,H⟩|⟨c27b0,H⟩
     ·obtain rfl:=Option.some.inj H
      go_wp2
      go_ret
      exact ⟨ze,zv0 HB⟩
     ·obtain rfl:=Option.some.inj H
      go_wp2
      go_ret
      exact ⟨ze,zv0 HB⟩
end Go.Proofs.Ytkaalbbbpebpdaa.T
