import Derived.Test.YtkjghablbeaioaaG0
import Derived.Test.YtkjghablbeaioaaG5
import Derived.Test.YtkjghablbeaioaaG6
import Derived.Test.YtkjghablbeaioaaG8
import Derived.Test.YtkjghablbeaioaaG9
import Derived.Test.YtkjghablbeaioaaG10
namespace Go.Proofs.Ytkjghablbeaioaa.G
open Go.RowKit Go.Proofs.YtkjghablbeaioaaW.PrintWords Go.Proofs.YtkjghablbeaioaaW.PrintLast Go.Proofs.YtkjghablbeaioaaW.PrintMore
attribute [local go_sem] max2_int min2_int max_two min_two max_three min_three max_four min_four
set_option linter.unusedVariables false
set_option linter.unusedSimpArgs false
def ancepslaw42_ConflictGrows.f (k:Nat) (l0:List (S54)) (a1_0:Int) (a1_1:Int):Option (Bool):=(ancepsref40_Made.f k l0).bind fun t573=>(if (t573.length:Int)>5 then (if 5≤(t573.length:Int) then ((some (t573.take (5:Int).toNat:List (S50))).bind fun y577=>((ancepslaw42_copied.f k y577).bind fun t580=>((ancepsref38_Made.f k a1_0 a1_1).bind fun bt583=>(if t580.length<2932031007402 then ((some (t580++[(⟨bt583.1,bt583.2⟩:S50)]:List (S50))).bind fun y589=>((ancepslaw42_awake.f k).bind fun t592=>(if t592=true then ((ancepsref42_Few.f k y589).bind fun t593=>(if t593=true then ((ancepsref42_Valid.f k y589).bind fun t594=>(if t594=0 then ((conflict_Cores.f k y577).bind fun bt595=>((conflict_Cores.f k y589).bind fun bt599=>(if bt595.2=0 then (if bt599.2=0 then ((slices_Clone_int_int_33.f bt599.1).bind fun t603=>((slices_DeleteFunc_int_int_ancepslaw42_ConflictGrows_1.f t603 y577).bind fun t606=>((ancepsref42_Lists.f k t606 bt595.1).bind fun t609=>(some t609)))) else (none)) else (none)))) else ((ancepslaw42_awake.f k).bind fun t610=>(some t610)))) else ((ancepslaw42_awake.f k).bind fun t611=>(some t611)))) else ((ancepslaw42_awake.f k).bind fun t612=>(some t612))))) else (none))))) else (none)) else ((ancepslaw42_copied.f k t573).bind fun t613=>((ancepsref38_Made.f k a1_0 a1_1).bind fun bt616=>(if t613.length<2932031007402 then ((some (t613++[(⟨bt616.1,bt616.2⟩:S50)]:List (S50))).bind fun y622=>((ancepslaw42_awake.f k).bind fun t625=>(if t625=true then ((ancepsref42_Few.f k y622).bind fun t626=>(if t626=true then ((ancepsref42_Valid.f k y622).bind fun t627=>(if t627=0 then ((conflict_Cores.f k t573).bind fun bt628=>((conflict_Cores.f k y622).bind fun bt632=>(if bt628.2=0 then (if bt632.2=0 then ((slices_Clone_int_int_33.f bt632.1).bind fun t636=>((slices_DeleteFunc_int_int_ancepslaw42_ConflictGrows_1.f t636 t573).bind fun t639=>((ancepsref42_Lists.f k t639 bt628.1).bind fun t642=>(some t642)))) else (none)) else (none)))) else ((ancepslaw42_awake.f k).bind fun t643=>(some t643)))) else ((ancepslaw42_awake.f k).bind fun t644=>(some t644)))) else ((ancepslaw42_awake.f k).bind fun t645=>(some t645))))) else (none)))))
theorem ancepslaw42_ConflictGrows.mono:∀ a0 a1 a2 k,LeO (ancepslaw42_ConflictGrows.f k a0 a1 a2) (ancepslaw42_ConflictGrows.f (k+1) a0 a1 a2):=by
 intro a0 a1 a2 k
 unfold ancepslaw42_ConflictGrows.f
 repeat' first
   | (with_reducible exact ancepslaw42_awake.mono _)
   | (with_reducible exact ancepslaw42_copied.mono _ _)
   | (with_reducible exact ancepsref38_Made.mono _ _ _)
   | (with_reducible exact ancepsref40_Made.mono _ _)
   | (with_reducible exact ancepsref42_Few.mono _ _)
   | (with_reducible exact ancepsref42_Lists.mono _ _ _)
   | (with_reducible exact ancepsref42_Valid.mono _ _)
   | (with_reducible exact conflict_Cores.mono _ _)
   | (with_reducible exact LeO.refl _)
   | (with_reducible exact LeO.none _)
   | (with_reducible refine LeO.ite ?_ ?_)
   | (with_reducible refine LeO.bind ?_ (fun _=>?_))
   | exact LeO.none _
   | refine LeO.ite ?_ ?_
   | refine LeO.bind ?_ (fun _=>?_)
set_option maxHeartbeats 8000000 in
set_option maxRecDepth 100000 in
theorem ancepslaw42_ConflictGrows.calls (k:Nat) (A0:Option Addr) (c0:Nat) (l0:List (S54)) (a1_0:Int) (a1_1:Int) (r:Bool) (w:World) (hr0:Kd.C k54 w A0 l0.length l0) (hc0:l0.length≤c0) (h:ancepslaw42_ConflictGrows.f k l0 a1_0 a1_1=some r) :
  Calls Try.prog 7 #[.slice A0 l0.length c0,.agg #[.int .u32 a1_0,.int .u64 a1_1]] w fun e w'=>e=.returned (.bool r)∧Below w.heap.size w w':=by
 have hu54:=Try.underlying54
 have hu22:=Try.underlying22
 have HR0:=zA hr0
 have HC0:=zA hc0
 clear hr0 hc0
 have HB:=zA (Below.refl w.heap.size w)
 have H:((ancepsref40_Made.f k l0).bind fun t573=>(if (t573.length:Int)>5 then (if 5≤(t573.length:Int) then ((some (t573.take (5:Int).toNat:List (S50))).bind fun y577=>((ancepslaw42_copied.f k y577).bind fun t580=>((ancepsref38_Made.f k a1_0 a1_1).bind fun bt583=>(if t580.length<2932031007402 then ((some (t580++[(⟨bt583.1,bt583.2⟩:S50)]:List (S50))).bind fun y589=>((ancepslaw42_awake.f k).bind fun t592=>(if t592=true then ((ancepsref42_Few.f k y589).bind fun t593=>(if t593=true then ((ancepsref42_Valid.f k y589).bind fun t594=>(if t594=0 then ((conflict_Cores.f k y577).bind fun bt595=>((conflict_Cores.f k y589).bind fun bt599=>(if bt595.2=0 then (if bt599.2=0 then ((slices_Clone_int_int_33.f bt599.1).bind fun t603=>((slices_DeleteFunc_int_int_ancepslaw42_ConflictGrows_1.f t603 y577).bind fun t606=>((ancepsref42_Lists.f k t606 bt595.1).bind fun t609=>(some t609)))) else (none)) else (none)))) else ((ancepslaw42_awake.f k).bind fun t610=>(some t610)))) else ((ancepslaw42_awake.f k).bind fun t611=>(some t611)))) else ((ancepslaw42_awake.f k).bind fun t612=>(some t612))))) else (none))))) else (none)) else ((ancepslaw42_copied.f k t573).bind fun t613=>((ancepsref38_Made.f k a1_0 a1_1).bind fun bt616=>(if t613.length<2932031007402 then ((some (t613++[(⟨bt616.1,bt616.2⟩:S50)]:List (S50))).bind fun y622=>((ancepslaw42_awake.f k).bind fun t625=>(if t625=true then ((ancepsref42_Few.f k y622).bind fun t626=>(if t626=true then ((ancepsref42_Valid.f k y622).bind fun t627=>(if t627=0 then ((conflict_Cores.f k t573).bind fun bt628=>((conflict_Cores.f k y622).bind fun bt632=>(if bt628.2=0 then (if bt632.2=0 then ((slices_Clone_int_int_33.f bt632.1).bind fun t636=>((slices_DeleteFunc_int_int_ancepslaw42_ConflictGrows_1.f t636 t573).bind fun t639=>((ancepsref42_Lists.f k t639 bt628.1).bind fun t642=>(some t642)))) else (none)) else (none)))) else ((ancepslaw42_awake.f k).bind fun t643=>(some t643)))) else ((ancepslaw42_awake.f k).bind fun t644=>(some t644)))) else ((ancepslaw42_awake.f k).bind fun t645=>(some t645))))) else (none))))))=some r:=h
 clear h
 obtain ⟨t573,A3,H⟩:=zo H
 have HC4:=zA H
 clear H
 go_enter Try.func7,Try.ntmps7
 go_upto_if 16 with (first|((with_reducible refine gd 3 rfl ?_);refine zx #[.int .u32 a1_0,.int .u64 a1_1] 54 (h:=?_);intro gb572 hg w5 BK572 hb GW572 HB1;have GE572:=GW572;clear HB hb hg;have HB:=HB1;clear HB1)|((with_reducible refine gate_callee (f:=25) rfl ?_);refine goesL_ (some 13) rfl rfl Try.func25 zK rfl #[.slice A0 l0.length c0] rfl zM ?_;(with_reducible refine (ancepsref40_Made.calls k _ _ l0 t573 _ (zD HR0 HB) HC0.out A3.out).mono ?_);rintro e w6 ⟨v574,rfl,ho0,hb⟩;refine ⟨_,rfl,?_⟩;have HO575:=zA (Kd.N_lower (Kd.N_mono (ok':=fun k_=>k_≠gb572) (Kd.S_N (Kd.S_bound ho0)) (fun k_ hk_=>(Kd.freshB (g:=gb572) (o:=.cells #[.int .u32 a1_0,.int .u64 a1_1] 54 (0,0)) (zk BK572) k_ hk_.2.1))) (below_size zB));replace BK572:=zw BK572 hb;replace HB:=zu hb;clear hb;(try clear ho0))|((with_reducible refine gd 5 rfl ?_);refine zx #[.slice none 0 0] 22 (h:=?_);intro gb576 hg w7 BK576 hb GW576 HB1;have GE576:=GW576;have NB572_576:=zL hg BK572;have NB576_572:=zLs NB572_576;replace HO575:=zA (Kd.N_below (Kd.N_elderB (zN HO575) gb576 (Nat.le_of_eq hg.symm)) hb);replace BK572:=zw BK572 hb;clear HB hb hg;have HB:=HB1;clear HB1;obtain ⟨Ao8,co8,eo8⟩:=Kd.N_slice HO575.out;subst eo8;have hnb9:=NB576_572.out;have hnc9:=NB572_576.out;have hcz10_0:=zc0 BK576;have hfz10_0:=zf BK576 0))
 (try simp only [Act.put,zi,zs,zt])
 have H:=HC4.out
 clear HC4
 rcases if0 H with ⟨c11,H⟩|⟨c11,H⟩
 ·have c11b0:decide (5<(t573.length:Int))=true:=decide_eq_true c11
  have c11b1:decide (5<t573.length)=true:=decide_eq_true (by omega)
  clear c11
  (first|rw [c11b0]|(simp only [i64_w,i32_w];rw [c11b0])|skip)
  (try rw [c11b1])
  obtain ⟨c12,H⟩:=if1 H
  have c12b0:=eq_true c12
  have c12b1:decide (5≤(t573.length:Int))=true:=decide_eq_true c12
  clear c12
  first|(replace H:=zyb (t573.take (5:Int).toNat) H;obtain ⟨y577,Ny577,H⟩:=H)|(obtain ⟨y577,hy577⟩:=zY (t573.take (5:Int).toNat);(try rw (occs:=.pos [1]) [← hy577] at H);have Ny577:=zA hy577;clear hy577)
  obtain ⟨t580,A13,H⟩:=zo H
  obtain ⟨t583,t586,A14,H⟩:=zO H
  dsimp only at H
  obtain ⟨c15,H⟩:=if1 H
  have LMc15:=zA c15
  clear c15
  first|(replace H:=zyb (t580++[(⟨t583,t586⟩:S50)]) H;obtain ⟨y589,Ny589,H⟩:=H)|(obtain ⟨y589,hy589⟩:=zY (t580++[(⟨t583,t586⟩:S50)]);(try rw (occs:=.pos [1]) [← hy589] at H);have Ny589:=zA hy589;clear hy589)
  have HC16:=zA H
  clear H
  have hnb17:=NB576_572.out
  have hnc17:=NB572_576.out
  have hcz18_0:=zc0 BK576
  have hfz18_0:=zf BK576 0
  have n0_:Aside0 (Kd.N k50 50 (w7.setCell ⟨gb576,0,none⟩ (.slice Ao8 t573.length co8)) w.heap.size (fun k_=>k_≠gb572∧k_≠gb576) (.slice Ao8 t573.length co8) t573):=⟨by (with_reducible repeat (first|apply Kd.N_alloc|apply Kd.N_drewN|apply Kd.N_drew));exact Kd.N_mono (Kd.N_far (p:=⟨gb576,0,none⟩) (Kd.N_mono HO575.out (fun k_ hk=>(⟨hk,hk.2⟩:_∧k_≠gb576))) (fun _ hk=>hk.2) (.slice Ao8 t573.length co8)) (fun _ hk=>⟨hk.1.1,hk.1.2⟩)⟩
  have n1_:Aside0 ((w7.setCell ⟨gb576,0,none⟩ (.slice Ao8 t573.length co8)).heap[gb572]?=some (.cells #[.int .u32 a1_0,.int .u64 a1_1] 54 (0,0))):=⟨by refine zj ?_;refine blk_far ?_ NB572_576.out _;refine zj ?_;exact BK572.out⟩
  have n2_:Aside0 ((w7.setCell ⟨gb576,0,none⟩ (.slice Ao8 t573.length co8)).heap[gb576]?=some (.cells #[.slice Ao8 t573.length co8] 22 (0,0))):=⟨by refine zj ?_;refine blk_put (cs:=#[.slice none 0 0]) ?_ 0 _ rfl;refine zj ?_;exact BK576.out⟩
  have n3_:Aside0 (Below w.heap.size w (w7.setCell ⟨gb576,0,none⟩ (.slice Ao8 t573.length co8))):=⟨by repeat (first|(with_reducible first|exact HB.out|apply below_alloc|apply pw_below_drewN|apply below_drew1|refine below_set ?_ GE572.out|refine below_set ?_ GE576.out)|exact HB.out)⟩
  (try clear HO575)
  (try clear BK572)
  (try clear BK576)
  (try clear HB)
  generalize (w7.setCell ⟨gb576,0,none⟩ (.slice Ao8 t573.length co8))=w20 at n0_ n1_ n2_ n3_ ⊢
  have HO575:=n0_
  have BK572:=n1_
  have BK576:=n2_
  have HB:=n3_
  clear n0_ n1_ n2_ n3_
  have q19:(5:Int)≤((t573.length:Int):Int):=of_decide_eq_true zh
  obtain ⟨i019,hi019,_,hsz19,_⟩:=info_parts info50
  have hcut19:=cut_to (P:=Try.prog) 22 50 .i64 Try.underlying22 hi019 Ao8 t573.length co8 5 (by omega) q19 (Kd.N_reads' HO575.out).2.1
  have hr19:=Kd.N_take (m:=(5:Int).toNat) HO575.out (by omega)
  have hy19:y577.length=(5:Int).toNat:=(by rw [Ny577.out,List.length_take];omega)
  rw [← Ny577.out] at hr19
  rw [← hy19] at hr19 hcut19
  clear hy19 hi019 hsz19 HO575
  have HO579:=zA hr19
  clear hr19
  replace q19:=eq_true q19
  have hcz21_0:=zc0 BK576
  have hfz21_0:=zf BK576 0
  try go_wp2
  have n0_:Aside0 (Kd.N k50 50 (w20.setCell ⟨gb576,0,none⟩ (.slice Ao8 y577.length co8)) w.heap.size (fun k_=>k_≠gb572∧k_≠gb576) (.slice Ao8 y577.length co8) y577):=⟨by (with_reducible repeat (first|apply Kd.N_alloc|apply Kd.N_drewN|apply Kd.N_drew));exact Kd.N_mono (Kd.N_far (p:=⟨gb576,0,none⟩) (Kd.N_mono HO579.out (fun k_ hk=>(⟨hk,hk.2⟩:_∧k_≠gb576))) (fun _ hk=>hk.2) (.slice Ao8 y577.length co8)) (fun _ hk=>⟨hk.1.1,hk.1.2⟩)⟩
  have n1_:Aside0 ((w20.setCell ⟨gb576,0,none⟩ (.slice Ao8 y577.length co8)).heap[gb572]?=some (.cells #[.int .u32 a1_0,.int .u64 a1_1] 54 (0,0))):=⟨by refine zj ?_;refine blk_far ?_ NB572_576.out _;refine zj ?_;exact BK572.out⟩
  have n2_:Aside0 ((w20.setCell ⟨gb576,0,none⟩ (.slice Ao8 y577.length co8)).heap[gb576]?=some (.cells #[.slice Ao8 y577.length co8] 22 (0,0))):=⟨by refine zj ?_;refine blk_put (cs:=#[.slice Ao8 t573.length co8]) ?_ 0 _ rfl;refine zj ?_;exact BK576.out⟩
  have n3_:Aside0 (Below w.heap.size w (w20.setCell ⟨gb576,0,none⟩ (.slice Ao8 y577.length co8))):=⟨by repeat (first|(with_reducible first|exact HB.out|apply below_alloc|apply pw_below_drewN|apply below_drew1|refine below_set ?_ GE572.out|refine below_set ?_ GE576.out)|exact HB.out)⟩
  (try clear HO579)
  (try clear BK572)
  (try clear BK576)
  (try clear HB)
  generalize (w20.setCell ⟨gb576,0,none⟩ (.slice Ao8 y577.length co8))=w22 at n0_ n1_ n2_ n3_ ⊢
  have HO579:=n0_
  have BK572:=n1_
  have BK576:=n2_
  have HB:=n3_
  clear n0_ n1_ n2_ n3_
  replace HO579:=zA (Kd.N_drew HO579.out)
  replace BK572:=zA (blk_drew BK572.out)
  replace BK576:=zA (blk_drew BK576.out)
  replace HB:=zA (below_drew1 HB.out)
  refine start_ (n:=7) (S:=fun w'=>w'.cell? ⟨gb576,0,none⟩=some (.slice Ao8 y577.length co8)∧w'.cell? ⟨gb572,0,none⟩=some (.int .u32 a1_0)∧w'.cell? ⟨gb572,1,none⟩=some (.int .u64 a1_1)) (ds:=[]) (bz 7 0) zK rfl rfl ⟨(blk_cell BK576.out 0).trans rfl,(blk_cell BK572.out 0).trans rfl,(blk_cell BK572.out 1).trans rfl⟩ (fun hHeld=>?_)
  generalize w22.drew=w23 at HO579 BK572 BK576 HB hHeld ⊢
  refine take_ (i:=0) (N:=some 19) (v:=?_) (a':=?_) (bz 7 1) rfl rfl zK (fun _ _ _ h=>h) (Or.inl ⟨by rfl,?_⟩) hHeld ?_ ?_
  rotate_left
  ·rintro w' ⟨s0,s1,s2⟩
   go_simp
   with_reducible rfl
  rotate_left
  ·simp only [Act.put,zi,zs,zt,i64_w,i32_w]
   rfl
  refine take_ (i:=2) (N:=some 21) (v:=?_) (a':=?_) (bz 7 5) rfl rfl zK (fun _ _ _ h=>h) (Or.inl ⟨by rfl,?_⟩) hHeld ?_ ?_
  rotate_left
  ·rintro w' ⟨s0,s1,s2⟩
   go_simp
   with_reducible rfl
  rotate_left
  ·simp only [Act.put,zi,zs,zt,i64_w,i32_w]
   rfl
  refine one_ (i:=1) (N:=some 20) (bz 7 7) rfl rfl zK (by decide) (fun K hK=>?_)
  refine goes_ Try.func12 zK rfl #[.slice Ao8 y577.length co8] (by rfl) rfl rfl zM ?_
  with_reducible refine (ancepslaw42_copied.calls k _ _ y577 t580 _ ?side1 ?side2 A13.out).mono ?_
  (case side1=>exact zC (Kd.N_reads' HO579.out).2.2)
  (case side2=>exact (Kd.N_reads' HO579.out).2.1)
  rintro e w24 ⟨v581,rfl,ho0,hb⟩
  refine ⟨_,rfl,?_⟩
  have HO582:=zA (Kd.N_lower (Kd.N_mono (ok':=fun k_=>some k_≠(.slice Ao8 y577.length co8:Value).ownBlock∧k_≠gb572∧k_≠gb576) (Kd.S_N (Kd.S_bound ho0)) (fun k_ hk_=>⟨(Kd.fresh' (Kd.N_lt (zN HO579)) k_ hk_.2.1),(Kd.freshB (g:=gb572) (o:=.cells #[.int .u32 a1_0,.int .u64 a1_1] 54 (0,0)) (zk BK572) k_ hk_.2.1),(Kd.freshB (g:=gb576) (o:=.cells #[.slice Ao8 y577.length co8] 22 (0,0)) (zk BK576) k_ hk_.2.1)⟩)) (below_size zB))
  replace HO579:=zA (Kd.N_elder' (zN HO579) (Kd.N_base (Kd.S_N ho0)) hb)
  replace BK572:=zw BK572 hb
  replace BK576:=zw BK576 hb
  replace HB:=zu hb
  (try clear hb)
  (try clear hb2)
  (try clear hk)
  (try clear hi)
  (try clear ho0)
  refine hK.out _ _ ⟨(blk_cell BK576.out 0).trans rfl,(blk_cell BK572.out 0).trans rfl,(blk_cell BK572.out 1).trans rfl⟩ (fun hHeld=>?_)
  clear hK K
  refine norm_ (a':=?_) ?_ ?_
  rotate_left
  ·show Act.put _ (some 20) _=_
   simp only [Act.put,zi,zs,zt,i64_w,i32_w]
   rfl
  refine one_ (i:=3) (N:=some 22) (bz 7 15) rfl rfl zK (by decide) (fun K hK=>?_)
  refine goes_ Try.func31 zK rfl #[.agg #[.int .u32 a1_0,.int .u64 a1_1]] (by rfl) rfl rfl zM ?_
  with_reducible refine (ancepsref38_Made.calls k a1_0 a1_1 t583 t586 _ A14.out).mono ?_
  rintro e w25 ⟨v584,v587,rfl,ho0,ho1,hb⟩
  refine ⟨_,rfl,?_⟩
  have HO585:=zA (Kd.R_lower ho0 (below_size zB))
  have HO588:=zA (Kd.R_lower ho1 (below_size zB))
  replace HO579:=zA (Kd.N_mono (Kd.N_told (Kd.N_told (Kd.N_old (zN HO579) hb) (Kd.R_base ho0)) (Kd.R_base ho1)) (fun _ h_=>h_.1))
  replace HO582:=zA (Kd.N_mono (Kd.N_told (Kd.N_told (Kd.N_old (zN HO582) hb) (Kd.R_base ho0)) (Kd.R_base ho1)) (fun _ h_=>h_.1))
  replace BK572:=zw BK572 hb
  replace BK576:=zw BK576 hb
  replace HB:=zu hb
  (try clear hb)
  (try clear hb2)
  (try clear hk)
  (try clear hi)
  (try clear ho0)
  (try clear ho1)
  obtain ⟨Ao27,co27,eo27⟩:=Kd.R_slice HO585.out
  (first|subst eo27|(injection eo27 with f1_ f2_ f3_;have f4_:=f1_.symm;have f5_:=f3_.symm;clear f1_ f2_ f3_;subst f4_;subst f5_))
  obtain ⟨Ao28,co28,eo28⟩:=Kd.R_slice HO588.out
  (first|subst eo28|(injection eo28 with f1_ f2_ f3_;have f4_:=f1_.symm;have f5_:=f3_.symm;clear f1_ f2_ f3_;subst f4_;subst f5_))
  refine hK.out _ _ ⟨(blk_cell BK576.out 0).trans rfl,(blk_cell BK572.out 0).trans rfl,(blk_cell BK572.out 1).trans rfl⟩ (fun hHeld=>?_)
  clear hK K
  refine norm_ (a':=?_) ?_ ?_
  rotate_left
  ·show Act.put _ (some 22) _=_
   simp only [Act.put,zi,zs,zt,i64_w,i32_w]
   rfl
  refine one_ (i:=4) (N:=some 23) (bz 7 31) rfl rfl zK (by decide) (fun K hK=>?_)
  refine value_ (w1:=?_) (v:=?_) (by rfl) rfl ?_ ?_
  rotate_left 2
  ·go_simp
   constructor
   ·rfl
   ·rfl
  refine hK.out _ _ ⟨(blk_cell (blk_alloc BK576.out _) 0).trans rfl,(blk_cell (blk_alloc BK572.out _) 0).trans rfl,(blk_cell (blk_alloc BK572.out _) 1).trans rfl⟩ (fun hHeld=>?_)
  clear hK K
  refine norm_ (a':=?_) ?_ ?_
  rotate_left
  ·show Act.put _ (some 23) _=_
   simp only [Act.put,zi,zs,zt,i64_w,i32_w]
   rfl
  refine one_ (i:=5) (N:=some 24) (bz 7 63) rfl rfl zK (by decide) (fun K hK=>?_)
  refine Kd.N_append_step k50 (w0:=w) w.heap.size (by rfl) (.tmp 20) (.tmp 23) 22 50 (.agg #[(.slice none 0 0),(.slice none 0 0)]) 48 rfl Try.underlying22 info50 rfl (by decide) (by omega) v581 t580 (⟨t583,t586⟩:S50) [.slice Ao27 t583.length co27,.slice Ao28 t586.length co28] (fun k_=>some k_≠(.slice Ao8 y577.length co8:Value).ownBlock∧k_≠gb572∧k_≠gb576) (fun k_=>((fun k_=>some k_≠(.slice Ao8 y577.length co8:Value).ownBlock∧k_≠gb572∧k_≠gb576)) k_∧some k_≠(v581:Value).ownBlock) rfl rfl ?aP (fun _ hk=>hk) ?aF ?aO ?aB ?aS ?aL ?_
  (case aP=>exact (k50_mkF _ _ (⟨t583,t586⟩:S50) (Kd.R_reads' (Kd.R_mono (ok':=(fun k_=>((fun k_=>some k_≠(.slice Ao8 y577.length co8:Value).ownBlock∧k_≠gb572∧k_≠gb576)) k_∧some k_≠(v581:Value).ownBlock)) (Kd.R_types (Kd.R_types (Kd.R_apart' (Kd.R_apart' (HO585.out) (Kd.N_typed HO579.out) (by decide)) (Kd.N_typed HO582.out) (by decide)) BK572.out (by decide)) BK576.out (by decide)) (fun k_ hk=>⟨⟨hk.1.1.1.2,⟨hk.1.2,hk.2⟩⟩,hk.1.1.2⟩))).2.1 (Kd.R_F (Kd.R_mono (ok':=(fun k_=>((fun k_=>some k_≠(.slice Ao8 y577.length co8:Value).ownBlock∧k_≠gb572∧k_≠gb576)) k_∧some k_≠(v581:Value).ownBlock)) (Kd.R_types (Kd.R_types (Kd.R_apart' (Kd.R_apart' (HO585.out) (Kd.N_typed HO579.out) (by decide)) (Kd.N_typed HO582.out) (by decide)) BK572.out (by decide)) BK576.out (by decide)) (fun k_ hk=>⟨⟨hk.1.1.1.2,⟨hk.1.2,hk.2⟩⟩,hk.1.1.2⟩))) (Kd.R_reads' (Kd.R_mono (ok':=(fun k_=>((fun k_=>some k_≠(.slice Ao8 y577.length co8:Value).ownBlock∧k_≠gb572∧k_≠gb576)) k_∧some k_≠(v581:Value).ownBlock)) (Kd.R_types (Kd.R_types (Kd.R_apart' (Kd.R_apart' (HO588.out) (Kd.N_typed HO579.out) (by decide)) (Kd.N_typed HO582.out) (by decide)) BK572.out (by decide)) BK576.out (by decide)) (fun k_ hk=>⟨⟨hk.1.1.1.2,⟨hk.1.2,hk.2⟩⟩,hk.1.1.2⟩))).2.1 (Kd.R_F (Kd.R_mono (ok':=(fun k_=>((fun k_=>some k_≠(.slice Ao8 y577.length co8:Value).ownBlock∧k_≠gb572∧k_≠gb576)) k_∧some k_≠(v581:Value).ownBlock)) (Kd.R_types (Kd.R_types (Kd.R_apart' (Kd.R_apart' (HO588.out) (Kd.N_typed HO579.out) (by decide)) (Kd.N_typed HO582.out) (by decide)) BK572.out (by decide)) BK576.out (by decide)) (fun k_ hk=>⟨⟨hk.1.1.1.2,⟨hk.1.2,hk.2⟩⟩,hk.1.1.2⟩)))))
  (case aB=>exact zB)
  (case aF=>exact (fun k_ hk=>⟨Kd.fresh' (Kd.N_lt (zN HO579)) k_ hk,Kd.freshB (g:=gb572) (o:=.cells #[.int .u32 a1_0,.int .u64 a1_1] 54 (0,0)) (zk BK572) k_ hk,Kd.freshB (g:=gb576) (o:=.cells #[.slice Ao8 y577.length co8] 22 (0,0)) (zk BK576) k_ hk⟩))
  (case aO=>exact (by (with_reducible repeat (first|apply Kd.N_alloc|apply Kd.N_drewN|apply Kd.N_drew));exact Kd.N_mono HO582.out (fun _ hk=>⟨hk.1.1.1,⟨hk.1.1.2.1,hk.1.1.2.2⟩⟩)))
  (case aS=>exact (below_size zB))
  (case aL=>have:=LMc15.out;omega)
  intro v590 w26 ho hb hg hat
  rw [← Ny589.out] at ho
  have HO591:=zA (ho)
  replace BK572:=zA (blk_grown (g:=gb572) (o:=.cells #[.int .u32 a1_0,.int .u64 a1_1] 54 (0,0)) (zk BK572) hg (Kd.N_ne HO582.out BK572.out (by decide)))
  replace HO579:=zA (Kd.N_afterv (ok:=(fun k_=>some k_≠(.slice Ao27 t583.length co27:Value).ownBlock∧some k_≠(.slice Ao28 t586.length co28:Value).ownBlock∧k_≠gb572∧k_≠gb576)) (by (with_reducible repeat (first|apply Kd.N_alloc|apply Kd.N_drewN|apply Kd.N_drew));exact Kd.N_mono HO579.out (fun _ hk=>⟨⟨hk.1.2,⟨hk.2,⟨hk.1.1.1.1,hk.1.1.1.2⟩⟩⟩,hk.1.1.2⟩)) hg hat)
  replace BK576:=zA (blk_grown (g:=gb576) (o:=.cells #[.slice Ao8 y577.length co8] 22 (0,0)) (zk BK576) hg (Kd.N_ne HO582.out BK576.out (by decide)))
  replace HB:=zA (hb)
  clear HO582 HO585 HO588
  clear ho hb hg hat
  refine hK.out _ _ ⟨(blk_cell BK576.out 0).trans rfl,(blk_cell BK572.out 0).trans rfl,(blk_cell BK572.out 1).trans rfl⟩ (fun hHeld=>?_)
  clear hK K
  refine norm_ (a':=?_) ?_ ?_
  rotate_left
  ·show Act.put _ (some 24) _=_
   simp only [Act.put,zi,zs,zt,i64_w,i32_w]
   rfl
  refine pure_ (i:=6) (N:=some 6) (v:=?_) (a':=?_) (bz 7 127) rfl rfl zK (fun _ _ _ h=>h) (Or.inl ⟨by rfl,?_⟩) ?_ ?_
  rotate_left
  ·intro w'
   go_simp
   with_reducible rfl
  rotate_left
  ·simp only [Act.put,zi,zs,zt,i64_w,i32_w]
   rfl
  refine done_ zK ?_
  go_upto_region 5 with (fail)
  (try simp only [Act.put,zi,zs,zt])
  have H:=HC16.out
  clear HC16
  obtain ⟨t592,A29,H⟩:=zo H
  by_cases c30:t592=true
  ·subst c30
   have H1:((ancepsref42_Few.f k y589).bind fun t593=>(if t593=true then ((ancepsref42_Valid.f k y589).bind fun t594=>(if t594=0 then ((conflict_Cores.f k y577).bind fun bt595=>((conflict_Cores.f k y589).bind fun bt599=>(if bt595.2=0 then (if bt599.2=0 then ((slices_Clone_int_int_33.f bt599.1).bind fun t603=>((slices_DeleteFunc_int_int_ancepslaw42_ConflictGrows_1.f t603 y577).bind fun t606=>((ancepsref42_Lists.f k t606 bt595.1).bind fun t609=>(some t609)))) else (none)) else (none)))) else ((ancepslaw42_awake.f k).bind fun t610=>(some t610)))) else ((ancepslaw42_awake.f k).bind fun t611=>(some t611))))=some r:=by rw [if_pos rfl] at H;exact H
   clear H
   have H:=H1
   clear H1
   obtain ⟨t593,A31,H⟩:=zo H
   by_cases c32:t593=true
   ·subst c32
    have H1:((ancepsref42_Valid.f k y589).bind fun t594=>(if t594=0 then ((conflict_Cores.f k y577).bind fun bt595=>((conflict_Cores.f k y589).bind fun bt599=>(if bt595.2=0 then (if bt599.2=0 then ((slices_Clone_int_int_33.f bt599.1).bind fun t603=>((slices_DeleteFunc_int_int_ancepslaw42_ConflictGrows_1.f t603 y577).bind fun t606=>((ancepsref42_Lists.f k t606 bt595.1).bind fun t609=>(some t609)))) else (none)) else (none)))) else ((ancepslaw42_awake.f k).bind fun t610=>(some t610))))=some r:=by rw [if_pos rfl] at H;exact H
    clear H
    have H:=H1
    clear H1
    obtain ⟨t594,A33,H⟩:=zo H
    have HC34:=zA H
    clear H
    go_upto_if 36 with (first|((with_reducible refine gate_callee (f:=9) rfl ?_);refine goesL_ (some 25) rfl rfl Try.func9 zK rfl #[] rfl zM ?_;(with_reducible refine (ancepslaw42_awake.calls k  true _ A29.out).mono ?_);rintro e w35 ⟨rfl,hb⟩;refine ⟨_,rfl,?_⟩;replace HO579:=zA (Kd.N_below (zN HO579) hb);replace HO591:=zA (Kd.N_below (zN HO591) hb);replace BK572:=zw BK572 hb;replace BK576:=zw BK576 hb;replace HB:=zu hb;clear hb;obtain ⟨Ao36,co36,eo36⟩:=Kd.N_slice HO591.out;subst eo36)|(go_at_call 10;(with_reducible refine (ancepsref42_Few.calls k _ _ y589 true _ ?side1 ?side2 A31.out).mono ?_);(case side1=>exact zC (Kd.N_reads' HO591.out).2.2);(case side2=>exact (Kd.N_reads' HO591.out).2.1);rintro e w37 ⟨rfl,hb⟩;replace HO579:=zA (Kd.N_below (zN HO579) hb);replace HO591:=zA (Kd.N_below (zN HO591) hb);replace BK572:=zw BK572 hb;replace BK576:=zw BK576 hb;replace HB:=zu hb;clear hb)|(go_at_call 26;(with_reducible refine (ancepsref42_Valid.calls k _ _ y589 t594 _ ?side1 ?side2 A33.out).mono ?_);(case side1=>exact zC (Kd.N_reads' HO591.out).2.2);(case side2=>exact (Kd.N_reads' HO591.out).2.1);rintro e w38 ⟨rfl,hb⟩;replace HO579:=zA (Kd.N_below (zN HO579) hb);replace HO591:=zA (Kd.N_below (zN HO591) hb);replace BK572:=zw BK572 hb;replace BK576:=zw BK576 hb;replace HB:=zu hb;clear hb))
    (try simp only [Act.put,zi,zs,zt])
    have H:=HC34.out
    clear HC34
    rcases ife H with ⟨c39b0,c39b1,H⟩|⟨c39,c39b0,c39b1,H⟩
    ·(first|rw [c39b0]|(simp only [i64_w,i32_w];rw [c39b0])|skip)
     (try rw [c39b1])
     obtain ⟨t595,t598,A40,H⟩:=zO H
     dsimp only at H
     obtain ⟨t599,t602,A41,H⟩:=zO H
     dsimp only at H
     obtain ⟨c42,H⟩:=if1 H
     have c42b0:(t598 == 0)=true:=beq_iff_eq.mpr c42
     have c42b1:(t598 != 0)=false:=bne_eq_false_iff_eq.mpr c42
     clear c42
     have HC43:=zA H
     clear H
     have hnb44:=NB576_572.out
     have hnc44:=NB572_576.out
     have hcz45_0:=zc0 BK576
     have hfz45_0:=zf BK576 0
     go_upto_if 53 with (first|((with_reducible refine gate_callee (f:=11) rfl ?_);refine goesL_ (some 40) rfl rfl Try.func11 zK rfl #[.slice Ao8 y577.length co8] rfl zM ?_;(with_reducible refine (conflict_Cores.calls k _ _ y577 t595 t598 _ ?side1 ?side2 A40.out).mono ?_);(case side1=>exact zC (Kd.N_reads' HO579.out).2.2);(case side2=>exact (Kd.N_reads' HO579.out).2.1);rintro e w46 ⟨v596,rfl,ho0,hb⟩;refine ⟨_,rfl,?_⟩;have HO597:=zA (Kd.N_lower (Kd.N_mono (ok':=fun k_=>some k_≠(.slice Ao8 y577.length co8:Value).ownBlock∧some k_≠(.slice Ao36 y589.length co36:Value).ownBlock∧k_≠gb572∧k_≠gb576) ho0 (fun k_ hk_=>⟨(Kd.fresh' (Kd.N_lt (zN HO579)) k_ hk_),(Kd.fresh' (Kd.N_lt (zN HO591)) k_ hk_),(Kd.freshB (g:=gb572) (o:=.cells #[.int .u32 a1_0,.int .u64 a1_1] 54 (0,0)) (zk BK572) k_ hk_),(Kd.freshB (g:=gb576) (o:=.cells #[.slice Ao8 y577.length co8] 22 (0,0)) (zk BK576) k_ hk_)⟩)) (below_size zB));replace HO579:=zA (Kd.N_elder' (zN HO579) (Kd.N_base ho0) hb);replace HO591:=zA (Kd.N_elder' (zN HO591) (Kd.N_base ho0) hb);replace BK572:=zw BK572 hb;replace BK576:=zw BK576 hb;replace HB:=zu hb;clear hb;(try clear ho0))|((with_reducible refine gate_callee (f:=11) rfl ?_);refine goesL_ (some 45) rfl rfl Try.func11 zK rfl #[.slice Ao36 y589.length co36] rfl zM ?_;(with_reducible refine (conflict_Cores.calls k _ _ y589 t599 t602 _ ?side1 ?side2 A41.out).mono ?_);(case side1=>exact zC (Kd.N_reads' HO591.out).2.2);(case side2=>exact (Kd.N_reads' HO591.out).2.1);rintro e w47 ⟨v600,rfl,ho0,hb⟩;refine ⟨_,rfl,?_⟩;have HO601:=zA (Kd.N_lower (Kd.N_mono (ok':=fun k_=>some k_≠(.slice Ao8 y577.length co8:Value).ownBlock∧some k_≠(.slice Ao36 y589.length co36:Value).ownBlock∧some k_≠(v596:Value).ownBlock∧k_≠gb572∧k_≠gb576) ho0 (fun k_ hk_=>⟨(Kd.fresh' (Kd.N_lt (zN HO579)) k_ hk_),(Kd.fresh' (Kd.N_lt (zN HO591)) k_ hk_),(Kd.fresh' (Kd.N_lt (zN HO597)) k_ hk_),(Kd.freshB (g:=gb572) (o:=.cells #[.int .u32 a1_0,.int .u64 a1_1] 54 (0,0)) (zk BK572) k_ hk_),(Kd.freshB (g:=gb576) (o:=.cells #[.slice Ao8 y577.length co8] 22 (0,0)) (zk BK576) k_ hk_)⟩)) (below_size zB));replace HO579:=zA (Kd.N_elder' (zN HO579) (Kd.N_base ho0) hb);replace HO591:=zA (Kd.N_elder' (zN HO591) (Kd.N_base ho0) hb);replace HO597:=zA (Kd.N_elder' (zN HO597) (Kd.N_base ho0) hb);replace BK572:=zw BK572 hb;replace BK576:=zw BK576 hb;replace HB:=zu hb;clear hb;(try clear ho0)))
     (try simp only [Act.put,zi,zs,zt])
     have H:=HC43.out
     clear HC43
     obtain ⟨c48,H⟩:=if1 H
     have c48b0:(t602 == 0)=true:=beq_iff_eq.mpr c48
     have c48b1:(t602 != 0)=false:=bne_eq_false_iff_eq.mpr c48
     clear c48
     (first|rw [c48b0]|(simp only [i64_w,i32_w];rw [c48b0])|skip)
     (try rw [c48b1])
     obtain ⟨t603,A49,H⟩:=zo H
     obtain ⟨t606,A50,H⟩:=zo H
     obtain ⟨t609,A51,H⟩:=zo H
     obtain rfl:=Option.some.inj H
     obtain ⟨Ao52,co52,eo52⟩:=Kd.N_slice HO601.out
     subst eo52
     go_wp2_with (first|((with_reducible refine gate_callee (f:=33) rfl ?_);refine goesL_ (some 55) rfl rfl Try.func33 zK rfl #[.slice Ao52 t599.length co52] rfl zM ?_;(with_reducible refine (slices_Clone_int_int_33.calls (fun k_=>(some k_≠(.slice Ao8 y577.length co8:Value).ownBlock∧(some k_≠(.slice Ao36 y589.length co36:Value).ownBlock∧(some k_≠(v596:Value).ownBlock∧(k_≠gb572∧k_≠gb576))))) _ _ t599 t603 _ ?side1 A49.out).mono ?_);(case side1=>exact Kd.N_V (HO601.out));rintro e w53 ⟨v604,rfl,ho0,hb⟩;refine ⟨_,rfl,?_⟩;have HO605:=zA (Kd.N_lower (Kd.N_mono (ok':=fun k_=>some k_≠(.slice Ao8 y577.length co8:Value).ownBlock∧some k_≠(.slice Ao36 y589.length co36:Value).ownBlock∧some k_≠(v596:Value).ownBlock∧k_≠gb572∧k_≠gb576) ho0 (fun k_ hk_=>⟨Or.elim hk_ (fun hs_=>hs_.1) (fun hn_=>(Kd.fresh' (Kd.N_lt (zN HO579)) k_ hn_)),Or.elim hk_ (fun hs_=>hs_.2.1) (fun hn_=>(Kd.fresh' (Kd.N_lt (zN HO591)) k_ hn_)),Or.elim hk_ (fun hs_=>hs_.2.2.1) (fun hn_=>(Kd.fresh' (Kd.N_lt (zN HO597)) k_ hn_)),Or.elim hk_ (fun hs_=>hs_.2.2.2.1) (fun hn_=>(Kd.freshB (g:=gb572) (o:=.cells #[.int .u32 a1_0,.int .u64 a1_1] 54 (0,0)) (zk BK572) k_ hn_)),Or.elim hk_ (fun hs_=>hs_.2.2.2.2) (fun hn_=>(Kd.freshB (g:=gb576) (o:=.cells #[.slice Ao8 y577.length co8] 22 (0,0)) (zk BK576) k_ hn_))⟩)) (below_size zB));replace HO579:=zA (Kd.N_elder' (zN HO579) (Kd.N_base ho0) hb);replace HO591:=zA (Kd.N_elder' (zN HO591) (Kd.N_base ho0) hb);replace HO597:=zA (Kd.N_elder' (zN HO597) (Kd.N_base ho0) hb);replace HO601:=zA (Kd.N_elder' (zN HO601) (Kd.N_base ho0) hb);replace BK572:=zw BK572 hb;replace BK576:=zw BK576 hb;replace HB:=zu hb;clear hb;(try clear ho0);obtain ⟨Ao54,co54,eo54⟩:=Kd.N_slice HO605.out;subst eo54)|((with_reducible refine gate_callee (f:=32) rfl ?_);refine goesL_ (some 57) rfl rfl Try.func32 zK rfl #[.slice Ao54 t603.length co54,.func (.func 34) #[] #[.pointer (some ⟨gb576,0,none⟩)]] rfl zM ?_;(with_reducible refine (slices_DeleteFunc_int_int_ancepslaw42_ConflictGrows_1.calls (fun k_=>(some k_≠(.slice Ao8 y577.length co8:Value).ownBlock∧(some k_≠(.slice Ao36 y589.length co36:Value).ownBlock∧(some k_≠(v596:Value).ownBlock∧(k_≠gb572∧k_≠gb576))))) (.slice Ao54 t603.length co54) t603 gb576 Ao8 co8 y577 t606 w _ ?side1 ?side2 ?side3 ?side4 ?side5 ?side6 A50.out).mono ?_);(case side1=>repeat (first|(with_reducible first|exact HB.out|apply below_alloc|apply pw_below_drewN|apply below_drew1|refine below_set ?_ GE572.out|refine below_set ?_ GE576.out)|exact HB.out));(case side2=>((with_reducible repeat (first|apply Kd.N_alloc|apply Kd.N_drewN|apply Kd.N_drew));exact HO605.out));(case side3=>exact Kd.C_kept_ownV (base:=0) (Kd.N_V (HO579.out)) (fun k_ hk_ hs_=>(hk_.2) hs_));(case side4=>exact (Kd.N_reads' HO579.out).2.1);(case side5=>refine zj ?_;exact BK576.out);(case side6=>exact fun k_ e_=>(HO605.out.1 k_ e_.symm).2.2.2.2);rintro e w55 ⟨v607,rfl,ho0,hb,hkp,hown_⟩;refine ⟨_,rfl,?_⟩;have HO608:=zA (ho0);replace BK572:=zA (blk_kept (zk BK572) hkp (fun hs_=>(fun e_=>(Kd.N_ne HO605.out BK572.out (by decide)) e_) hs_));replace HO579:=zA (Kd.N_mono (ok':=fun k_=>some k_≠(.slice Ao36 y589.length co36:Value).ownBlock∧some k_≠(v596:Value).ownBlock∧some k_≠(.slice Ao52 t599.length co52:Value).ownBlock∧k_≠gb572∧k_≠gb576∧some k_≠(v607:Value).ownBlock) (Kd.N_keptB (HO579.out) hkp (fun k_ hk_ hs_=>(hk_.2) hs_)) (fun k_ hk_=>⟨hk_.1.1.1.1.2,hk_.1.1.1.2,hk_.1.1.2,hk_.1.1.1.1.1.2.2.1,hk_.1.1.1.1.1.2.2.2,fun e_=>(hk_.1.2) (e_.trans hown_)⟩));replace BK576:=zA (blk_kept (zk BK576) hkp (fun hs_=>(fun e_=>(Kd.N_ne HO605.out BK576.out (by decide)) e_) hs_));replace HO591:=zA (Kd.N_mono (ok':=fun k_=>some k_≠(.slice Ao8 y577.length co8:Value).ownBlock∧some k_≠(v596:Value).ownBlock∧some k_≠(.slice Ao52 t599.length co52:Value).ownBlock∧k_≠gb572∧k_≠gb576∧some k_≠(v607:Value).ownBlock) (Kd.N_keptB (HO591.out) hkp (fun k_ hk_ hs_=>(hk_.2) hs_)) (fun k_ hk_=>⟨hk_.1.1.1.1.1,hk_.1.1.1.2,hk_.1.1.2,hk_.1.1.1.1.2.1,hk_.1.1.1.1.2.2,fun e_=>(hk_.1.2) (e_.trans hown_)⟩));replace HO597:=zA (Kd.N_mono (ok':=fun k_=>some k_≠(.slice Ao8 y577.length co8:Value).ownBlock∧some k_≠(.slice Ao36 y589.length co36:Value).ownBlock∧some k_≠(.slice Ao52 t599.length co52:Value).ownBlock∧k_≠gb572∧k_≠gb576∧some k_≠(v607:Value).ownBlock) (Kd.N_keptB (HO597.out) hkp (fun k_ hk_ hs_=>(hk_.2) hs_)) (fun k_ hk_=>⟨hk_.1.1.1.1,hk_.1.1.1.2.1,hk_.1.1.2,hk_.1.1.1.2.2.1,hk_.1.1.1.2.2.2,fun e_=>(hk_.1.2) (e_.trans hown_)⟩));replace HO601:=zA (Kd.N_mono (ok':=fun k_=>some k_≠(.slice Ao8 y577.length co8:Value).ownBlock∧some k_≠(.slice Ao36 y589.length co36:Value).ownBlock∧some k_≠(v596:Value).ownBlock∧k_≠gb572∧k_≠gb576∧some k_≠(v607:Value).ownBlock) (Kd.N_keptB (HO601.out) hkp (fun k_ hk_ hs_=>(hk_.2) hs_)) (fun k_ hk_=>⟨hk_.1.1.1,hk_.1.1.2.1,hk_.1.1.2.2.1,hk_.1.1.2.2.2.1,hk_.1.1.2.2.2.2,fun e_=>(hk_.1.2) (e_.trans hown_)⟩));replace HB:=zA (hb);clear HO605;(try clear hb);(try clear hkp);(try clear hown_);(try clear ho0);obtain ⟨Ao56,co56,eo56⟩:=Kd.N_slice HO608.out;subst eo56;obtain ⟨Ao57,co57,eo57⟩:=Kd.N_slice HO597.out;subst eo57)|((with_reducible refine gate_callee (f:=18) rfl ?_);refine goesL_ (some 60) rfl rfl Try.func18 zK rfl #[.slice Ao56 t606.length co56,.slice Ao57 t595.length co57] rfl zM ?_;(with_reducible refine (ancepsref42_Lists.calls k _ _ t606 _ _ t595 t609 _ ?side1 ?side2 ?side3 ?side4 A51.out).mono ?_);(case side1=>exact zC (Kd.N_reads' HO608.out).2.2);(case side2=>exact (Kd.N_reads' HO608.out).2.1);(case side3=>exact zC (Kd.N_reads' HO597.out).2.2);(case side4=>exact (Kd.N_reads' HO597.out).2.1);rintro e w' ⟨rfl,⟨nd,rfl⟩⟩;refine ⟨_,rfl,?_⟩))
     go_ret
     exact ⟨ze,by repeat (first|(with_reducible first|exact HB.out|apply below_alloc|apply pw_below_drewN|apply below_drew1|refine below_set ?_ GE572.out|refine below_set ?_ GE576.out)|exact HB.out)⟩
    ·(first|rw [c39b0]|(simp only [i64_w,i32_w];rw [c39b0])|skip)
     (try rw [c39b1])
     obtain ⟨t610,A58,H⟩:=zo H
     obtain rfl:=Option.some.inj H
     go_wp2_with (first|((with_reducible refine gate_callee (f:=9) rfl ?_);refine goesL_ (some 37) rfl rfl Try.func9 zK rfl #[] rfl zM ?_;(with_reducible refine (ancepslaw42_awake.calls k  t610 _ A58.out).mono ?_);rintro e w59 ⟨rfl,hb⟩;refine ⟨_,rfl,?_⟩;replace HO579:=zA (Kd.N_below (zN HO579) hb);replace HO591:=zA (Kd.N_below (zN HO591) hb);replace BK572:=zw BK572 hb;replace BK576:=zw BK576 hb;replace HB:=zu hb;clear hb))
     go_ret
     exact ⟨ze,by repeat (first|(with_reducible first|exact HB.out|apply below_alloc|apply pw_below_drewN|apply below_drew1|refine below_set ?_ GE572.out|refine below_set ?_ GE576.out)|exact HB.out)⟩
   ·replace c32:=Bool.eq_false_iff.mpr c32
    subst c32
    have H1:((ancepslaw42_awake.f k).bind fun t611=>(some t611))=some r:=by rw [if_neg (show ¬ (false=true) by decide)] at H;exact H
    clear H
    have H:=H1
    clear H1
    obtain ⟨t611,A60,H⟩:=zo H
    obtain rfl:=Option.some.inj H
    go_wp2_with (first|((with_reducible refine gate_callee (f:=9) rfl ?_);refine goesL_ (some 25) rfl rfl Try.func9 zK rfl #[] rfl zM ?_;(with_reducible refine (ancepslaw42_awake.calls k  true _ A29.out).mono ?_);rintro e w61 ⟨rfl,hb⟩;refine ⟨_,rfl,?_⟩;replace HO579:=zA (Kd.N_below (zN HO579) hb);replace HO591:=zA (Kd.N_below (zN HO591) hb);replace BK572:=zw BK572 hb;replace BK576:=zw BK576 hb;replace HB:=zu hb;clear hb;obtain ⟨Ao62,co62,eo62⟩:=Kd.N_slice HO591.out;subst eo62)|(go_at_call 10;(with_reducible refine (ancepsref42_Few.calls k _ _ y589 false _ ?side1 ?side2 A31.out).mono ?_);(case side1=>exact zC (Kd.N_reads' HO591.out).2.2);(case side2=>exact (Kd.N_reads' HO591.out).2.1);rintro e w63 ⟨rfl,hb⟩;replace HO579:=zA (Kd.N_below (zN HO579) hb);replace HO591:=zA (Kd.N_below (zN HO591) hb);replace BK572:=zw BK572 hb;replace BK576:=zw BK576 hb;replace HB:=zu hb;clear hb)|((with_reducible refine gate_callee (f:=9) rfl ?_);refine goesL_ (some 37) rfl rfl Try.func9 zK rfl #[] rfl zM ?_;(with_reducible refine (ancepslaw42_awake.calls k  t611 _ A60.out).mono ?_);rintro e w64 ⟨rfl,hb⟩;refine ⟨_,rfl,?_⟩;replace HO579:=zA (Kd.N_below (zN HO579) hb);replace HO591:=zA (Kd.N_below (zN HO591) hb);replace BK572:=zw BK572 hb;replace BK576:=zw BK576 hb;replace HB:=zu hb;clear hb))
    go_ret
    exact ⟨ze,by repeat (first|(with_reducible first|exact HB.out|apply below_alloc|apply pw_below_drewN|apply below_drew1|refine below_set ?_ GE572.out|refine below_set ?_ GE576.out)|exact HB.out)⟩
  ·replace c30:=Bool.eq_false_iff.mpr c30
   subst c30
   have H1:((ancepslaw42_awake.f k).bind fun t612=>(some t612))=some r:=by rw [if_neg (show ¬ (false=true) by decide)] at H;exact H
   clear H
   have H:=H1
   clear H1
   obtain ⟨t612,A65,H⟩:=zo H
   obtain rfl:=Option.some.inj H
   go_wp2_with (first|((with_reducible refine gate_callee (f:=9) rfl ?_);refine goesL_ (some 25) rfl rfl Try.func9 zK rfl #[] rfl zM ?_;(with_reducible refine (ancepslaw42_awake.calls k  false _ A29.out).mono ?_);rintro e w66 ⟨rfl,hb⟩;refine ⟨_,rfl,?_⟩;replace HO579:=zA (Kd.N_below (zN HO579) hb);replace HO591:=zA (Kd.N_below (zN HO591) hb);replace BK572:=zw BK572 hb;replace BK576:=zw BK576 hb;replace HB:=zu hb;clear hb)|((with_reducible refine gate_callee (f:=9) rfl ?_);refine goesL_ (some 37) rfl rfl Try.func9 zK rfl #[] rfl zM ?_;(with_reducible refine (ancepslaw42_awake.calls k  t612 _ A65.out).mono ?_);rintro e w67 ⟨rfl,hb⟩;refine ⟨_,rfl,?_⟩;replace HO579:=zA (Kd.N_below (zN HO579) hb);replace HO591:=zA (Kd.N_below (zN HO591) hb);replace BK572:=zw BK572 hb;replace BK576:=zw BK576 hb;replace HB:=zu hb;clear hb))
   go_ret
   exact ⟨ze,by repeat (first|(with_reducible first|exact HB.out|apply below_alloc|apply pw_below_drewN|apply below_drew1|refine below_set ?_ GE572.out|refine below_set ?_ GE576.out)|exact HB.out)⟩
 ·have c11b0:decide (5<(t573.length:Int))=false:=decide_eq_false c11
  have c11b1:decide (5<t573.length)=false:=decide_eq_false (by omega)
  clear c11
  (first|rw [c11b0]|(simp only [i64_w,i32_w];rw [c11b0])|skip)
  (try rw [c11b1])
  obtain ⟨t613,A68,H⟩:=zo H
  obtain ⟨t616,t619,A69,H⟩:=zO H
  dsimp only at H
  obtain ⟨c70,H⟩:=if1 H
  have LMc70:=zA c70
  clear c70
  first|(replace H:=zyb (t613++[(⟨t616,t619⟩:S50)]) H;obtain ⟨y622,Ny622,H⟩:=H)|(obtain ⟨y622,hy622⟩:=zY (t613++[(⟨t616,t619⟩:S50)]);(try rw (occs:=.pos [1]) [← hy622] at H);have Ny622:=zA hy622;clear hy622)
  have HC71:=zA H
  clear H
  try go_wp2
  have n0_:Aside0 (Kd.N k50 50 (w7.setCell ⟨gb576,0,none⟩ (.slice Ao8 t573.length co8)) w.heap.size (fun k_=>k_≠gb572∧k_≠gb576) (.slice Ao8 t573.length co8) t573):=⟨by (with_reducible repeat (first|apply Kd.N_alloc|apply Kd.N_drewN|apply Kd.N_drew));exact Kd.N_mono (Kd.N_far (p:=⟨gb576,0,none⟩) (Kd.N_mono HO575.out (fun k_ hk=>(⟨hk,hk.2⟩:_∧k_≠gb576))) (fun _ hk=>hk.2) (.slice Ao8 t573.length co8)) (fun _ hk=>⟨hk.1.1,hk.1.2⟩)⟩
  have n1_:Aside0 ((w7.setCell ⟨gb576,0,none⟩ (.slice Ao8 t573.length co8)).heap[gb572]?=some (.cells #[.int .u32 a1_0,.int .u64 a1_1] 54 (0,0))):=⟨by refine zj ?_;refine blk_far ?_ NB572_576.out _;refine zj ?_;exact BK572.out⟩
  have n2_:Aside0 ((w7.setCell ⟨gb576,0,none⟩ (.slice Ao8 t573.length co8)).heap[gb576]?=some (.cells #[.slice Ao8 t573.length co8] 22 (0,0))):=⟨by refine zj ?_;refine blk_put (cs:=#[.slice none 0 0]) ?_ 0 _ rfl;refine zj ?_;exact BK576.out⟩
  have n3_:Aside0 (Below w.heap.size w (w7.setCell ⟨gb576,0,none⟩ (.slice Ao8 t573.length co8))):=⟨by repeat (first|(with_reducible first|exact HB.out|apply below_alloc|apply pw_below_drewN|apply below_drew1|refine below_set ?_ GE572.out|refine below_set ?_ GE576.out)|exact HB.out)⟩
  (try clear HO575)
  (try clear BK572)
  (try clear BK576)
  (try clear HB)
  generalize (w7.setCell ⟨gb576,0,none⟩ (.slice Ao8 t573.length co8))=w72 at n0_ n1_ n2_ n3_ ⊢
  have HO575:=n0_
  have BK572:=n1_
  have BK576:=n2_
  have HB:=n3_
  clear n0_ n1_ n2_ n3_
  replace HO575:=zA (Kd.N_drew HO575.out)
  replace BK572:=zA (blk_drew BK572.out)
  replace BK576:=zA (blk_drew BK576.out)
  replace HB:=zA (below_drew1 HB.out)
  refine start_ (n:=7) (S:=fun w'=>w'.cell? ⟨gb576,0,none⟩=some (.slice Ao8 t573.length co8)∧w'.cell? ⟨gb572,0,none⟩=some (.int .u32 a1_0)∧w'.cell? ⟨gb572,1,none⟩=some (.int .u64 a1_1)) (ds:=[]) (bz 7 0) zK rfl rfl ⟨(blk_cell BK576.out 0).trans rfl,(blk_cell BK572.out 0).trans rfl,(blk_cell BK572.out 1).trans rfl⟩ (fun hHeld=>?_)
  generalize w72.drew=w73 at HO575 BK572 BK576 HB hHeld ⊢
  refine take_ (i:=0) (N:=some 19) (v:=?_) (a':=?_) (bz 7 1) rfl rfl zK (fun _ _ _ h=>h) (Or.inl ⟨by rfl,?_⟩) hHeld ?_ ?_
  rotate_left
  ·rintro w' ⟨s0,s1,s2⟩
   go_simp
   with_reducible rfl
  rotate_left
  ·simp only [Act.put,zi,zs,zt,i64_w,i32_w]
   rfl
  refine take_ (i:=2) (N:=some 21) (v:=?_) (a':=?_) (bz 7 5) rfl rfl zK (fun _ _ _ h=>h) (Or.inl ⟨by rfl,?_⟩) hHeld ?_ ?_
  rotate_left
  ·rintro w' ⟨s0,s1,s2⟩
   go_simp
   with_reducible rfl
  rotate_left
  ·simp only [Act.put,zi,zs,zt,i64_w,i32_w]
   rfl
  refine one_ (i:=1) (N:=some 20) (bz 7 7) rfl rfl zK (by decide) (fun K hK=>?_)
  refine goes_ Try.func12 zK rfl #[.slice Ao8 t573.length co8] (by rfl) rfl rfl zM ?_
  with_reducible refine (ancepslaw42_copied.calls k _ _ t573 t613 _ ?side1 ?side2 A68.out).mono ?_
  (case side1=>exact zC (Kd.N_reads' HO575.out).2.2)
  (case side2=>exact (Kd.N_reads' HO575.out).2.1)
  rintro e w74 ⟨v614,rfl,ho0,hb⟩
  refine ⟨_,rfl,?_⟩
  have HO615:=zA (Kd.N_lower (Kd.N_mono (ok':=fun k_=>some k_≠(.slice Ao8 t573.length co8:Value).ownBlock∧k_≠gb572∧k_≠gb576) (Kd.S_N (Kd.S_bound ho0)) (fun k_ hk_=>⟨(Kd.fresh' (Kd.N_lt (zN HO575)) k_ hk_.2.1),(Kd.freshB (g:=gb572) (o:=.cells #[.int .u32 a1_0,.int .u64 a1_1] 54 (0,0)) (zk BK572) k_ hk_.2.1),(Kd.freshB (g:=gb576) (o:=.cells #[.slice Ao8 t573.length co8] 22 (0,0)) (zk BK576) k_ hk_.2.1)⟩)) (below_size zB))
  replace HO575:=zA (Kd.N_elder' (zN HO575) (Kd.N_base (Kd.S_N ho0)) hb)
  replace BK572:=zw BK572 hb
  replace BK576:=zw BK576 hb
  replace HB:=zu hb
  (try clear hb)
  (try clear hb2)
  (try clear hk)
  (try clear hi)
  (try clear ho0)
  refine hK.out _ _ ⟨(blk_cell BK576.out 0).trans rfl,(blk_cell BK572.out 0).trans rfl,(blk_cell BK572.out 1).trans rfl⟩ (fun hHeld=>?_)
  clear hK K
  refine norm_ (a':=?_) ?_ ?_
  rotate_left
  ·show Act.put _ (some 20) _=_
   simp only [Act.put,zi,zs,zt,i64_w,i32_w]
   rfl
  refine one_ (i:=3) (N:=some 22) (bz 7 15) rfl rfl zK (by decide) (fun K hK=>?_)
  refine goes_ Try.func31 zK rfl #[.agg #[.int .u32 a1_0,.int .u64 a1_1]] (by rfl) rfl rfl zM ?_
  with_reducible refine (ancepsref38_Made.calls k a1_0 a1_1 t616 t619 _ A69.out).mono ?_
  rintro e w75 ⟨v617,v620,rfl,ho0,ho1,hb⟩
  refine ⟨_,rfl,?_⟩
  have HO618:=zA (Kd.R_lower ho0 (below_size zB))
  have HO621:=zA (Kd.R_lower ho1 (below_size zB))
  replace HO575:=zA (Kd.N_mono (Kd.N_told (Kd.N_told (Kd.N_old (zN HO575) hb) (Kd.R_base ho0)) (Kd.R_base ho1)) (fun _ h_=>h_.1))
  replace HO615:=zA (Kd.N_mono (Kd.N_told (Kd.N_told (Kd.N_old (zN HO615) hb) (Kd.R_base ho0)) (Kd.R_base ho1)) (fun _ h_=>h_.1))
  replace BK572:=zw BK572 hb
  replace BK576:=zw BK576 hb
  replace HB:=zu hb
  (try clear hb)
  (try clear hb2)
  (try clear hk)
  (try clear hi)
  (try clear ho0)
  (try clear ho1)
  obtain ⟨Ao77,co77,eo77⟩:=Kd.R_slice HO618.out
  (first|subst eo77|(injection eo77 with f1_ f2_ f3_;have f4_:=f1_.symm;have f5_:=f3_.symm;clear f1_ f2_ f3_;subst f4_;subst f5_))
  obtain ⟨Ao78,co78,eo78⟩:=Kd.R_slice HO621.out
  (first|subst eo78|(injection eo78 with f1_ f2_ f3_;have f4_:=f1_.symm;have f5_:=f3_.symm;clear f1_ f2_ f3_;subst f4_;subst f5_))
  refine hK.out _ _ ⟨(blk_cell BK576.out 0).trans rfl,(blk_cell BK572.out 0).trans rfl,(blk_cell BK572.out 1).trans rfl⟩ (fun hHeld=>?_)
  clear hK K
  refine norm_ (a':=?_) ?_ ?_
  rotate_left
  ·show Act.put _ (some 22) _=_
   simp only [Act.put,zi,zs,zt,i64_w,i32_w]
   rfl
  refine one_ (i:=4) (N:=some 23) (bz 7 31) rfl rfl zK (by decide) (fun K hK=>?_)
  refine value_ (w1:=?_) (v:=?_) (by rfl) rfl ?_ ?_
  rotate_left 2
  ·go_simp
   constructor
   ·rfl
   ·rfl
  refine hK.out _ _ ⟨(blk_cell (blk_alloc BK576.out _) 0).trans rfl,(blk_cell (blk_alloc BK572.out _) 0).trans rfl,(blk_cell (blk_alloc BK572.out _) 1).trans rfl⟩ (fun hHeld=>?_)
  clear hK K
  refine norm_ (a':=?_) ?_ ?_
  rotate_left
  ·show Act.put _ (some 23) _=_
   simp only [Act.put,zi,zs,zt,i64_w,i32_w]
   rfl
  refine one_ (i:=5) (N:=some 24) (bz 7 63) rfl rfl zK (by decide) (fun K hK=>?_)
  refine Kd.N_append_step k50 (w0:=w) w.heap.size (by rfl) (.tmp 20) (.tmp 23) 22 50 (.agg #[(.slice none 0 0),(.slice none 0 0)]) 48 rfl Try.underlying22 info50 rfl (by decide) (by omega) v614 t613 (⟨t616,t619⟩:S50) [.slice Ao77 t616.length co77,.slice Ao78 t619.length co78] (fun k_=>some k_≠(.slice Ao8 t573.length co8:Value).ownBlock∧k_≠gb572∧k_≠gb576) (fun k_=>((fun k_=>some k_≠(.slice Ao8 t573.length co8:Value).ownBlock∧k_≠gb572∧k_≠gb576)) k_∧some k_≠(v614:Value).ownBlock) rfl rfl ?aP (fun _ hk=>hk) ?aF ?aO ?aB ?aS ?aL ?_
  (case aP=>exact (k50_mkF _ _ (⟨t616,t619⟩:S50) (Kd.R_reads' (Kd.R_mono (ok':=(fun k_=>((fun k_=>some k_≠(.slice Ao8 t573.length co8:Value).ownBlock∧k_≠gb572∧k_≠gb576)) k_∧some k_≠(v614:Value).ownBlock)) (Kd.R_types (Kd.R_types (Kd.R_apart' (Kd.R_apart' (HO618.out) (Kd.N_typed HO575.out) (by decide)) (Kd.N_typed HO615.out) (by decide)) BK572.out (by decide)) BK576.out (by decide)) (fun k_ hk=>⟨⟨hk.1.1.1.2,⟨hk.1.2,hk.2⟩⟩,hk.1.1.2⟩))).2.1 (Kd.R_F (Kd.R_mono (ok':=(fun k_=>((fun k_=>some k_≠(.slice Ao8 t573.length co8:Value).ownBlock∧k_≠gb572∧k_≠gb576)) k_∧some k_≠(v614:Value).ownBlock)) (Kd.R_types (Kd.R_types (Kd.R_apart' (Kd.R_apart' (HO618.out) (Kd.N_typed HO575.out) (by decide)) (Kd.N_typed HO615.out) (by decide)) BK572.out (by decide)) BK576.out (by decide)) (fun k_ hk=>⟨⟨hk.1.1.1.2,⟨hk.1.2,hk.2⟩⟩,hk.1.1.2⟩))) (Kd.R_reads' (Kd.R_mono (ok':=(fun k_=>((fun k_=>some k_≠(.slice Ao8 t573.length co8:Value).ownBlock∧k_≠gb572∧k_≠gb576)) k_∧some k_≠(v614:Value).ownBlock)) (Kd.R_types (Kd.R_types (Kd.R_apart' (Kd.R_apart' (HO621.out) (Kd.N_typed HO575.out) (by decide)) (Kd.N_typed HO615.out) (by decide)) BK572.out (by decide)) BK576.out (by decide)) (fun k_ hk=>⟨⟨hk.1.1.1.2,⟨hk.1.2,hk.2⟩⟩,hk.1.1.2⟩))).2.1 (Kd.R_F (Kd.R_mono (ok':=(fun k_=>((fun k_=>some k_≠(.slice Ao8 t573.length co8:Value).ownBlock∧k_≠gb572∧k_≠gb576)) k_∧some k_≠(v614:Value).ownBlock)) (Kd.R_types (Kd.R_types (Kd.R_apart' (Kd.R_apart' (HO621.out) (Kd.N_typed HO575.out) (by decide)) (Kd.N_typed HO615.out) (by decide)) BK572.out (by decide)) BK576.out (by decide)) (fun k_ hk=>⟨⟨hk.1.1.1.2,⟨hk.1.2,hk.2⟩⟩,hk.1.1.2⟩)))))
  (case aB=>exact zB)
  (case aF=>exact (fun k_ hk=>⟨Kd.fresh' (Kd.N_lt (zN HO575)) k_ hk,Kd.freshB (g:=gb572) (o:=.cells #[.int .u32 a1_0,.int .u64 a1_1] 54 (0,0)) (zk BK572) k_ hk,Kd.freshB (g:=gb576) (o:=.cells #[.slice Ao8 t573.length co8] 22 (0,0)) (zk BK576) k_ hk⟩))
  (case aO=>exact (by (with_reducible repeat (first|apply Kd.N_alloc|apply Kd.N_drewN|apply Kd.N_drew));exact Kd.N_mono HO615.out (fun _ hk=>⟨hk.1.1.1,⟨hk.1.1.2.1,hk.1.1.2.2⟩⟩)))
  (case aS=>exact (below_size zB))
  (case aL=>have:=LMc70.out;omega)
  intro v623 w76 ho hb hg hat
  rw [← Ny622.out] at ho
  have HO624:=zA (ho)
  replace BK572:=zA (blk_grown (g:=gb572) (o:=.cells #[.int .u32 a1_0,.int .u64 a1_1] 54 (0,0)) (zk BK572) hg (Kd.N_ne HO615.out BK572.out (by decide)))
  replace HO575:=zA (Kd.N_afterv (ok:=(fun k_=>some k_≠(.slice Ao77 t616.length co77:Value).ownBlock∧some k_≠(.slice Ao78 t619.length co78:Value).ownBlock∧k_≠gb572∧k_≠gb576)) (by (with_reducible repeat (first|apply Kd.N_alloc|apply Kd.N_drewN|apply Kd.N_drew));exact Kd.N_mono HO575.out (fun _ hk=>⟨⟨hk.1.2,⟨hk.2,⟨hk.1.1.1.1,hk.1.1.1.2⟩⟩⟩,hk.1.1.2⟩)) hg hat)
  replace BK576:=zA (blk_grown (g:=gb576) (o:=.cells #[.slice Ao8 t573.length co8] 22 (0,0)) (zk BK576) hg (Kd.N_ne HO615.out BK576.out (by decide)))
  replace HB:=zA (hb)
  clear HO615 HO618 HO621
  clear ho hb hg hat
  refine hK.out _ _ ⟨(blk_cell BK576.out 0).trans rfl,(blk_cell BK572.out 0).trans rfl,(blk_cell BK572.out 1).trans rfl⟩ (fun hHeld=>?_)
  clear hK K
  refine norm_ (a':=?_) ?_ ?_
  rotate_left
  ·show Act.put _ (some 24) _=_
   simp only [Act.put,zi,zs,zt,i64_w,i32_w]
   rfl
  refine pure_ (i:=6) (N:=some 6) (v:=?_) (a':=?_) (bz 7 127) rfl rfl zK (fun _ _ _ h=>h) (Or.inl ⟨by rfl,?_⟩) ?_ ?_
  rotate_left
  ·intro w'
   go_simp
   with_reducible rfl
  rotate_left
  ·simp only [Act.put,zi,zs,zt,i64_w,i32_w]
   rfl
  refine done_ zK ?_
  go_upto_region 5 with (fail)
  (try simp only [Act.put,zi,zs,zt])
  have H:=HC71.out
  clear HC71
  obtain ⟨t625,A79,H⟩:=zo H
  by_cases c80:t625=true
  ·subst c80
   have H1:((ancepsref42_Few.f k y622).bind fun t626=>(if t626=true then ((ancepsref42_Valid.f k y622).bind fun t627=>(if t627=0 then ((conflict_Cores.f k t573).bind fun bt628=>((conflict_Cores.f k y622).bind fun bt632=>(if bt628.2=0 then (if bt632.2=0 then ((slices_Clone_int_int_33.f bt632.1).bind fun t636=>((slices_DeleteFunc_int_int_ancepslaw42_ConflictGrows_1.f t636 t573).bind fun t639=>((ancepsref42_Lists.f k t639 bt628.1).bind fun t642=>(some t642)))) else (none)) else (none)))) else ((ancepslaw42_awake.f k).bind fun t643=>(some t643)))) else ((ancepslaw42_awake.f k).bind fun t644=>(some t644))))=some r:=by rw [if_pos rfl] at H;exact H
   clear H
   have H:=H1
   clear H1
   obtain ⟨t626,A81,H⟩:=zo H
   by_cases c82:t626=true
   ·subst c82
    have H1:((ancepsref42_Valid.f k y622).bind fun t627=>(if t627=0 then ((conflict_Cores.f k t573).bind fun bt628=>((conflict_Cores.f k y622).bind fun bt632=>(if bt628.2=0 then (if bt632.2=0 then ((slices_Clone_int_int_33.f bt632.1).bind fun t636=>((slices_DeleteFunc_int_int_ancepslaw42_ConflictGrows_1.f t636 t573).bind fun t639=>((ancepsref42_Lists.f k t639 bt628.1).bind fun t642=>(some t642)))) else (none)) else (none)))) else ((ancepslaw42_awake.f k).bind fun t643=>(some t643))))=some r:=by rw [if_pos rfl] at H;exact H
    clear H
    have H:=H1
    clear H1
    obtain ⟨t627,A83,H⟩:=zo H
    have HC84:=zA H
    clear H
    go_upto_if 36 with (first|((with_reducible refine gate_callee (f:=9) rfl ?_);refine goesL_ (some 25) rfl rfl Try.func9 zK rfl #[] rfl zM ?_;(with_reducible refine (ancepslaw42_awake.calls k  true _ A79.out).mono ?_);rintro e w85 ⟨rfl,hb⟩;refine ⟨_,rfl,?_⟩;replace HO575:=zA (Kd.N_below (zN HO575) hb);replace HO624:=zA (Kd.N_below (zN HO624) hb);replace BK572:=zw BK572 hb;replace BK576:=zw BK576 hb;replace HB:=zu hb;clear hb;obtain ⟨Ao86,co86,eo86⟩:=Kd.N_slice HO624.out;subst eo86)|(go_at_call 10;(with_reducible refine (ancepsref42_Few.calls k _ _ y622 true _ ?side1 ?side2 A81.out).mono ?_);(case side1=>exact zC (Kd.N_reads' HO624.out).2.2);(case side2=>exact (Kd.N_reads' HO624.out).2.1);rintro e w87 ⟨rfl,hb⟩;replace HO575:=zA (Kd.N_below (zN HO575) hb);replace HO624:=zA (Kd.N_below (zN HO624) hb);replace BK572:=zw BK572 hb;replace BK576:=zw BK576 hb;replace HB:=zu hb;clear hb)|(go_at_call 26;(with_reducible refine (ancepsref42_Valid.calls k _ _ y622 t627 _ ?side1 ?side2 A83.out).mono ?_);(case side1=>exact zC (Kd.N_reads' HO624.out).2.2);(case side2=>exact (Kd.N_reads' HO624.out).2.1);rintro e w88 ⟨rfl,hb⟩;replace HO575:=zA (Kd.N_below (zN HO575) hb);replace HO624:=zA (Kd.N_below (zN HO624) hb);replace BK572:=zw BK572 hb;replace BK576:=zw BK576 hb;replace HB:=zu hb;clear hb))
    (try simp only [Act.put,zi,zs,zt])
    have H:=HC84.out
    clear HC84
    rcases ife H with ⟨c89b0,c89b1,H⟩|⟨c89,c89b0,c89b1,H⟩
    ·(first|rw [c89b0]|(simp only [i64_w,i32_w];rw [c89b0])|skip)
     (try rw [c89b1])
     obtain ⟨t628,t631,A90,H⟩:=zO H
     dsimp only at H
     obtain ⟨t632,t635,A91,H⟩:=zO H
     dsimp only at H
     obtain ⟨c92,H⟩:=if1 H
     have c92b0:(t631 == 0)=true:=beq_iff_eq.mpr c92
     have c92b1:(t631 != 0)=false:=bne_eq_false_iff_eq.mpr c92
     clear c92
     have HC93:=zA H
     clear H
     have hnb94:=NB576_572.out
     have hnc94:=NB572_576.out
     have hcz95_0:=zc0 BK576
     have hfz95_0:=zf BK576 0
     go_upto_if 53 with (first|((with_reducible refine gate_callee (f:=11) rfl ?_);refine goesL_ (some 40) rfl rfl Try.func11 zK rfl #[.slice Ao8 t573.length co8] rfl zM ?_;(with_reducible refine (conflict_Cores.calls k _ _ t573 t628 t631 _ ?side1 ?side2 A90.out).mono ?_);(case side1=>exact zC (Kd.N_reads' HO575.out).2.2);(case side2=>exact (Kd.N_reads' HO575.out).2.1);rintro e w96 ⟨v629,rfl,ho0,hb⟩;refine ⟨_,rfl,?_⟩;have HO630:=zA (Kd.N_lower (Kd.N_mono (ok':=fun k_=>some k_≠(.slice Ao8 t573.length co8:Value).ownBlock∧some k_≠(.slice Ao86 y622.length co86:Value).ownBlock∧k_≠gb572∧k_≠gb576) ho0 (fun k_ hk_=>⟨(Kd.fresh' (Kd.N_lt (zN HO575)) k_ hk_),(Kd.fresh' (Kd.N_lt (zN HO624)) k_ hk_),(Kd.freshB (g:=gb572) (o:=.cells #[.int .u32 a1_0,.int .u64 a1_1] 54 (0,0)) (zk BK572) k_ hk_),(Kd.freshB (g:=gb576) (o:=.cells #[.slice Ao8 t573.length co8] 22 (0,0)) (zk BK576) k_ hk_)⟩)) (below_size zB));replace HO575:=zA (Kd.N_elder' (zN HO575) (Kd.N_base ho0) hb);replace HO624:=zA (Kd.N_elder' (zN HO624) (Kd.N_base ho0) hb);replace BK572:=zw BK572 hb;replace BK576:=zw BK576 hb;replace HB:=zu hb;clear hb;(try clear ho0))|((with_reducible refine gate_callee (f:=11) rfl ?_);refine goesL_ (some 45) rfl rfl Try.func11 zK rfl #[.slice Ao86 y622.length co86] rfl zM ?_;(with_reducible refine (conflict_Cores.calls k _ _ y622 t632 t635 _ ?side1 ?side2 A91.out).mono ?_);(case side1=>exact zC (Kd.N_reads' HO624.out).2.2);(case side2=>exact (Kd.N_reads' HO624.out).2.1);rintro e w97 ⟨v633,rfl,ho0,hb⟩;refine ⟨_,rfl,?_⟩;have HO634:=zA (Kd.N_lower (Kd.N_mono (ok':=fun k_=>some k_≠(.slice Ao8 t573.length co8:Value).ownBlock∧some k_≠(.slice Ao86 y622.length co86:Value).ownBlock∧some k_≠(v629:Value).ownBlock∧k_≠gb572∧k_≠gb576) ho0 (fun k_ hk_=>⟨(Kd.fresh' (Kd.N_lt (zN HO575)) k_ hk_),(Kd.fresh' (Kd.N_lt (zN HO624)) k_ hk_),(Kd.fresh' (Kd.N_lt (zN HO630)) k_ hk_),(Kd.freshB (g:=gb572) (o:=.cells #[.int .u32 a1_0,.int .u64 a1_1] 54 (0,0)) (zk BK572) k_ hk_),(Kd.freshB (g:=gb576) (o:=.cells #[.slice Ao8 t573.length co8] 22 (0,0)) (zk BK576) k_ hk_)⟩)) (below_size zB));replace HO575:=zA (Kd.N_elder' (zN HO575) (Kd.N_base ho0) hb);replace HO624:=zA (Kd.N_elder' (zN HO624) (Kd.N_base ho0) hb);replace HO630:=zA (Kd.N_elder' (zN HO630) (Kd.N_base ho0) hb);replace BK572:=zw BK572 hb;replace BK576:=zw BK576 hb;replace HB:=zu hb;clear hb;(try clear ho0)))
     (try simp only [Act.put,zi,zs,zt])
     have H:=HC93.out
     clear HC93
     obtain ⟨c98,H⟩:=if1 H
     have c98b0:(t635 == 0)=true:=beq_iff_eq.mpr c98
     have c98b1:(t635 != 0)=false:=bne_eq_false_iff_eq.mpr c98
     clear c98
     (first|rw [c98b0]|(simp only [i64_w,i32_w];rw [c98b0])|skip)
     (try rw [c98b1])
     obtain ⟨t636,A99,H⟩:=zo H
     obtain ⟨t639,A100,H⟩:=zo H
     obtain ⟨t642,A101,H⟩:=zo H
     obtain rfl:=Option.some.inj H
     obtain ⟨Ao102,co102,eo102⟩:=Kd.N_slice HO634.out
     subst eo102
     go_wp2_with (first|((with_reducible refine gate_callee (f:=33) rfl ?_);refine goesL_ (some 55) rfl rfl Try.func33 zK rfl #[.slice Ao102 t632.length co102] rfl zM ?_;(with_reducible refine (slices_Clone_int_int_33.calls (fun k_=>(some k_≠(.slice Ao8 t573.length co8:Value).ownBlock∧(some k_≠(.slice Ao86 y622.length co86:Value).ownBlock∧(some k_≠(v629:Value).ownBlock∧(k_≠gb572∧k_≠gb576))))) _ _ t632 t636 _ ?side1 A99.out).mono ?_);(case side1=>exact Kd.N_V (HO634.out));rintro e w103 ⟨v637,rfl,ho0,hb⟩;refine ⟨_,rfl,?_⟩;have HO638:=zA (Kd.N_lower (Kd.N_mono (ok':=fun k_=>some k_≠(.slice Ao8 t573.length co8:Value).ownBlock∧some k_≠(.slice Ao86 y622.length co86:Value).ownBlock∧some k_≠(v629:Value).ownBlock∧k_≠gb572∧k_≠gb576) ho0 (fun k_ hk_=>⟨Or.elim hk_ (fun hs_=>hs_.1) (fun hn_=>(Kd.fresh' (Kd.N_lt (zN HO575)) k_ hn_)),Or.elim hk_ (fun hs_=>hs_.2.1) (fun hn_=>(Kd.fresh' (Kd.N_lt (zN HO624)) k_ hn_)),Or.elim hk_ (fun hs_=>hs_.2.2.1) (fun hn_=>(Kd.fresh' (Kd.N_lt (zN HO630)) k_ hn_)),Or.elim hk_ (fun hs_=>hs_.2.2.2.1) (fun hn_=>(Kd.freshB (g:=gb572) (o:=.cells #[.int .u32 a1_0,.int .u64 a1_1] 54 (0,0)) (zk BK572) k_ hn_)),Or.elim hk_ (fun hs_=>hs_.2.2.2.2) (fun hn_=>(Kd.freshB (g:=gb576) (o:=.cells #[.slice Ao8 t573.length co8] 22 (0,0)) (zk BK576) k_ hn_))⟩)) (below_size zB));replace HO575:=zA (Kd.N_elder' (zN HO575) (Kd.N_base ho0) hb);replace HO624:=zA (Kd.N_elder' (zN HO624) (Kd.N_base ho0) hb);replace HO630:=zA (Kd.N_elder' (zN HO630) (Kd.N_base ho0) hb);replace HO634:=zA (Kd.N_elder' (zN HO634) (Kd.N_base ho0) hb);replace BK572:=zw BK572 hb;replace BK576:=zw BK576 hb;replace HB:=zu hb;clear hb;(try clear ho0);obtain ⟨Ao104,co104,eo104⟩:=Kd.N_slice HO638.out;subst eo104)|((with_reducible refine gate_callee (f:=32) rfl ?_);refine goesL_ (some 57) rfl rfl Try.func32 zK rfl #[.slice Ao104 t636.length co104,.func (.func 34) #[] #[.pointer (some ⟨gb576,0,none⟩)]] rfl zM ?_;(with_reducible refine (slices_DeleteFunc_int_int_ancepslaw42_ConflictGrows_1.calls (fun k_=>(some k_≠(.slice Ao8 t573.length co8:Value).ownBlock∧(some k_≠(.slice Ao86 y622.length co86:Value).ownBlock∧(some k_≠(v629:Value).ownBlock∧(k_≠gb572∧k_≠gb576))))) (.slice Ao104 t636.length co104) t636 gb576 Ao8 co8 t573 t639 w _ ?side1 ?side2 ?side3 ?side4 ?side5 ?side6 A100.out).mono ?_);(case side1=>repeat (first|(with_reducible first|exact HB.out|apply below_alloc|apply pw_below_drewN|apply below_drew1|refine below_set ?_ GE572.out|refine below_set ?_ GE576.out)|exact HB.out));(case side2=>((with_reducible repeat (first|apply Kd.N_alloc|apply Kd.N_drewN|apply Kd.N_drew));exact HO638.out));(case side3=>exact Kd.C_kept_ownV (base:=0) (Kd.N_V (HO575.out)) (fun k_ hk_ hs_=>(hk_.2) hs_));(case side4=>exact (Kd.N_reads' HO575.out).2.1);(case side5=>refine zj ?_;exact BK576.out);(case side6=>exact fun k_ e_=>(HO638.out.1 k_ e_.symm).2.2.2.2);rintro e w105 ⟨v640,rfl,ho0,hb,hkp,hown_⟩;refine ⟨_,rfl,?_⟩;have HO641:=zA (ho0);replace BK572:=zA (blk_kept (zk BK572) hkp (fun hs_=>(fun e_=>(Kd.N_ne HO638.out BK572.out (by decide)) e_) hs_));replace HO575:=zA (Kd.N_mono (ok':=fun k_=>some k_≠(.slice Ao86 y622.length co86:Value).ownBlock∧some k_≠(v629:Value).ownBlock∧some k_≠(.slice Ao102 t632.length co102:Value).ownBlock∧k_≠gb572∧k_≠gb576∧some k_≠(v640:Value).ownBlock) (Kd.N_keptB (HO575.out) hkp (fun k_ hk_ hs_=>(hk_.2) hs_)) (fun k_ hk_=>⟨hk_.1.1.1.1.2,hk_.1.1.1.2,hk_.1.1.2,hk_.1.1.1.1.1.2.2.1,hk_.1.1.1.1.1.2.2.2,fun e_=>(hk_.1.2) (e_.trans hown_)⟩));replace BK576:=zA (blk_kept (zk BK576) hkp (fun hs_=>(fun e_=>(Kd.N_ne HO638.out BK576.out (by decide)) e_) hs_));replace HO624:=zA (Kd.N_mono (ok':=fun k_=>some k_≠(.slice Ao8 t573.length co8:Value).ownBlock∧some k_≠(v629:Value).ownBlock∧some k_≠(.slice Ao102 t632.length co102:Value).ownBlock∧k_≠gb572∧k_≠gb576∧some k_≠(v640:Value).ownBlock) (Kd.N_keptB (HO624.out) hkp (fun k_ hk_ hs_=>(hk_.2) hs_)) (fun k_ hk_=>⟨hk_.1.1.1.1.1,hk_.1.1.1.2,hk_.1.1.2,hk_.1.1.1.1.2.1,hk_.1.1.1.1.2.2,fun e_=>(hk_.1.2) (e_.trans hown_)⟩));replace HO630:=zA (Kd.N_mono (ok':=fun k_=>some k_≠(.slice Ao8 t573.length co8:Value).ownBlock∧some k_≠(.slice Ao86 y622.length co86:Value).ownBlock∧some k_≠(.slice Ao102 t632.length co102:Value).ownBlock∧k_≠gb572∧k_≠gb576∧some k_≠(v640:Value).ownBlock) (Kd.N_keptB (HO630.out) hkp (fun k_ hk_ hs_=>(hk_.2) hs_)) (fun k_ hk_=>⟨hk_.1.1.1.1,hk_.1.1.1.2.1,hk_.1.1.2,hk_.1.1.1.2.2.1,hk_.1.1.1.2.2.2,fun e_=>(hk_.1.2) (e_.trans hown_)⟩));replace HO634:=zA (Kd.N_mono (ok':=fun k_=>some k_≠(.slice Ao8 t573.length co8:Value).ownBlock∧some k_≠(.slice Ao86 y622.length co86:Value).ownBlock∧some k_≠(v629:Value).ownBlock∧k_≠gb572∧k_≠gb576∧some k_≠(v640:Value).ownBlock) (Kd.N_keptB (HO634.out) hkp (fun k_ hk_ hs_=>(hk_.2) hs_)) (fun k_ hk_=>⟨hk_.1.1.1,hk_.1.1.2.1,hk_.1.1.2.2.1,hk_.1.1.2.2.2.1,hk_.1.1.2.2.2.2,fun e_=>(hk_.1.2) (e_.trans hown_)⟩));replace HB:=zA (hb);clear HO638;(try clear hb);(try clear hkp);(try clear hown_);(try clear ho0);obtain ⟨Ao106,co106,eo106⟩:=Kd.N_slice HO641.out;subst eo106;obtain ⟨Ao107,co107,eo107⟩:=Kd.N_slice HO630.out;subst eo107)|((with_reducible refine gate_callee (f:=18) rfl ?_);refine goesL_ (some 60) rfl rfl Try.func18 zK rfl #[.slice Ao106 t639.length co106,.slice Ao107 t628.length co107] rfl zM ?_;(with_reducible refine (ancepsref42_Lists.calls k _ _ t639 _ _ t628 t642 _ ?side1 ?side2 ?side3 ?side4 A101.out).mono ?_);(case side1=>exact zC (Kd.N_reads' HO641.out).2.2);(case side2=>exact (Kd.N_reads' HO641.out).2.1);(case side3=>exact zC (Kd.N_reads' HO630.out).2.2);(case side4=>exact (Kd.N_reads' HO630.out).2.1);rintro e w' ⟨rfl,⟨nd,rfl⟩⟩;refine ⟨_,rfl,?_⟩))
     go_ret
     exact ⟨ze,by repeat (first|(with_reducible first|exact HB.out|apply below_alloc|apply pw_below_drewN|apply below_drew1|refine below_set ?_ GE572.out|refine below_set ?_ GE576.out)|exact HB.out)⟩
    ·(first|rw [c89b0]|(simp only [i64_w,i32_w];rw [c89b0])|skip)
     (try rw [c89b1])
     obtain ⟨t643,A108,H⟩:=zo H
     obtain rfl:=Option.some.inj H
     go_wp2_with (first|((with_reducible refine gate_callee (f:=9) rfl ?_);refine goesL_ (some 37) rfl rfl Try.func9 zK rfl #[] rfl zM ?_;(with_reducible refine (ancepslaw42_awake.calls k  t643 _ A108.out).mono ?_);rintro e w109 ⟨rfl,hb⟩;refine ⟨_,rfl,?_⟩;replace HO575:=zA (Kd.N_below (zN HO575) hb);replace HO624:=zA (Kd.N_below (zN HO624) hb);replace BK572:=zw BK572 hb;replace BK576:=zw BK576 hb;replace HB:=zu hb;clear hb))
     go_ret
     exact ⟨ze,by repeat (first|(with_reducible first|exact HB.out|apply below_alloc|apply pw_below_drewN|apply below_drew1|refine below_set ?_ GE572.out|refine below_set ?_ GE576.out)|exact HB.out)⟩
   ·replace c82:=Bool.eq_false_iff.mpr c82
    subst c82
    have H1:((ancepslaw42_awake.f k).bind fun t644=>(some t644))=some r:=by rw [if_neg (show ¬ (false=true) by decide)] at H;exact H
    clear H
    have H:=H1
    clear H1
    obtain ⟨t644,A110,H⟩:=zo H
    obtain rfl:=Option.some.inj H
    go_wp2_with (first|((with_reducible refine gate_callee (f:=9) rfl ?_);refine goesL_ (some 25) rfl rfl Try.func9 zK rfl #[] rfl zM ?_;(with_reducible refine (ancepslaw42_awake.calls k  true _ A79.out).mono ?_);rintro e w111 ⟨rfl,hb⟩;refine ⟨_,rfl,?_⟩;replace HO575:=zA (Kd.N_below (zN HO575) hb);replace HO624:=zA (Kd.N_below (zN HO624) hb);replace BK572:=zw BK572 hb;replace BK576:=zw BK576 hb;replace HB:=zu hb;clear hb;obtain ⟨Ao112,co112,eo112⟩:=Kd.N_slice HO624.out;subst eo112)|(go_at_call 10;(with_reducible refine (ancepsref42_Few.calls k _ _ y622 false _ ?side1 ?side2 A81.out).mono ?_);(case side1=>exact zC (Kd.N_reads' HO624.out).2.2);(case side2=>exact (Kd.N_reads' HO624.out).2.1);rintro e w113 ⟨rfl,hb⟩;replace HO575:=zA (Kd.N_below (zN HO575) hb);replace HO624:=zA (Kd.N_below (zN HO624) hb);replace BK572:=zw BK572 hb;replace BK576:=zw BK576 hb;replace HB:=zu hb;clear hb)|((with_reducible refine gate_callee (f:=9) rfl ?_);refine goesL_ (some 37) rfl rfl Try.func9 zK rfl #[] rfl zM ?_;(with_reducible refine (ancepslaw42_awake.calls k  t644 _ A110.out).mono ?_);rintro e w114 ⟨rfl,hb⟩;refine ⟨_,rfl,?_⟩;replace HO575:=zA (Kd.N_below (zN HO575) hb);replace HO624:=zA (Kd.N_below (zN HO624) hb);replace BK572:=zw BK572 hb;replace BK576:=zw BK576 hb;replace HB:=zu hb;clear hb))
    go_ret
    exact ⟨ze,by repeat (first|(with_reducible first|exact HB.out|apply below_alloc|apply pw_below_drewN|apply below_drew1|refine below_set ?_ GE572.out|refine below_set ?_ GE576.out)|exact HB.out)⟩
  ·replace c80:=Bool.eq_false_iff.mpr c80
   subst c80
   have H1:((ancepslaw42_awake.f k).bind fun t645=>(some t645))=some r:=by rw [if_neg (show ¬ (false=true) by decide)] at H;exact H
   clear H
   have H:=H1
   clear H1
   obtain ⟨t645,A115,H⟩:=zo H
   obtain rfl:=Option.some.inj H
   go_wp2_with (first|((with_reducible refine gate_callee (f:=9) rfl ?_);refine goesL_ (some 25) rfl rfl Try.func9 zK rfl #[] rfl zM ?_;(with_reducible refine (ancepslaw42_awake.calls k  false _ A79.out).mono ?_);rintro e w116 ⟨rfl,hb⟩;refine ⟨_,rfl,?_⟩;replace HO575:=zA (Kd.N_below (zN HO575) hb);replace HO624:=zA (Kd.N_below (zN HO624) hb);replace BK572:=zw BK572 hb;replace BK576:=zw BK576 hb;replace HB:=zu hb;clear hb)|((with_reducible refine gate_callee (f:=9) rfl ?_);refine goesL_ (some 37) rfl rfl Try.func9 zK rfl #[] rfl zM ?_;(with_reducible refine (ancepslaw42_awake.calls k  t645 _ A115.out).mono ?_);rintro e w117 ⟨rfl,hb⟩;refine ⟨_,rfl,?_⟩;replace HO575:=zA (Kd.N_below (zN HO575) hb);replace HO624:=zA (Kd.N_below (zN HO624) hb);replace BK572:=zw BK572 hb;replace BK576:=zw BK576 hb;replace HB:=zu hb;clear hb))
   go_ret
   exact ⟨ze,by repeat (first|(with_reducible first|exact HB.out|apply below_alloc|apply pw_below_drewN|apply below_drew1|refine below_set ?_ GE572.out|refine below_set ?_ GE576.out)|exact HB.out)⟩
end Go.Proofs.Ytkjghablbeaioaa.G
