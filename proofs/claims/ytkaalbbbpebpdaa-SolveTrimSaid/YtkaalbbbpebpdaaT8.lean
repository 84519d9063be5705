import Derived.Test.YtkaalbbbpebpdaaT0
import Derived.Test.YtkaalbbbpebpdaaT2
import Derived.Test.YtkaalbbbpebpdaaT4
import Derived.Test.YtkaalbbbpebpdaaT5
import Derived.Test.YtkaalbbbpebpdaaT6
namespace Go.Proofs.Ytkaalbbbpebpdaa.T
open Go.RowKit Go.Proofs.YtkaalbbbpebpdaaW.PrintWords Go.Proofs.YtkaalbbbpebpdaaW.PrintLast Go.Proofs.YtkaalbbbpebpdaaW.PrintMore
attribute [local go_sem] max2_int min2_int max_two min_two max_three min_three max_four min_four Try.underlying23 Try.underlying25 Try.underlying3 Try.underlying35 Try.underlying45 Try.underlying48 Try.underlying55 Try.underlying64
set_option linter.unusedVariables false
set_option linter.unusedSimpArgs false
def solve_part_holds.T2:Bool×List (List Nat×List Nat):=(true,[([],[]),([],[]),([],[]),([2],[2]),([3],[3]),([4],[4]),([5],[5]),([1,6],[1,6]),([7],[7]),([0,8],[0,8]),([9,9,0,1,2,3,4,5,6,7,8,9],[9])])
def solve_part_holds.B2:List Nat:=[0,0,0,4,12,28,60,126,254,511,1023]
theorem solve_part_holds.tab2:rtab .any (opsOf Try.f28 2)=solve_part_holds.T2:=by kernel_rfl
theorem solve_part_holds.bits2:waitsOk solve_part_holds.T2.2 solve_part_holds.B2=true:=by kernel_rfl
def solve_part_holds.T4:Bool×List (List Nat×List Nat):=(true,[([],[]),([0],[0]),([1],[1]),([2],[2]),([],[]),([],[]),([],[]),([5,6],[5,6]),([3,4,7,7],[3,4,7]),([8,8],[8]),([9],[9]),([10,9],[9,10]),([11,9],[9,11]),([12,9],[9,12]),([9],[9]),([9],[9]),([9],[9]),([15,16,9,9],[9,15,16]),([13,14,17,17,9],[9,13,14,17]),([9,18],[9,18]),([19,18,0,1,2,3,4,5,6,7,8,9,10,11,12,13,14,15,16,17,18,19],[19])])
def solve_part_holds.B4:List Nat:=[0,1,3,7,0,0,0,96,255,511,1023,2047,4095,8191,1023,1023,1023,99327,262143,524287,1048575]
theorem solve_part_holds.tab4:rtab .any (opsOf Try.f28 4)=solve_part_holds.T4:=by kernel_rfl
theorem solve_part_holds.bits4:waitsOk solve_part_holds.T4.2 solve_part_holds.B4=true:=by kernel_rfl
/-- A part,as a tree. -/
inductive PT
 | lf (b:S55)
 | nd (b:S55) (z o:PT)
/-- A tree lies at a block. -/
def PTw (w:World):PT→Nat→Prop
 | .lf b,g=>w.heap[g]?=some (.cells #[.int .i64 b.f0,.int .i64 b.f1,.int .i64 b.f2,.int .i64 b.f3,.pointer none,.pointer none] 64 (0,0))
 | .nd b z o,g=>∃ gz go,w.heap[g]?=some (.cells #[.int .i64 b.f0,.int .i64 b.f1,.int .i64 b.f2,.int .i64 b.f3,.pointer (some ⟨gz,0,none⟩),.pointer (some ⟨go,0,none⟩)] 64 (0,0))∧PTw w z gz∧PTw w o go
theorem PTw.imp {w w':World} (hk:∀ (g:Nat) (cs:Array Value),w.heap[g]?=some (.cells cs 64 (0,0))→w'.heap[g]?=some (.cells cs 64 (0,0))):∀ {T:PT} {g:Nat},PTw w T g→PTw w' T g
 | .lf _,_,h=>hk _ _ h
 | .nd _ _ _,_,⟨gz,go,h,hz,ho⟩=>⟨gz,go,hk _ _ h,PTw.imp hk hz,PTw.imp hk ho⟩
theorem PTw.below {w w':World} {T:PT} {g:Nat} (h:PTw w T g) (hb:Below w.heap.size w w'):PTw w' T g:=h.imp (fun _ _ hg=>blk_below hg hb)
def solve_part_holds.f:Nat→PT→List (S35)→Int→Int→Option Bool
 | 0,_,_,_,_=>none
 | k+1,.lf b,l0,a0,a1=>if b.f0<0 then (if 0≤b.f3 then (if b.f3<(l0.length:Int) then solve_choices_fails.f k a0 a1 ((rd_T35 l0 b.f3).f0) ((rd_T35 l0 b.f3).f1) else none) else none) else none
 | k+1,.nd b z o,l0,a0,a1=>if b.f0<0 then none else (solve_choices_with.f a0 a1 b.f0 0).bind fun c=>(solve_part_holds.f k z l0 c.1 c.2).bind fun t=>(if t=true then (solve_choices_with.f a0 a1 b.f0 1).bind fun d=>solve_part_holds.f k o l0 d.1 d.2 else some false)
set_option maxHeartbeats 8000000 in
set_option maxRecDepth 100000 in
theorem solve_part_holds.calls (k:Nat):∀ (T:PT) (gp:Nat) (A0:Option Addr) (c0:Nat) (l0:List (S35)) (a0 a1:Int) (r:Bool) (w:World) (hT:PTw w T gp) (hr0:Kd.C k35 w A0 l0.length l0) (hc0:l0.length≤c0) (h:solve_part_holds.f k T l0 a0 a1=some r),
  Calls Try.prog 28 #[.pointer (some ⟨gp,0,none⟩),.slice A0 l0.length c0,.agg #[.int .i64 a0,.int .i64 a1]] w fun e w'=>e=.returned (.bool r)∧Below w.heap.size w w':=by
 induction k using Nat.strongRecOn with
 | _ k ih=>
 intro T gp A0 c0 l0 a0 a1 r w hT hr0 hc0 h
 cases k with
 | zero=>exact absurd h (by simp [solve_part_holds.f])
 | succ k=>
 have HR0:=zA hr0;have HC0:=zA hc0;clear hr0 hc0;have HB:=zA (Below.refl w.heap.size w)
 cases T with
 | lf b=>
  simp only [solve_part_holds.f] at h;have H0:=zA h;clear h;have BKp:=zA (show w.heap[gp]?=some (.cells #[.int .i64 b.f0,.int .i64 b.f1,.int .i64 b.f2,.int .i64 b.f3,.pointer none,.pointer none] 64 (0,0)) from hT);clear hT
  go_enter Try.func28,Try.ntmps28
  go_upto_if 13 with (first|((with_reducible refine gate_dst (N:=5) rfl ?_);refine box_event ?hg (N:=5) ?hd (cs:=#[.int .i64 a0,.int .i64 a1]) (t:=48) ?hr ?_;(case hd=>rfl);(case hg=>rfl);(case hr=>first|(go_simp;done)|(go_simp;rfl));intro gb hg w8 hbox hb;replace BKp:=zA (blk_below BKp.out hb);replace HB:=zA (below_step HB.out hb);have BKc:=zA hbox;clear hb hbox hg;have hp0:w8.cell? ⟨gp,0,none⟩=some (.int .i64 b.f0):=zc0 BKp;have hpf:=blk_frozen BKp.out 0))
  (try simp only [Act.put,zi,zs,zt]);have H:=H0.out;clear H0
  by_cases c1:b.f0<0
  rotate_left
  ·rw [if_neg c1] at H;exact absurd H (by simp)
  rw [if_pos c1] at H;have c1b0:decide (b.f0<0)=true:=decide_eq_true c1;clear c1
  (first|rw [c1b0]|(simp only [i64_w,i32_w];rw [c1b0])|skip)
  by_cases c2:0≤b.f3
  rotate_left
  ·rw [if_neg c2] at H;exact absurd H (by simp)
  rw [if_pos c2] at H
  by_cases c3:b.f3<(l0.length:Int)
  rotate_left
  ·rw [if_neg c3] at H;exact absurd H (by simp)
  rw [if_pos c3] at H;have A5:=zA H;clear H
  try go_wp2
  replace BKp:=zA (blk_drew BKp.out);replace BKc:=zA (blk_drew BKc.out);replace HB:=zA (below_drew1 HB.out);clear hp0 hpf;obtain ⟨ad,A30_0,c30_0,A30_1,c30_1,e30,hx30_0,hx30_1,hl30_0,hi30_0,hl30_1,hi30_1⟩:=at_T35 HR0.out b.f3 c2 c3;have hw30_1:=hx30_1;have hw30_0:=hx30_0
  cases e30
  have HR30_0:=zA hi30_0;have HC30_0:=zA hl30_0;clear hi30_0 hl30_0;have HR30_1:=zA hi30_1;have HC30_1:=zA hl30_1;clear hi30_1 hl30_1;replace c2:=eq_true c2;replace c3:=eq_true c3;refine start_ (n:=11) (S:=fun w'=>w'.cell? ⟨gp,3,none⟩=some (.int .i64 b.f3)∧w'.cell? ⟨gb,0,none⟩=some (.int .i64 a0)∧w'.cell? ⟨gb,1,none⟩=some (.int .i64 a1)∧w'.cell? (ad.add ((b.f3).toNat * 2))=some (.slice A30_0 ((rd_T35 l0 b.f3).f0).length c30_0)∧w'.cell? ⟨(ad.add ((b.f3).toNat * 2)).block,(ad.add ((b.f3).toNat * 2)).off+1,none⟩=some (.slice A30_1 ((rd_T35 l0 b.f3).f1).length c30_1)) (ds:=[]) (bz 11 0) zK rfl rfl ⟨zc3 BKp,zc0 BKc,zc1 BKc,((HB.out.cell (World.block_lt_of_cell? w _ hw30_0)).trans hw30_0),((HB.out.cell (World.block_lt_of_cell? w _ hw30_1)).trans hw30_1)⟩ (fun hHeld=>?_);refine with_tabW solve_part_holds.tab2 solve_part_holds.bits2 (fun HT_ HW_=>?_)
  generalize w8.drew=w9 at BKp BKc HB hHeld ⊢
  refine zP 1 15 (bz 11 2) HT_ ?_;refine zP 2 16 (bz 11 6) HT_ ?_;refine zP 3 17 (bz 11 14) HT_ ?_;refine zP 4 18 (bz 11 30) HT_ ?_;refine zP 5 19 (bz 11 62) HT_ ?_;refine zQ 0 14 (bz 11 63) HT_ HW_ hHeld ?_;refine zQ 6 20 (bz 11 127) HT_ HW_ hHeld ?_;refine zP 7 21 (bz 11 255) HT_ ?_;refine zQ 8 22 (bz 11 511) HT_ HW_ hHeld ?_;refine one_ (i:=9) (N:=some 23) (bz 11 1023) rfl rfl (one_of HT_.out zK) (by decide) (fun K hK=>?_);refine goes_ Try.func35 zK rfl #[.agg #[.int .i64 a0,.int .i64 a1],.agg #[.slice A30_0 ((rd_T35 l0 b.f3).f0).length c30_0,.slice A30_1 ((rd_T35 l0 b.f3).f1).length c30_1]] (by rfl) rfl rfl (by (try simp only [List.map_toArray,List.map_cons,List.map_nil]);first|done|rfl) ?_
  with_reducible refine (solve_choices_fails.calls k a0 a1 _ _ ((rd_T35 l0 b.f3).f0) _ _ ((rd_T35 l0 b.f3).f1) r _ ?side1 ?side2 ?side3 ?side4 A5.out).mono ?_
  (case side1=>exact Kd.C_below HR30_0.out HB.out);(case side2=>exact HC30_0.out);(case side3=>exact Kd.C_below HR30_1.out HB.out);(case side4=>exact HC30_1.out);rintro e w10 ⟨rfl,hb⟩;refine ⟨_,rfl,?_⟩;replace BKp:=zA (blk_below BKp.out hb);replace BKc:=zA (blk_below BKc.out hb);replace HB:=zA (below_step HB.out hb);clear hb;refine hK.out _ _ ⟨zc3 BKp,zc0 BKc,zc1 BKc,((HB.out.cell (World.block_lt_of_cell? w _ hw30_0)).trans hw30_0),((HB.out.cell (World.block_lt_of_cell? w _ hw30_1)).trans hw30_1)⟩ (fun hHeld=>?_);clear hK K;refine norm_ (a':=?_) ?_ ?_;rotate_left
  ·show Act.put _ (some 23) _=_
   simp only [Act.put,zi,zs,zt,i64_w,i32_w];rfl
  refine zP 10 6 (bz 11 2047) HT_ ?_;refine done_ (done_of HT_.out zK) ?_
  try go_wp2
  go_ret
  exact ⟨rfl,HB.out⟩
 | nd b z o=>
  simp only [solve_part_holds.f] at h;have H0:=zA h;clear h;obtain ⟨gz,go,hT0,hT1,hT2⟩:=hT;have BKp:=zA hT0;have HTz:=zA hT1;have HTo:=zA hT2;clear hT0 hT1 hT2
  go_enter Try.func28,Try.ntmps28
  go_upto_if 13 with (first|((with_reducible refine gate_dst (N:=5) rfl ?_);refine box_event ?hg (N:=5) ?hd (cs:=#[.int .i64 a0,.int .i64 a1]) (t:=48) ?hr ?_;(case hd=>rfl);(case hg=>rfl);(case hr=>first|(go_simp;done)|(go_simp;rfl));intro gb hg w8 hbox hb;replace BKp:=zA (blk_below BKp.out hb);replace HB:=zA (below_step HB.out hb);replace HTz:=zA (HTz.out.below hb);replace HTo:=zA (HTo.out.below hb);have BKc:=zA hbox;clear hb hbox hg;have hp0:w8.cell? ⟨gp,0,none⟩=some (.int .i64 b.f0):=zc0 BKp;have hpf:=blk_frozen BKp.out 0))
  (try simp only [Act.put,zi,zs,zt]);have H:=H0.out;clear H0
  by_cases c1:b.f0<0
  ·rw [if_pos c1] at H;exact absurd H (by simp)
  rw [if_neg c1] at H;have c1b0:decide (b.f0<0)=false:=decide_eq_false c1;clear c1
  (first|rw [c1b0]|(simp only [i64_w,i32_w];rw [c1b0])|skip)
  replace H:=Option.bind_eq_some_iff.mp H;obtain ⟨⟨x0,x1⟩,A50,H⟩:=H;have A5:=zA A50;clear A50;replace H:=Option.bind_eq_some_iff.mp H;obtain ⟨t,A60,H⟩:=H;have A6:=zA A60;clear A60;have HC:=zA H;clear H
  try go_wp2
  replace BKp:=zA (blk_drew BKp.out);replace BKc:=zA (blk_drew BKc.out);replace HB:=zA (below_drew1 HB.out);replace HTz:=zA (HTz.out.below (below_drew1 (Below.refl _ _)));replace HTo:=zA (HTo.out.below (below_drew1 (Below.refl _ _)));clear hp0 hpf;refine start_ (n:=21) (S:=fun w'=>w'.cell? ⟨gp,4,none⟩=some (.pointer (some ⟨gz,0,none⟩))∧w'.cell? ⟨gp,5,none⟩=some (.pointer (some ⟨go,0,none⟩))∧w'.cell? ⟨gb,0,none⟩=some (.int .i64 a0)∧w'.cell? ⟨gb,1,none⟩=some (.int .i64 a1)) (ds:=[]) (bz 21 0) zK rfl rfl ⟨zc4 BKp,zc5 BKp,zc0 BKc,zc1 BKc⟩ (fun hHeld=>?_);refine with_tabW solve_part_holds.tab4 solve_part_holds.bits4 (fun HT_ HW_=>?_)
  generalize w8.drew=w9 at BKp BKc HB HTz HTo hHeld ⊢
  refine zP 0 29 (bz 21 1) HT_ ?_;refine zP 1 30 (bz 21 3) HT_ ?_;refine zP 2 31 (bz 21 7) HT_ ?_;refine zP 4 33 (bz 21 23) HT_ ?_;refine zP 6 35 (bz 21 87) HT_ ?_;refine zQ 3 32 (bz 21 95) HT_ HW_ hHeld ?_;refine zQ 5 34 (bz 21 127) HT_ HW_ hHeld ?_;refine one_ (i:=7) (N:=some 36) (bz 21 255) rfl rfl (one_of HT_.out zK) (by decide) (fun K hK=>?_);refine goes_ Try.func27 zK rfl #[.agg #[.int .i64 a0,.int .i64 a1],.int .i64 b.f0,.int .i64 0] (by rfl) rfl rfl (by (try simp only [List.map_toArray,List.map_cons,List.map_nil]);first|done|rfl) ?_
  with_reducible refine (solve_choices_with.calls a0 a1 b.f0 0 x0 x1 _ A5.out).mono ?_
  rintro e w10 ⟨rfl,hb⟩;refine ⟨_,rfl,?_⟩;replace BKp:=zA (blk_below BKp.out hb);replace BKc:=zA (blk_below BKc.out hb);replace HB:=zA (below_step HB.out hb);replace HTz:=zA (HTz.out.below hb);replace HTo:=zA (HTo.out.below hb);clear hb;refine hK.out _ _ ⟨zc4 BKp,zc5 BKp,zc0 BKc,zc1 BKc⟩ (fun hHeld=>?_);clear hK K;refine norm_ (a':=?_) ?_ ?_;rotate_left
  ·show Act.put _ (some 36) _=_
   simp only [Act.put,zi,zs,zt,i64_w,i32_w];rfl
  refine one_ (i:=8) (N:=some 37) (bz 21 511) rfl rfl (one_of HT_.out zK) (by decide) (fun K hK=>?_);refine goes_ Try.func28 zK rfl #[.pointer (some ⟨gz,0,none⟩),.slice A0 l0.length c0,.agg #[.int .i64 x0,.int .i64 x1]] (by rfl) rfl rfl (by (try simp only [List.map_toArray,List.map_cons,List.map_nil]);first|done|rfl) ?_
  with_reducible refine (ih k (by omega) z gz _ _ l0 x0 x1 t _ ?side1 ?side2 ?side3 A6.out).mono ?_
  (case side1=>exact HTz.out);(case side2=>exact Kd.C_below HR0.out HB.out);(case side3=>exact HC0.out);rintro e w11 ⟨rfl,hb⟩;refine ⟨_,rfl,?_⟩;replace BKp:=zA (blk_below BKp.out hb);replace BKc:=zA (blk_below BKc.out hb);replace HB:=zA (below_step HB.out hb);replace HTz:=zA (HTz.out.below hb);replace HTo:=zA (HTo.out.below hb);clear hb;refine hK.out _ _ ⟨zc4 BKp,zc5 BKp,zc0 BKc,zc1 BKc⟩ (fun hHeld=>?_);clear hK K;refine norm_ (a':=?_) ?_ ?_;rotate_left
  ·show Act.put _ (some 37) _=_
   simp only [Act.put,zi,zs,zt,i64_w,i32_w];rfl
  refine zP 9 38 (bz 21 1023) HT_ ?_;have H:=HC.out;clear HC
  cases t with
  | false=>
   simp only [Bool.false_eq_true,if_false,Option.some.injEq] at H;subst H;refine zU 10 39 (bz 21 2047) HT_ ?_;refine zU 11 40 (bz 21 4095) HT_ ?_;refine zU 12 41 (bz 21 8191) HT_ ?_;refine zU 13 42 (bz 21 16383) HT_ ?_;refine zU 14 43 (bz 21 32767) HT_ ?_;refine zU 15 44 (bz 21 65535) HT_ ?_;refine zU 16 45 (bz 21 131071) HT_ ?_;refine zU 17 46 (bz 21 262143) HT_ ?_;refine zU 18 47 (bz 21 524287) HT_ ?_;refine zP 19 48 (bz 21 1048575) HT_ ?_;refine zP 20 6 (bz 21 2097151) HT_ ?_;refine done_ (done_of HT_.out zK) ?_
   try go_wp2
   go_ret
   exact ⟨rfl,HB.out⟩
  | true=>
   simp only [if_true] at H;replace H:=Option.bind_eq_some_iff.mp H;obtain ⟨⟨y0,y1⟩,A70,H⟩:=H;have A7:=zA A70;have A8:=zA H;clear A70 H;refine zP 10 39 (bz 21 2047) HT_ ?_;refine zP 11 40 (bz 21 4095) HT_ ?_;refine zP 12 41 (bz 21 8191) HT_ ?_;refine zP 14 43 (bz 21 24575) HT_ ?_;refine zP 16 45 (bz 21 90111) HT_ ?_;refine zQ 13 42 (bz 21 98303) HT_ HW_ hHeld ?_;refine zQ 15 44 (bz 21 131071) HT_ HW_ hHeld ?_;refine one_ (i:=17) (N:=some 46) (bz 21 262143) rfl rfl (one_of HT_.out zK) (by decide) (fun K hK=>?_);refine goes_ Try.func27 zK rfl #[.agg #[.int .i64 a0,.int .i64 a1],.int .i64 b.f0,.int .i64 1] (by rfl) rfl rfl (by (try simp only [List.map_toArray,List.map_cons,List.map_nil]);first|done|rfl) ?_
   with_reducible refine (solve_choices_with.calls a0 a1 b.f0 1 y0 y1 _ A7.out).mono ?_
   rintro e w12 ⟨rfl,hb⟩;refine ⟨_,rfl,?_⟩;replace BKp:=zA (blk_below BKp.out hb);replace BKc:=zA (blk_below BKc.out hb);replace HB:=zA (below_step HB.out hb);replace HTz:=zA (HTz.out.below hb);replace HTo:=zA (HTo.out.below hb);clear hb;refine hK.out _ _ ⟨zc4 BKp,zc5 BKp,zc0 BKc,zc1 BKc⟩ (fun hHeld=>?_);clear hK K;refine norm_ (a':=?_) ?_ ?_;rotate_left
   ·show Act.put _ (some 46) _=_
    simp only [Act.put,zi,zs,zt,i64_w,i32_w];rfl
   refine one_ (i:=18) (N:=some 47) (bz 21 524287) rfl rfl (one_of HT_.out zK) (by decide) (fun K hK=>?_);refine goes_ Try.func28 zK rfl #[.pointer (some ⟨go,0,none⟩),.slice A0 l0.length c0,.agg #[.int .i64 y0,.int .i64 y1]] (by rfl) rfl rfl (by (try simp only [List.map_toArray,List.map_cons,List.map_nil]);first|done|rfl) ?_
   with_reducible refine (ih k (by omega) o go _ _ l0 y0 y1 r _ ?side1 ?side2 ?side3 A8.out).mono ?_
   (case side1=>exact HTo.out);(case side2=>exact Kd.C_below HR0.out HB.out);(case side3=>exact HC0.out);rintro e w13 ⟨rfl,hb⟩;refine ⟨_,rfl,?_⟩;replace BKp:=zA (blk_below BKp.out hb);replace BKc:=zA (blk_below BKc.out hb);replace HB:=zA (below_step HB.out hb);replace HTz:=zA (HTz.out.below hb);replace HTo:=zA (HTo.out.below hb);clear hb;refine hK.out _ _ ⟨zc4 BKp,zc5 BKp,zc0 BKc,zc1 BKc⟩ (fun hHeld=>?_);clear hK K;refine norm_ (a':=?_) ?_ ?_;rotate_left
   ·show Act.put _ (some 47) _=_
    simp only [Act.put,zi,zs,zt,i64_w,i32_w];rfl
   refine zP 19 48 (bz 21 1048575) HT_ ?_;refine zP 20 6 (bz 21 2097151) HT_ ?_;refine done_ (done_of HT_.out zK) ?_
   try go_wp2
   go_ret
   exact ⟨rfl,HB.out⟩
def solve_trimmed.T4:Bool×List (List Nat×List Nat):=(true,[([],[]),([],[]),([],[]),([],[]),([3],[3]),([],[]),([],[]),([6],[6]),([5,7],[5,7]),([1,2,4,8,8],[1,2,4,8]),([],[]),([],[]),([],[]),([12],[12]),([],[]),([],[]),([15],[15]),([14,16,9],[14,16]),([10,11,13,17,17],[10,11,13,17]),([0,9,18],[0,9,18]),([19],[19]),([20,18,0,1,2,3,4,5,6,7,8,9,10,11,12,13,14,15,16,17,18,19,20],[20])])
def solve_trimmed.B4:List Nat:=[0,0,0,0,8,0,0,64,224,510,0,0,0,4096,0,0,32768,115710,262142,524287,1048575,2097151]
theorem solve_trimmed.tab4:rtab .any (opsOf Try.f16 4)=solve_trimmed.T4:=by kernel_rfl
theorem solve_trimmed.bits4:waitsOk solve_trimmed.T4.2 solve_trimmed.B4=true:=by kernel_rfl
def solve_trimmed.T5:Bool×List (List Nat×List Nat):=(true,[([],[]),([0],[0]),([1],[1]),([2],[2]),([],[]),([],[]),([3,4,5],[3,4,5]),([6,6],[6])])
def solve_trimmed.B5:List Nat:=[0,1,3,7,0,0,63,127]
theorem solve_trimmed.tab5:rtab .any (opsOf Try.f16 5)=solve_trimmed.T5:=by kernel_rfl
theorem solve_trimmed.bits5:waitsOk solve_trimmed.T5.2 solve_trimmed.B5=true:=by kernel_rfl
def solve_trimmed.T7:Bool×List (List Nat×List Nat):=(true,[([],[]),([0],[0]),([1],[1]),([2],[2]),([],[]),([],[]),([3,4,5],[3,4,5]),([6,6],[6])])
def solve_trimmed.B7:List Nat:=[0,1,3,7,0,0,63,127]
theorem solve_trimmed.tab7:rtab .any (opsOf Try.f16 7)=solve_trimmed.T7:=by kernel_rfl
theorem solve_trimmed.bits7:waitsOk solve_trimmed.T7.2 solve_trimmed.B7=true:=by kernel_rfl
def solve_trimmed.f:Nat→List (S35)→List (S55)→Int→Int→Int→Option PT
 | 0,_,_,_,_,_=>none
 | k+1,l0,l1,a2,a3,a4=>if 0≤a2 then (if a2<(l1.length:Int) then (if ((rd_T55 l1 a2).f0)<0 then some (.lf (rd_T55 l1 a2)) else (solve_choices_with.f a3 a4 ((rd_T55 l1 a2).f0) 0).bind fun c=>(solve_trimmed.f k l0 l1 ((rd_T55 l1 a2).f1) c.1 c.2).bind fun z=>(solve_choices_with.f a3 a4 ((rd_T55 l1 a2).f0) 1).bind fun d=>(solve_trimmed.f k l0 l1 ((rd_T55 l1 a2).f2) d.1 d.2).bind fun o=>(solve_part_holds.f k z l0 a3 a4).bind fun t=>(if t=true then some z else (solve_part_holds.f k o l0 a3 a4).bind fun u=>(if u=true then some o else some (.nd (rd_T55 l1 a2) z o)))) else none) else none
set_option maxHeartbeats 8000000 in
set_option maxRecDepth 100000 in
theorem solve_trimmed.calls (k:Nat):∀ (A0:Option Addr) (c0:Nat) (l0:List (S35)) (A1:Option Addr) (c1:Nat) (l1:List (S55)) (a2 a3 a4:Int) (r:PT) (w:World) (hr0:Kd.C k35 w A0 l0.length l0) (hc0:l0.length≤c0) (hr1:Kd.C k55 w A1 l1.length l1) (hc1:l1.length≤c1) (h:solve_trimmed.f k l0 l1 a2 a3 a4=some r),
  Calls Try.prog 16 #[.slice A0 l0.length c0,.agg #[.slice A1 l1.length c1],.int .i64 a2,.agg #[.int .i64 a3,.int .i64 a4]] w fun e w'=>∃ gr,e=.returned (.pointer (some ⟨gr,0,none⟩))∧PTw w' r gr∧Below w.heap.size w w':=by
 induction k using Nat.strongRecOn with
 | _ k ih=>
 intro A0 c0 l0 A1 c1 l1 a2 a3 a4 r w hr0 hc0 hr1 hc1 h
 cases k with
 | zero=>exact absurd h (by simp [solve_trimmed.f])
 | succ k=>
 have HR0:=zA hr0;have HC0:=zA hc0;have HR1:=zA hr1;have HC1:=zA hc1;clear hr0 hc0 hr1 hc1;have HB:=zA (Below.refl w.heap.size w);simp only [solve_trimmed.f] at h
 by_cases c5:0≤a2
 rotate_left
 ·rw [if_neg c5] at h;exact absurd h (by simp)
 rw [if_pos c5] at h
 by_cases c6:a2<(l1.length:Int)
 rotate_left
 ·rw [if_neg c6] at h;exact absurd h (by simp)
 rw [if_pos c6] at h;have H0:=zA h;clear h;obtain ⟨ad,e36,hx_0,hx_1,hx_2,hx_3⟩:=at_T55 HR1.out a2 c5 c6
 cases e36
 have HX:=zA (And.intro hx_0 (And.intro hx_1 (And.intro hx_2 hx_3)));clear hx_0 hx_1 hx_2 hx_3;replace c5:=eq_true c5;replace c6:=eq_true c6
 go_enter Try.func16,Try.ntmps16
 go_upto_if 18 with (first|((with_reducible refine gate_dst (N:=5) rfl ?_);refine box_event ?hg (N:=5) ?hd (cs:=#[.slice (some ad) l1.length c1]) (t:=25) ?hr ?_;(case hd=>rfl);(case hg=>rfl);(case hr=>first|(go_simp;done)|(go_simp;rfl));intro gr hg w8 hbox hb;replace HB:=zA (below_step HB.out hb);have BKr:=zA hbox;clear hb hbox hg)|((with_reducible refine gate_dst (N:=7) rfl ?_);refine box_event ?hg (N:=7) ?hd (cs:=#[.int .i64 a3,.int .i64 a4]) (t:=48) ?hr ?_;(case hd=>rfl);(case hg=>rfl);(case hr=>first|(go_simp;done)|(go_simp;rfl));intro gc hg w9 hbox hb;replace HB:=zA (below_step HB.out hb);replace BKr:=zA (blk_below BKr.out hb);have BKc:=zA hbox;have hcr:w9.cell? ⟨gr,0,none⟩=some (.slice (some ad) l1.length c1):=zc0 BKr;have hfr:=blk_frozen BKr.out 0;have hx_0:=(HB.out.cell (World.block_lt_of_cell? w _ HX.out.1)).trans HX.out.1;have hx_1:=(HB.out.cell (World.block_lt_of_cell? w _ HX.out.2.1)).trans HX.out.2.1;have hx_2:=(HB.out.cell (World.block_lt_of_cell? w _ HX.out.2.2.1)).trans HX.out.2.2.1;have hx_3:=(HB.out.cell (World.block_lt_of_cell? w _ HX.out.2.2.2)).trans HX.out.2.2.2;clear hb hbox hg)|((with_reducible refine gate_dst (N:=9) rfl ?_);refine box_event ?hg (N:=9) ?hd (cs:=#[.int .i64 0,.int .i64 0,.int .i64 0,.int .i64 0]) (t:=55) ?hr ?_;(case hd=>rfl);(case hg=>rfl);(case hr=>first|(go_simp;done)|(go_simp;rfl));intro gn hg w12 hbox hb;have HB0:=HB;have BKr0:=BKr;have BKc0:=BKc;replace HB:=zA (below_step HB.out hb);replace BKr:=zA (blk_below BKr.out hb);replace BKc:=zA (blk_below BKc.out hb);have BKn:=zA hbox;have GN:=zA (by rw [hg];exact below_size HB0.out:w.heap.size≤gn);have NRN:=zA (by rw [hg];exact Nat.ne_of_lt (blk_lt BKr0.out):gr≠gn);have NCN:=zA (by rw [hg];exact Nat.ne_of_lt (blk_lt BKc0.out):gc≠gn);clear hcr hfr hx_0 hx_1 hx_2 hx_3 HB0 BKr0 BKc0;have hcr:w12.cell? ⟨gr,0,none⟩=some (.slice (some ad) l1.length c1):=zc0 BKr;have hfr:=blk_frozen BKr.out 0;have hx_0:=(HB.out.cell (World.block_lt_of_cell? w _ HX.out.1)).trans HX.out.1;have hx_1:=(HB.out.cell (World.block_lt_of_cell? w _ HX.out.2.1)).trans HX.out.2.1;have hx_2:=(HB.out.cell (World.block_lt_of_cell? w _ HX.out.2.2.1)).trans HX.out.2.2.1;have hx_3:=(HB.out.cell (World.block_lt_of_cell? w _ HX.out.2.2.2)).trans HX.out.2.2.2;have hn0:w12.cell? ⟨gn,0,none⟩=some (.int .i64 0):=zc0 BKn;have hf0:=blk_frozen BKn.out 0;have hn1:w12.cell? ⟨gn,1,none⟩=some (.int .i64 0):=zc1 BKn;have hf1:=blk_frozen BKn.out 1;have hn2:w12.cell? ⟨gn,2,none⟩=some (.int .i64 0):=zc2 BKn;have hf2:=blk_frozen BKn.out 2;have hn3:w12.cell? ⟨gn,3,none⟩=some (.int .i64 0):=zc3 BKn;have hf3:=blk_frozen BKn.out 3;have hnd:=NRN.out;have hne:=NCN.out;clear hb hbox hg))
 (try simp only [Act.put,zi,zs,zt]);have H:=H0.out;clear H0
 rcases ifd H with ⟨c12b0,H⟩|⟨c12b0,H⟩
 ·(first|rw [c12b0]|(simp only [i64_w,i32_w];rw [c12b0])|skip)
  obtain rfl:=(Option.some.inj H).symm;clear H;skip
  have n0_:Aside0 (((((w12.setCell ⟨gn,0,none⟩ (.int .i64 ((rd_T55 l1 a2).f0))).setCell ⟨gn,1,none⟩ (.int .i64 ((rd_T55 l1 a2).f1))).setCell ⟨gn,2,none⟩ (.int .i64 ((rd_T55 l1 a2).f2))).setCell ⟨gn,3,none⟩ (.int .i64 ((rd_T55 l1 a2).f3))).heap[gr]?=some (.cells #[.slice (some ad) l1.length c1] 25 (0,0))):=⟨blk_far (blk_far (blk_far (blk_far BKr.out NRN.out _) NRN.out _) NRN.out _) NRN.out _⟩
  have n1_:Aside0 (((((w12.setCell ⟨gn,0,none⟩ (.int .i64 ((rd_T55 l1 a2).f0))).setCell ⟨gn,1,none⟩ (.int .i64 ((rd_T55 l1 a2).f1))).setCell ⟨gn,2,none⟩ (.int .i64 ((rd_T55 l1 a2).f2))).setCell ⟨gn,3,none⟩ (.int .i64 ((rd_T55 l1 a2).f3))).heap[gc]?=some (.cells #[.int .i64 a3,.int .i64 a4] 48 (0,0))):=⟨blk_far (blk_far (blk_far (blk_far BKc.out NCN.out _) NCN.out _) NCN.out _) NCN.out _⟩
  have n2_:Aside0 (((((w12.setCell ⟨gn,0,none⟩ (.int .i64 ((rd_T55 l1 a2).f0))).setCell ⟨gn,1,none⟩ (.int .i64 ((rd_T55 l1 a2).f1))).setCell ⟨gn,2,none⟩ (.int .i64 ((rd_T55 l1 a2).f2))).setCell ⟨gn,3,none⟩ (.int .i64 ((rd_T55 l1 a2).f3))).heap[gn]?=some (.cells #[.int .i64 ((rd_T55 l1 a2).f0),.int .i64 ((rd_T55 l1 a2).f1),.int .i64 ((rd_T55 l1 a2).f2),.int .i64 ((rd_T55 l1 a2).f3)] 55 (0,0))):=⟨by refine blk_put (cs:=#[.int .i64 ((rd_T55 l1 a2).f0),.int .i64 ((rd_T55 l1 a2).f1),.int .i64 ((rd_T55 l1 a2).f2),.int .i64 0]) ?_ 3 _ rfl;refine blk_put (cs:=#[.int .i64 ((rd_T55 l1 a2).f0),.int .i64 ((rd_T55 l1 a2).f1),.int .i64 0,.int .i64 0]) ?_ 2 _ rfl;refine blk_put (cs:=#[.int .i64 ((rd_T55 l1 a2).f0),.int .i64 0,.int .i64 0,.int .i64 0]) ?_ 1 _ rfl;refine blk_put (cs:=#[.int .i64 0,.int .i64 0,.int .i64 0,.int .i64 0]) ?_ 0 _ rfl;exact BKn.out⟩
  have n3_:Aside0 (Below w.heap.size w ((((w12.setCell ⟨gn,0,none⟩ (.int .i64 ((rd_T55 l1 a2).f0))).setCell ⟨gn,1,none⟩ (.int .i64 ((rd_T55 l1 a2).f1))).setCell ⟨gn,2,none⟩ (.int .i64 ((rd_T55 l1 a2).f2))).setCell ⟨gn,3,none⟩ (.int .i64 ((rd_T55 l1 a2).f3)))):=⟨below_set (below_set (below_set (below_set HB.out GN.out) GN.out) GN.out) GN.out⟩
  clear BKr BKc BKn HB hcr hfr hx_0 hx_1 hx_2 hx_3 hn0 hn1 hn2 hn3 hf0 hf1 hf2 hf3
  generalize ((((w12.setCell ⟨gn,0,none⟩ (.int .i64 ((rd_T55 l1 a2).f0))).setCell ⟨gn,1,none⟩ (.int .i64 ((rd_T55 l1 a2).f1))).setCell ⟨gn,2,none⟩ (.int .i64 ((rd_T55 l1 a2).f2))).setCell ⟨gn,3,none⟩ (.int .i64 ((rd_T55 l1 a2).f3)))=w16 at n0_ n1_ n2_ n3_ ⊢
  have BKr:=n0_;have BKc:=n1_;have BKn:=n2_;have HB:=n3_;clear n0_ n1_ n2_ n3_;have hm0:w16.cell? ⟨gn,0,none⟩=some (.int .i64 ((rd_T55 l1 a2).f0)):=zc0 BKn;have hm1:w16.cell? ⟨gn,1,none⟩=some (.int .i64 ((rd_T55 l1 a2).f1)):=zc1 BKn;have hm2:w16.cell? ⟨gn,2,none⟩=some (.int .i64 ((rd_T55 l1 a2).f2)):=zc2 BKn;have hm3:w16.cell? ⟨gn,3,none⟩=some (.int .i64 ((rd_T55 l1 a2).f3)):=zc3 BKn
  go_wp2_with (first|((with_reducible refine gate_dst (N:=21) rfl ?_);refine box_event ?hg (N:=21) ?hd (cs:=#[.int .i64 (rd_T55 l1 a2).f0,.int .i64 (rd_T55 l1 a2).f1,.int .i64 (rd_T55 l1 a2).f2,.int .i64 (rd_T55 l1 a2).f3,.pointer none,.pointer none]) (t:=64) ?hr ?_;(case hd=>rfl);(case hg=>rfl);(case hr=>first|(go_simp;done)|(go_simp;rfl));intro gq hg w17 hbox hb;have BKq:=zA hbox;replace HB:=zA (below_step HB.out hb);clear hb hbox hg))
  go_ret
  exact ⟨_,rfl,BKq.out,HB.out⟩
 ·(first|rw [c12b0]|(simp only [i64_w,i32_w];rw [c12b0])|skip)
  replace H:=Option.bind_eq_some_iff.mp H;obtain ⟨⟨x0,x1⟩,A_,H⟩:=H;have A1_:=zA A_;clear A_;replace H:=Option.bind_eq_some_iff.mp H;obtain ⟨z,A_,H⟩:=H;have A2_:=zA A_;clear A_;replace H:=Option.bind_eq_some_iff.mp H;obtain ⟨⟨y0,y1⟩,A_,H⟩:=H;have A3_:=zA A_;clear A_;replace H:=Option.bind_eq_some_iff.mp H;obtain ⟨o,A_,H⟩:=H;have A4_:=zA A_;clear A_;replace H:=Option.bind_eq_some_iff.mp H;obtain ⟨t,A_,H⟩:=H;have A5_:=zA A_;clear A_;have HC:=zA H;clear H
  try go_wp2
  have n0_:Aside0 (((((w12.setCell ⟨gn,0,none⟩ (.int .i64 ((rd_T55 l1 a2).f0))).setCell ⟨gn,1,none⟩ (.int .i64 ((rd_T55 l1 a2).f1))).setCell ⟨gn,2,none⟩ (.int .i64 ((rd_T55 l1 a2).f2))).setCell ⟨gn,3,none⟩ (.int .i64 ((rd_T55 l1 a2).f3))).heap[gr]?=some (.cells #[.slice (some ad) l1.length c1] 25 (0,0))):=⟨blk_far (blk_far (blk_far (blk_far BKr.out NRN.out _) NRN.out _) NRN.out _) NRN.out _⟩
  have n1_:Aside0 (((((w12.setCell ⟨gn,0,none⟩ (.int .i64 ((rd_T55 l1 a2).f0))).setCell ⟨gn,1,none⟩ (.int .i64 ((rd_T55 l1 a2).f1))).setCell ⟨gn,2,none⟩ (.int .i64 ((rd_T55 l1 a2).f2))).setCell ⟨gn,3,none⟩ (.int .i64 ((rd_T55 l1 a2).f3))).heap[gc]?=some (.cells #[.int .i64 a3,.int .i64 a4] 48 (0,0))):=⟨blk_far (blk_far (blk_far (blk_far BKc.out NCN.out _) NCN.out _) NCN.out _) NCN.out _⟩
  have n2_:Aside0 (((((w12.setCell ⟨gn,0,none⟩ (.int .i64 ((rd_T55 l1 a2).f0))).setCell ⟨gn,1,none⟩ (.int .i64 ((rd_T55 l1 a2).f1))).setCell ⟨gn,2,none⟩ (.int .i64 ((rd_T55 l1 a2).f2))).setCell ⟨gn,3,none⟩ (.int .i64 ((rd_T55 l1 a2).f3))).heap[gn]?=some (.cells #[.int .i64 ((rd_T55 l1 a2).f0),.int .i64 ((rd_T55 l1 a2).f1),.int .i64 ((rd_T55 l1 a2).f2),.int .i64 ((rd_T55 l1 a2).f3)] 55 (0,0))):=⟨by refine blk_put (cs:=#[.int .i64 ((rd_T55 l1 a2).f0),.int .i64 ((rd_T55 l1 a2).f1),.int .i64 ((rd_T55 l1 a2).f2),.int .i64 0]) ?_ 3 _ rfl;refine blk_put (cs:=#[.int .i64 ((rd_T55 l1 a2).f0),.int .i64 ((rd_T55 l1 a2).f1),.int .i64 0,.int .i64 0]) ?_ 2 _ rfl;refine blk_put (cs:=#[.int .i64 ((rd_T55 l1 a2).f0),.int .i64 0,.int .i64 0,.int .i64 0]) ?_ 1 _ rfl;refine blk_put (cs:=#[.int .i64 0,.int .i64 0,.int .i64 0,.int .i64 0]) ?_ 0 _ rfl;exact BKn.out⟩
  have n3_:Aside0 (Below w.heap.size w ((((w12.setCell ⟨gn,0,none⟩ (.int .i64 ((rd_T55 l1 a2).f0))).setCell ⟨gn,1,none⟩ (.int .i64 ((rd_T55 l1 a2).f1))).setCell ⟨gn,2,none⟩ (.int .i64 ((rd_T55 l1 a2).f2))).setCell ⟨gn,3,none⟩ (.int .i64 ((rd_T55 l1 a2).f3)))):=⟨below_set (below_set (below_set (below_set HB.out GN.out) GN.out) GN.out) GN.out⟩
  clear BKr BKc BKn HB hcr hfr hx_0 hx_1 hx_2 hx_3 hn0 hn1 hn2 hn3 hf0 hf1 hf2 hf3
  generalize ((((w12.setCell ⟨gn,0,none⟩ (.int .i64 ((rd_T55 l1 a2).f0))).setCell ⟨gn,1,none⟩ (.int .i64 ((rd_T55 l1 a2).f1))).setCell ⟨gn,2,none⟩ (.int .i64 ((rd_T55 l1 a2).f2))).setCell ⟨gn,3,none⟩ (.int .i64 ((rd_T55 l1 a2).f3)))=w16 at n0_ n1_ n2_ n3_ ⊢
  have BKr:=n0_;have BKc:=n1_;have BKn:=n2_;have HB:=n3_;clear n0_ n1_ n2_ n3_;replace BKr:=zA (blk_drew BKr.out);replace BKc:=zA (blk_drew BKc.out);replace BKn:=zA (blk_drew BKn.out);replace HB:=zA (below_drew1 HB.out);refine start_ (n:=22) (S:=fun w'=>w'.cell? ⟨gn,0,none⟩=some (.int .i64 ((rd_T55 l1 a2).f0))∧w'.cell? ⟨gn,1,none⟩=some (.int .i64 ((rd_T55 l1 a2).f1))∧w'.cell? ⟨gn,2,none⟩=some (.int .i64 ((rd_T55 l1 a2).f2))∧w'.cell? ⟨gn,3,none⟩=some (.int .i64 ((rd_T55 l1 a2).f3))∧w'.cell? ⟨gc,0,none⟩=some (.int .i64 a3)∧w'.cell? ⟨gc,1,none⟩=some (.int .i64 a4)∧w'.cell? ⟨gr,0,none⟩=some (.slice (some ad) l1.length c1)) (ds:=[]) (bz 22 0) zK rfl rfl ⟨zc0 BKn,zc1 BKn,zc2 BKn,zc3 BKn,zc0 BKc,zc1 BKc,zc0 BKr⟩ (fun hHeld=>?_);refine with_tabW solve_trimmed.tab4 solve_trimmed.bits4 (fun HT_ HW_=>?_)
  generalize w16.drew=w17 at BKr BKc BKn HB hHeld ⊢
  refine zP 1 23 (bz 22 2) HT_ ?_;refine zP 3 25 (bz 22 10) HT_ ?_;refine zP 6 28 (bz 22 74) HT_ ?_;refine zP 10 32 (bz 22 1098) HT_ ?_;refine zP 12 34 (bz 22 5194) HT_ ?_;refine zP 15 37 (bz 22 37962) HT_ ?_;refine zQ 0 22 (bz 22 37963) HT_ HW_ hHeld ?_;refine zQ 2 24 (bz 22 37967) HT_ HW_ hHeld ?_;refine zQ 4 26 (bz 22 37983) HT_ HW_ hHeld ?_;refine zQ 5 27 (bz 22 38015) HT_ HW_ hHeld ?_;refine zQ 7 29 (bz 22 38143) HT_ HW_ hHeld ?_;refine zQ 11 33 (bz 22 40191) HT_ HW_ hHeld ?_;refine zQ 13 35 (bz 22 48383) HT_ HW_ hHeld ?_;refine zQ 14 36 (bz 22 64767) HT_ HW_ hHeld ?_;refine zQ 16 38 (bz 22 130303) HT_ HW_ hHeld ?_;refine one_ (i:=8) (N:=some 30) (bz 22 130559) rfl rfl (one_of HT_.out zK) (by decide) (fun K hK=>?_);refine goes_ Try.func27 zK rfl #[.agg #[.int .i64 a3,.int .i64 a4],.int .i64 ((rd_T55 l1 a2).f0),.int .i64 0] (by rfl) rfl rfl (by (try simp only [List.map_toArray,List.map_cons,List.map_nil]);first|done|rfl) ?_
  with_reducible refine (solve_choices_with.calls a3 a4 ((rd_T55 l1 a2).f0) 0 x0 x1 _ A1_.out).mono ?_
  rintro e w18 ⟨rfl,hb⟩;refine ⟨_,rfl,?_⟩;replace BKr:=zA (blk_below BKr.out hb);replace BKc:=zA (blk_below BKc.out hb);replace BKn:=zA (blk_below BKn.out hb);replace HB:=zA (below_step HB.out hb);clear hb;refine hK.out _ _ ⟨zc0 BKn,zc1 BKn,zc2 BKn,zc3 BKn,zc0 BKc,zc1 BKc,zc0 BKr⟩ (fun hHeld=>?_);clear hK K;refine norm_ (a':=?_) ?_ ?_;rotate_left
  ·show Act.put _ (some 30) _=_
   simp only [Act.put,zi,zs,zt,i64_w,i32_w];rfl
  refine one_ (i:=9) (N:=some 31) (bz 22 131071) rfl rfl (one_of HT_.out zK) (by decide) (fun K hK=>?_);refine goes_ Try.func16 zK rfl #[.slice A0 l0.length c0,.agg #[.slice (some ad) l1.length c1],.int .i64 ((rd_T55 l1 a2).f1),.agg #[.int .i64 x0,.int .i64 x1]] (by rfl) rfl rfl (by (try simp only [List.map_toArray,List.map_cons,List.map_nil]);first|done|rfl) ?_
  with_reducible refine (ih k (by omega) _ _ l0 _ _ l1 ((rd_T55 l1 a2).f1) x0 x1 z _ ?side1 ?side2 ?side3 ?side4 A2_.out).mono ?_
  (case side1=>exact Kd.C_below HR0.out HB.out);(case side2=>exact HC0.out);(case side3=>exact Kd.C_below HR1.out HB.out);(case side4=>exact HC1.out);rintro e w19 ⟨gz,rfl,hT,hb⟩;refine ⟨_,rfl,?_⟩;replace BKr:=zA (blk_below BKr.out hb);replace BKc:=zA (blk_below BKc.out hb);replace BKn:=zA (blk_below BKn.out hb);replace HB:=zA (below_step HB.out hb);have HTz:=zA hT;clear hb hT;refine hK.out _ _ ⟨zc0 BKn,zc1 BKn,zc2 BKn,zc3 BKn,zc0 BKc,zc1 BKc,zc0 BKr⟩ (fun hHeld=>?_);clear hK K;refine norm_ (a':=?_) ?_ ?_;rotate_left
  ·show Act.put _ (some 31) _=_
   simp only [Act.put,zi,zs,zt,i64_w,i32_w];rfl
  refine one_ (i:=17) (N:=some 39) (bz 22 262143) rfl rfl (one_of HT_.out zK) (by decide) (fun K hK=>?_);refine goes_ Try.func27 zK rfl #[.agg #[.int .i64 a3,.int .i64 a4],.int .i64 ((rd_T55 l1 a2).f0),.int .i64 1] (by rfl) rfl rfl (by (try simp only [List.map_toArray,List.map_cons,List.map_nil]);first|done|rfl) ?_
  with_reducible refine (solve_choices_with.calls a3 a4 ((rd_T55 l1 a2).f0) 1 y0 y1 _ A3_.out).mono ?_
  rintro e w20 ⟨rfl,hb⟩;refine ⟨_,rfl,?_⟩;replace BKr:=zA (blk_below BKr.out hb);replace BKc:=zA (blk_below BKc.out hb);replace BKn:=zA (blk_below BKn.out hb);replace HB:=zA (below_step HB.out hb);replace HTz:=zA (HTz.out.below hb);clear hb;refine hK.out _ _ ⟨zc0 BKn,zc1 BKn,zc2 BKn,zc3 BKn,zc0 BKc,zc1 BKc,zc0 BKr⟩ (fun hHeld=>?_);clear hK K;refine norm_ (a':=?_) ?_ ?_;rotate_left
  ·show Act.put _ (some 39) _=_
   simp only [Act.put,zi,zs,zt,i64_w,i32_w];rfl
  refine one_ (i:=18) (N:=some 40) (bz 22 524287) rfl rfl (one_of HT_.out zK) (by decide) (fun K hK=>?_);refine goes_ Try.func16 zK rfl #[.slice A0 l0.length c0,.agg #[.slice (some ad) l1.length c1],.int .i64 ((rd_T55 l1 a2).f2),.agg #[.int .i64 y0,.int .i64 y1]] (by rfl) rfl rfl (by (try simp only [List.map_toArray,List.map_cons,List.map_nil]);first|done|rfl) ?_
  with_reducible refine (ih k (by omega) _ _ l0 _ _ l1 ((rd_T55 l1 a2).f2) y0 y1 o _ ?side1 ?side2 ?side3 ?side4 A4_.out).mono ?_
  (case side1=>exact Kd.C_below HR0.out HB.out);(case side2=>exact HC0.out);(case side3=>exact Kd.C_below HR1.out HB.out);(case side4=>exact HC1.out);rintro e w21 ⟨go,rfl,hT,hb⟩;refine ⟨_,rfl,?_⟩;replace BKr:=zA (blk_below BKr.out hb);replace BKc:=zA (blk_below BKc.out hb);replace BKn:=zA (blk_below BKn.out hb);replace HB:=zA (below_step HB.out hb);replace HTz:=zA (HTz.out.below hb);have HTo:=zA hT;clear hb hT;refine hK.out _ _ ⟨zc0 BKn,zc1 BKn,zc2 BKn,zc3 BKn,zc0 BKc,zc1 BKc,zc0 BKr⟩ (fun hHeld=>?_);clear hK K;refine norm_ (a':=?_) ?_ ?_;rotate_left
  ·show Act.put _ (some 40) _=_
   simp only [Act.put,zi,zs,zt,i64_w,i32_w];rfl
  refine zP 19 41 (bz 22 1048575) HT_ ?_;refine one_ (i:=20) (N:=some 42) (bz 22 2097151) rfl rfl (one_of HT_.out zK) (by decide) (fun K hK=>?_);refine box_step ?hg (N:=42) ?hd (cs:=#[.int .i64 (rd_T55 l1 a2).f0,.int .i64 (rd_T55 l1 a2).f1,.int .i64 (rd_T55 l1 a2).f2,.int .i64 (rd_T55 l1 a2).f3,.pointer (some ⟨gz,0,none⟩),.pointer (some ⟨go,0,none⟩)]) (t:=64) ?hr ?_;(case hd=>rfl);(case hg=>rfl);(case hr=>first|(go_simp;done)|(go_simp;rfl));intro gq hg w22 hbox hb;replace BKr:=zA (blk_below BKr.out hb);replace BKc:=zA (blk_below BKc.out hb);replace BKn:=zA (blk_below BKn.out hb);replace HB:=zA (below_step HB.out hb);replace HTz:=zA (HTz.out.below hb);replace HTo:=zA (HTo.out.below hb);have BKq:=zA hbox;clear hbox hb hg;refine hK.out _ _ ⟨zc0 BKn,zc1 BKn,zc2 BKn,zc3 BKn,zc0 BKc,zc1 BKc,zc0 BKr⟩ (fun hHeld=>?_);clear hK K;refine norm_ (a':=?_) ?_ ?_;rotate_left
  ·show Act.put _ (some 42) _=_
   simp only [Act.put,zi,zs,zt,i64_w,i32_w];rfl
  refine zP 21 10 (bz 22 4194303) HT_ ?_;refine done_ (done_of HT_.out zK) ?_
  try go_wp2
  replace BKr:=zA (blk_drew BKr.out);replace BKc:=zA (blk_drew BKc.out);replace BKn:=zA (blk_drew BKn.out);replace BKq:=zA (blk_drew BKq.out);replace HB:=zA (below_drew1 HB.out);replace HTz:=zA (HTz.out.below (below_drew1 (Below.refl _ _)));replace HTo:=zA (HTo.out.below (below_drew1 (Below.refl _ _)));refine start_ (n:=8) (S:=fun w'=>w'.cell? ⟨gq,4,none⟩=some (.pointer (some ⟨gz,0,none⟩))∧w'.cell? ⟨gc,0,none⟩=some (.int .i64 a3)∧w'.cell? ⟨gc,1,none⟩=some (.int .i64 a4)) (ds:=[]) (bz 8 0) zK rfl rfl ⟨zc4 BKq,zc0 BKc,zc1 BKc⟩ (fun hHeld=>?_);refine with_tabW solve_trimmed.tab5 solve_trimmed.bits5 (fun HT_ HW_=>?_)
  generalize w22.drew=w23 at BKr BKc BKn BKq HB HTz HTo hHeld ⊢
  refine zP 0 44 (bz 8 1) HT_ ?_;refine zP 1 45 (bz 8 3) HT_ ?_;refine zP 2 46 (bz 8 7) HT_ ?_;refine zP 4 48 (bz 8 23) HT_ ?_;refine zQ 3 47 (bz 8 31) HT_ HW_ hHeld ?_;refine zQ 5 49 (bz 8 63) HT_ HW_ hHeld ?_;refine one_ (i:=6) (N:=some 50) (bz 8 127) rfl rfl (one_of HT_.out zK) (by decide) (fun K hK=>?_);refine goes_ Try.func28 zK rfl #[.pointer (some ⟨gz,0,none⟩),.slice A0 l0.length c0,.agg #[.int .i64 a3,.int .i64 a4]] (by rfl) rfl rfl (by (try simp only [List.map_toArray,List.map_cons,List.map_nil]);first|done|rfl) ?_
  with_reducible refine (solve_part_holds.calls k z gz _ _ l0 a3 a4 t _ ?side1 ?side2 ?side3 A5_.out).mono ?_
  (case side1=>exact HTz.out);(case side2=>exact Kd.C_below HR0.out HB.out);(case side3=>exact HC0.out);rintro e w24 ⟨rfl,hb⟩;refine ⟨_,rfl,?_⟩;replace BKr:=zA (blk_below BKr.out hb);replace BKc:=zA (blk_below BKc.out hb);replace BKn:=zA (blk_below BKn.out hb);replace HB:=zA (below_step HB.out hb);replace HTz:=zA (HTz.out.below hb);replace HTo:=zA (HTo.out.below hb);replace BKq:=zA (blk_below BKq.out hb);clear hb;refine hK.out _ _ ⟨zc4 BKq,zc0 BKc,zc1 BKc⟩ (fun hHeld=>?_);clear hK K;refine norm_ (a':=?_) ?_ ?_;rotate_left
  ·show Act.put _ (some 50) _=_
   simp only [Act.put,zi,zs,zt,i64_w,i32_w];rfl
  refine zP 7 43 (bz 8 255) HT_ ?_;refine done_ (done_of HT_.out zK) ?_;have H:=HC.out;clear HC
  cases t with
  | true=>
   have hq:w24.cell? ⟨gq,4,none⟩=some (.pointer (some ⟨gz,0,none⟩)):=zc4 BKq;simp only [if_true,Option.some.injEq] at H;subst H
   go_wp2
   go_ret
   exact ⟨_,rfl,HTz.out,HB.out⟩
  | false=>
   simp only [Bool.false_eq_true,if_false] at H;replace H:=Option.bind_eq_some_iff.mp H;obtain ⟨u,A_,H⟩:=H;have A6_:=zA A_;clear A_;have HC:=zA H;clear H
   try go_wp2
   replace BKr:=zA (blk_drew BKr.out);replace BKc:=zA (blk_drew BKc.out);replace BKn:=zA (blk_drew BKn.out);replace BKq:=zA (blk_drew BKq.out);replace HB:=zA (below_drew1 HB.out);replace HTz:=zA (HTz.out.below (below_drew1 (Below.refl _ _)));replace HTo:=zA (HTo.out.below (below_drew1 (Below.refl _ _)));refine start_ (n:=8) (S:=fun w'=>w'.cell? ⟨gq,5,none⟩=some (.pointer (some ⟨go,0,none⟩))∧w'.cell? ⟨gc,0,none⟩=some (.int .i64 a3)∧w'.cell? ⟨gc,1,none⟩=some (.int .i64 a4)) (ds:=[]) (bz 8 0) zK rfl rfl ⟨zc5 BKq,zc0 BKc,zc1 BKc⟩ (fun hHeld=>?_);refine with_tabW solve_trimmed.tab7 solve_trimmed.bits7 (fun HT_ HW_=>?_)
   generalize w24.drew=w25 at BKr BKc BKn BKq HB HTz HTo hHeld ⊢
   refine zP 0 56 (bz 8 1) HT_ ?_;refine zP 1 57 (bz 8 3) HT_ ?_;refine zP 2 58 (bz 8 7) HT_ ?_;refine zP 4 60 (bz 8 23) HT_ ?_;refine zQ 3 59 (bz 8 31) HT_ HW_ hHeld ?_;refine zQ 5 61 (bz 8 63) HT_ HW_ hHeld ?_;refine one_ (i:=6) (N:=some 62) (bz 8 127) rfl rfl (one_of HT_.out zK) (by decide) (fun K hK=>?_);refine goes_ Try.func28 zK rfl #[.pointer (some ⟨go,0,none⟩),.slice A0 l0.length c0,.agg #[.int .i64 a3,.int .i64 a4]] (by rfl) rfl rfl (by (try simp only [List.map_toArray,List.map_cons,List.map_nil]);first|done|rfl) ?_
   with_reducible refine (solve_part_holds.calls k o go _ _ l0 a3 a4 u _ ?side1 ?side2 ?side3 A6_.out).mono ?_
   (case side1=>exact HTo.out);(case side2=>exact Kd.C_below HR0.out HB.out);(case side3=>exact HC0.out);rintro e w26 ⟨rfl,hb⟩;refine ⟨_,rfl,?_⟩;replace BKr:=zA (blk_below BKr.out hb);replace BKc:=zA (blk_below BKc.out hb);replace BKn:=zA (blk_below BKn.out hb);replace HB:=zA (below_step HB.out hb);replace HTz:=zA (HTz.out.below hb);replace HTo:=zA (HTo.out.below hb);replace BKq:=zA (blk_below BKq.out hb);clear hb;refine hK.out _ _ ⟨zc5 BKq,zc0 BKc,zc1 BKc⟩ (fun hHeld=>?_);clear hK K;refine norm_ (a':=?_) ?_ ?_;rotate_left
   ·show Act.put _ (some 62) _=_
    simp only [Act.put,zi,zs,zt,i64_w,i32_w];rfl
   refine zP 7 55 (bz 8 255) HT_ ?_;refine done_ (done_of HT_.out zK) ?_;have H:=HC.out;clear HC
   cases u with
   | true=>
    have hq:w26.cell? ⟨gq,5,none⟩=some (.pointer (some ⟨go,0,none⟩)):=zc5 BKq;simp only [if_true,Option.some.injEq] at H;subst H
    go_wp2
    go_ret
    exact ⟨_,rfl,HTo.out,HB.out⟩
   | false=>
    simp only [Bool.false_eq_true,if_false,Option.some.injEq] at H;subst H
    go_wp2
    go_ret
    exact ⟨_,rfl,⟨gz,go,BKq.out,HTz.out,HTo.out⟩,HB.out⟩
def solve_part_write.T1:Bool×List (List Nat×List Nat):=(true,[([],[]),([],[]),([1],[1]),([2],[2]),([3],[3]),([],[]),([5],[5]),([6],[6]),([7],[7]),([8],[8]),([4,9],[4,9]),([0,0,1,2,3,4,5,6,7,8,9,10],[0]),([11,0,1,2,3,4,5,6,7,8,9,10],[11]),([12,10,10,0,1,2,3,4,5,6,7,8,9,10],[10,12])])
def solve_part_write.B1:List Nat:=[0,0,2,6,14,0,32,96,224,480,1022,2047,4095,8191]
theorem solve_part_write.tab1:rtab .any (opsOf Try.f17 1)=solve_part_write.T1:=by kernel_rfl
theorem solve_part_write.bits1:waitsOk solve_part_write.T1.2 solve_part_write.B1=true:=by kernel_rfl
def solve_part_write.T5:Bool×List (List Nat×List Nat):=(true,[([],[]),([0],[0]),([1],[1]),([2],[2]),([],[]),([],[]),([5],[5]),([6],[6]),([7],[7]),([8],[8]),([3,4,0,1,2,3,4,5,6,7,8,9],[3,4]),([10,0,1,2,3,4,5,6,7,8,9],[10]),([11,9,0,1,2,3,4,5,6,7,8,9],[9,11])])
def solve_part_write.B5:List Nat:=[0,1,3,7,0,0,32,96,224,480,1023,2047,4095]
theorem solve_part_write.tab5:rtab .any (opsOf Try.f17 5)=solve_part_write.T5:=by kernel_rfl
theorem solve_part_write.bits5:waitsOk solve_part_write.T5.2 solve_part_write.B5=true:=by kernel_rfl
theorem PTw.kp {n0 g:Nat} {A B:World} {cs:Array Value} {T:PT} {gp:Nat} (h:PTw A T gp) (hk:KpR n0 g A B) (hb:A.heap[g]?=some (.cells cs 25 (0,0))):PTw B T gp:=
 h.imp (fun j cs' hj=>KpR.blk hk hj (fun e=>by subst e;rw [hb] at hj;simp at hj) (by decide))
def solve_part_write.f:Nat→PT→List (S55)→Option (List (S55))
 | 0,_,_=>none
 | _+1,.lf b,R=>if R.length<4398046511104 then (if b.f0<0 then some (R++[b]) else none) else none
 | k+1,.nd b z o,R=>if R.length<4398046511104 then (if b.f0<0 then none else (solve_part_write.f k z ((R++[b]).set R.length (⟨(rd_T55 (R++[b]) (R.length:Int)).f0,wrap64 ((R.length:Int)+1),(rd_T55 (R++[b]) (R.length:Int)).f2,(rd_T55 (R++[b]) (R.length:Int)).f3⟩:S55))).bind fun q=>(if (R.length:Int)<(q.length:Int) then solve_part_write.f k o (q.set R.length (⟨(rd_T55 q (R.length:Int)).f0,(rd_T55 q (R.length:Int)).f1,(q.length:Int),(rd_T55 q (R.length:Int)).f3⟩:S55)) else none)) else none
set_option maxHeartbeats 8000000 in
set_option maxRecDepth 100000 in
theorem solve_part_write.in_ (n0 g:Nat) (hge_:n0≤g) (k:Nat):∀ (T:PT) (gp:Nat) (R:List (S55)) (u:Value) (r:List (S55)) (w:World) (hn_:n0≤w.heap.size) (hT:PTw w T gp) (hb_:w.heap[g]?=some (.cells #[u] 25 (0,0))) (ho_:Kd.R k55 55 w n0 (fun _=>True) u R) (h:solve_part_write.f k T R=some r),
  Calls Try.prog 17 #[.pointer (some ⟨gp,0,none⟩),.pointer (some ⟨g,0,none⟩)] w fun e w'=>e=.returned (.tuple #[])∧∃ u':Value,w'.heap[g]?=some (.cells #[u'] 25 (0,0))∧Kd.R k55 55 w' n0 (fun _=>True) u' r∧KpR n0 g w w':=by
 have hge:=zA hge_;clear hge_
 induction k using Nat.strongRecOn with
 | _ k ih=>
 intro T gp R u r w hn_ hT hb_ ho_ h
 cases k with
 | zero=>exact absurd h (by simp [solve_part_write.f])
 | succ k=>
 obtain ⟨Au,cu,rfl⟩:=Kd.R_slice ho_;have HN:=zA hn_;have BKr:=zA hb_;have HO:=zA ho_;have IH:=zA ih;have HK:=zA (KpR.refl (n0:=n0) (g:=g) w);clear hn_ hb_ ho_ ih
 cases T with
 | lf b=>
  simp only [solve_part_write.f] at h;have BKp:=zA (show w.heap[gp]?=some (.cells #[.int .i64 b.f0,.int .i64 b.f1,.int .i64 b.f2,.int .i64 b.f3,.pointer none,.pointer none] 64 (0,0)) from hT);clear hT
  by_cases c0:R.length<4398046511104
  rotate_left
  ·rw [if_neg c0] at h;exact absurd h (by simp)
  rw [if_pos c0] at h;have LM:=zA c0;clear c0
  by_cases c1:b.f0<0
  rotate_left
  ·rw [if_neg c1] at h;exact absurd h (by simp)
  rw [if_pos c1] at h;have c1b0:decide (b.f0<0)=true:=decide_eq_true c1;clear c1;obtain rfl:=(Option.some.inj h).symm;clear h
  obtain ⟨y0,hy0⟩:∃ y:List (S55),y=R++[b]:=⟨_,rfl⟩
  have N0:=zA hy0;clear hy0;have NEp:=zA (show gp≠g from fun e=>by have h1:=BKp.out;rw [e,BKr.out] at h1;simp at h1);have hcr:w.cell? ⟨g,0,none⟩=some (.slice Au R.length cu):=zc0 BKr
  go_enter Try.func17,Try.ntmps17
  go_wp2
  clear hcr;have hkp_:=KpR.below (n0:=n0) (g:=g) (below_drew1 (Below.refl w.heap.size w));replace BKp:=zA (blk_drew BKp.out);replace HO:=zA (Kd.R_drew HO.out);replace HK:=zA (HK.out.trans hkp_);replace BKr:=zA (blk_drew BKr.out);clear hkp_;refine start_ (n:=14) (S:=fun w'=>w'.cell? ⟨g,0,none⟩=some (.slice Au R.length cu)∧w'.cell? ⟨gp,0,none⟩=some (.int .i64 b.f0)∧w'.cell? ⟨gp,1,none⟩=some (.int .i64 b.f1)∧w'.cell? ⟨gp,2,none⟩=some (.int .i64 b.f2)∧w'.cell? ⟨gp,3,none⟩=some (.int .i64 b.f3)) (ds:=[13]) (bz 14 0) zK rfl rfl ⟨zc0 BKr,zc0 BKp,zc1 BKp,zc2 BKp,zc3 BKp⟩ (fun hHeld=>?_);refine with_tabW solve_part_write.tab1 solve_part_write.bits1 (fun HT_ HW_=>?_)
  generalize w.drew=w1 at BKp HO HK BKr hHeld ⊢
  refine zP 0 10 (bz 14 1) HT_ ?_;refine zP 1 11 (bz 14 3) HT_ ?_;refine zP 2 12 (bz 14 7) HT_ ?_;refine zP 3 13 (bz 14 15) HT_ ?_;refine zP 5 15 (bz 14 47) HT_ ?_;refine zP 6 16 (bz 14 111) HT_ ?_;refine zP 7 17 (bz 14 239) HT_ ?_;refine zQ 4 14 (bz 14 255) HT_ HW_ hHeld ?_;refine zQ 8 18 (bz 14 511) HT_ HW_ hHeld ?_;refine one_ (i:=9) (N:=some 19) (bz 14 1023) rfl rfl (one_of HT_.out zK) (by decide) (fun K hK=>?_);refine value_ (w1:=?_) (v:=?_) (by rfl) rfl ?_ ?_;rotate_left 2
  ·go_simp
   constructor
   ·rfl
   ·rfl
  refine hK.out _ _ ⟨(blk_cell (blk_alloc BKr.out _) 0).trans rfl,(blk_cell (blk_alloc BKp.out _) 0).trans rfl,(blk_cell (blk_alloc BKp.out _) 1).trans rfl,(blk_cell (blk_alloc BKp.out _) 2).trans rfl,(blk_cell (blk_alloc BKp.out _) 3).trans rfl⟩ (fun hHeld=>?_);clear hK K;refine norm_ (a':=?_) ?_ ?_;rotate_left
  ·show Act.put _ (some 19) _=_
   simp only [Act.put,zi,zs,zt,i64_w,i32_w];rfl
  refine one_ (i:=10) (N:=some 20) (bz 14 2047) rfl rfl (one_of HT_.out zK) (by decide) (fun K hK=>?_);refine Kd.R_append_step k55 (w0:=w1) n0 (by rfl) (.tmp 14) (.tmp 19) 23 55 (.agg #[(.int .i64 0),(.int .i64 0),(.int .i64 0),(.int .i64 0)]) 32 rfl Try.underlying23 info55 rfl (by decide) (by omega) (.slice Au R.length cu) R b [.int .i64 b.f0,.int .i64 b.f1,.int .i64 b.f2,.int .i64 b.f3] (fun _=>True) (fun _=>False) rfl rfl ?aP (fun _ hk=>hk.elim) ?aF ?aO ?aB ?aS ?aL ?_;(case aP=>exact k55_mkM _ _ _ b);(case aF=>exact fun _ _=>trivial);(case aB=>first|exact Below.refl n0 w1|exact (Below.refl n0 w1).alloc (Nat.le_trans HN.out HK.out.1) _);(case aO=>exact (by refine zr ?_;exact HO.out));(case aS=>first|exact Nat.le_trans HN.out HK.out.1|exact Nat.le_trans (Nat.le_trans HN.out HK.out.1) (by rw [World.size_alloc];omega));(case aL=>have:=LM.out;omega);intro v37 w2 ho hb hg hat;rw [← N0.out] at ho;obtain ⟨Av,cv,rfl⟩:=Kd.R_slice ho;have hkp_:=KpR.grown (n0:=n0) (g:=g) hg (fun k e=>⟨Kd.R_base HO.out k e,Kd.R_typed HO.out k e⟩);replace BKp:=zA (blk_grown BKp.out hg (Kd.R_ne HO.out BKp.out (by decide)));replace HK:=zA (HK.out.trans hkp_);replace BKr:=zA (blk_grown BKr.out hg (Kd.R_ne HO.out BKr.out (by decide)));replace HO:=zA (Kd.R_lower ho (Nat.le_refl _));clear hkp_;clear ho hb hg hat;refine hK.out _ _ ⟨zc0 BKr,zc0 BKp,zc1 BKp,zc2 BKp,zc3 BKp⟩ (fun hHeld=>?_);clear hK K;refine norm_ (a':=?_) ?_ ?_;rotate_left
  ·show Act.put _ (some 20) _=_
   simp only [Act.put,zi,zs,zt,i64_w,i32_w];rfl
  refine zP 11 21 (bz 14 4095) HT_ ?_;refine zP 12 22 (bz 14 8191) HT_ ?_;refine last_ (i:=13) (N:=none) (bz 14 16383) rfl rfl (one_of HT_.out zK) (by decide) (fun K hK=>?_);have hs_:w2.cell? ⟨g,0,none⟩=some (.slice Au R.length cu):=zc0 BKr;have hfs_:=blk_frozen BKr.out 0;refine skip_ (w1:=?_) (by rfl) rfl ?_ ?_;rotate_left
  ·go_simp
   rfl
  refine hK.out _ _ ?_;clear hK K;clear hs_ hfs_ hHeld;refine done_ (done_of HT_.out zK) ?_;have hkp_:=KpR.set w2 hge.out 0 (.slice Av y0.length cv);have n0_:=zA (blk_far BKp.out NEp.out (.slice Av y0.length cv) (p:=⟨g,0,none⟩));have n1_:=zA (Kd.R_mono (ok':=fun _=>True) (Kd.R_far (p:=⟨g,0,none⟩) (Kd.R_types HO.out BKr.out (by decide)) (fun _ hk=>hk.2) (.slice Av y0.length cv)) (fun _ _=>trivial));have n2_:=zA (HK.out.trans hkp_);have n3_:=zA (blk_put (cs:=#[.slice Au R.length cu]) BKr.out 0 (.slice Av y0.length cv) rfl);clear hkp_ BKp HO HK BKr
  generalize w2.setCell ⟨g,0,none⟩ (.slice Av y0.length cv)=w3 at n0_ n1_ n2_ n3_ ⊢
  have BKp:=n0_;have HO:=n1_;have HK:=n2_;have BKr:=n3_;clear n0_ n1_ n2_ n3_;have hp0:w3.cell? ⟨gp,0,none⟩=some (.int .i64 b.f0):=zc0 BKp
  go_upto_if 28 with (fail)
  (try simp only [Act.put,zi,zs,zt])
  (first|rw [c1b0]|(simp only [i64_w,i32_w];rw [c1b0])|skip)
  clear hp0
  go_wp2
  ((try simp only [Exit.inBlock,Exit.then]);first|refine bodyPost_ret (results_none rfl _ _ _) rfl ?_|refine bodyPost_end (results_none rfl _ _ _) rfl ?_)
  exact ⟨rfl,_,BKr.out,by rw [← N0.out];exact HO.out,HK.out⟩
 | nd b z o=>
  simp only [solve_part_write.f] at h;obtain ⟨gz,go,hT0,hT1,hT2⟩:=hT;have BKp:=zA hT0;have HTz:=zA hT1;have HTo:=zA hT2;clear hT0 hT1 hT2
  by_cases c0:R.length<4398046511104
  rotate_left
  ·rw [if_neg c0] at h;exact absurd h (by simp)
  rw [if_pos c0] at h;have LM:=zA c0;clear c0
  by_cases c1:b.f0<0
  ·rw [if_pos c1] at h;exact absurd h (by simp)
  rw [if_neg c1] at h;have c1b0:decide (b.f0<0)=false:=decide_eq_false c1;clear c1;replace h:=Option.bind_eq_some_iff.mp h;obtain ⟨q,A_,h⟩:=h
  by_cases c2:(R.length:Int)<(q.length:Int)
  rotate_left
  ·rw [if_neg c2] at h;exact absurd h (by simp)
  rw [if_pos c2] at h
  obtain ⟨y1,hy1⟩:∃ y:List (S55),y=(R++[b]).set R.length (⟨(rd_T55 (R++[b]) (R.length:Int)).f0,wrap64 ((R.length:Int)+1),(rd_T55 (R++[b]) (R.length:Int)).f2,(rd_T55 (R++[b]) (R.length:Int)).f3⟩:S55):=⟨_,rfl⟩
  rw [← hy1] at A_;have N1:=zA hy1;have A1:=zA A_
  obtain ⟨y2,hy2⟩:∃ y:List (S55),y=q.set R.length (⟨(rd_T55 q (R.length:Int)).f0,(rd_T55 q (R.length:Int)).f1,(q.length:Int),(rd_T55 q (R.length:Int)).f3⟩:S55):=⟨_,rfl⟩
  rw [← hy2] at h;have N2:=zA hy2;have A2:=zA h;have c2_:=zA c2;clear A_ h hy1 hy2 c2
  obtain ⟨y0,hy0⟩:∃ y:List (S55),y=R++[b]:=⟨_,rfl⟩
  have N1_:=N1.out;rw [← hy0] at N1_;clear N1;have N1:=zA N1_;clear N1_;have N0:=zA hy0;clear hy0;have NEp:=zA (show gp≠g from fun e=>by have h1:=BKp.out;rw [e,BKr.out] at h1;simp at h1);have hcr:w.cell? ⟨g,0,none⟩=some (.slice Au R.length cu):=zc0 BKr
  go_enter Try.func17,Try.ntmps17
  go_wp2
  clear hcr;have hkp_:=KpR.below (n0:=n0) (g:=g) (below_drew1 (Below.refl w.heap.size w));replace BKp:=zA (blk_drew BKp.out);replace HTz:=zA (PTw.kp HTz.out hkp_ BKr.out);replace HTo:=zA (PTw.kp HTo.out hkp_ BKr.out);replace HO:=zA (Kd.R_drew HO.out);replace HK:=zA (HK.out.trans hkp_);replace BKr:=zA (blk_drew BKr.out);clear hkp_;refine start_ (n:=14) (S:=fun w'=>w'.cell? ⟨g,0,none⟩=some (.slice Au R.length cu)∧w'.cell? ⟨gp,0,none⟩=some (.int .i64 b.f0)∧w'.cell? ⟨gp,1,none⟩=some (.int .i64 b.f1)∧w'.cell? ⟨gp,2,none⟩=some (.int .i64 b.f2)∧w'.cell? ⟨gp,3,none⟩=some (.int .i64 b.f3)) (ds:=[13]) (bz 14 0) zK rfl rfl ⟨zc0 BKr,zc0 BKp,zc1 BKp,zc2 BKp,zc3 BKp⟩ (fun hHeld=>?_);refine with_tabW solve_part_write.tab1 solve_part_write.bits1 (fun HT_ HW_=>?_)
  generalize w.drew=w1 at BKp HTz HTo HO HK BKr hHeld ⊢
  refine zP 0 10 (bz 14 1) HT_ ?_;refine zP 1 11 (bz 14 3) HT_ ?_;refine zP 2 12 (bz 14 7) HT_ ?_;refine zP 3 13 (bz 14 15) HT_ ?_;refine zP 5 15 (bz 14 47) HT_ ?_;refine zP 6 16 (bz 14 111) HT_ ?_;refine zP 7 17 (bz 14 239) HT_ ?_;refine zQ 4 14 (bz 14 255) HT_ HW_ hHeld ?_;refine zQ 8 18 (bz 14 511) HT_ HW_ hHeld ?_;refine one_ (i:=9) (N:=some 19) (bz 14 1023) rfl rfl (one_of HT_.out zK) (by decide) (fun K hK=>?_);refine value_ (w1:=?_) (v:=?_) (by rfl) rfl ?_ ?_;rotate_left 2
  ·go_simp
   constructor
   ·rfl
   ·rfl
  refine hK.out _ _ ⟨(blk_cell (blk_alloc BKr.out _) 0).trans rfl,(blk_cell (blk_alloc BKp.out _) 0).trans rfl,(blk_cell (blk_alloc BKp.out _) 1).trans rfl,(blk_cell (blk_alloc BKp.out _) 2).trans rfl,(blk_cell (blk_alloc BKp.out _) 3).trans rfl⟩ (fun hHeld=>?_);clear hK K;refine norm_ (a':=?_) ?_ ?_;rotate_left
  ·show Act.put _ (some 19) _=_
   simp only [Act.put,zi,zs,zt,i64_w,i32_w];rfl
  refine one_ (i:=10) (N:=some 20) (bz 14 2047) rfl rfl (one_of HT_.out zK) (by decide) (fun K hK=>?_);refine Kd.R_append_step k55 (w0:=w1) n0 (by rfl) (.tmp 14) (.tmp 19) 23 55 (.agg #[(.int .i64 0),(.int .i64 0),(.int .i64 0),(.int .i64 0)]) 32 rfl Try.underlying23 info55 rfl (by decide) (by omega) (.slice Au R.length cu) R b [.int .i64 b.f0,.int .i64 b.f1,.int .i64 b.f2,.int .i64 b.f3] (fun _=>True) (fun _=>False) rfl rfl ?aP (fun _ hk=>hk.elim) ?aF ?aO ?aB ?aS ?aL ?_;(case aP=>exact k55_mkM _ _ _ b);(case aF=>exact fun _ _=>trivial);(case aB=>first|exact Below.refl n0 w1|exact (Below.refl n0 w1).alloc (Nat.le_trans HN.out HK.out.1) _);(case aO=>exact (by refine zr ?_;exact HO.out));(case aS=>first|exact Nat.le_trans HN.out HK.out.1|exact Nat.le_trans (Nat.le_trans HN.out HK.out.1) (by rw [World.size_alloc];omega));(case aL=>have:=LM.out;omega);intro v37 w2 ho hb hg hat;rw [← N0.out] at ho;obtain ⟨Av,cv,rfl⟩:=Kd.R_slice ho;have hkp_:=KpR.grown (n0:=n0) (g:=g) hg (fun k e=>⟨Kd.R_base HO.out k e,Kd.R_typed HO.out k e⟩);replace BKp:=zA (blk_grown BKp.out hg (Kd.R_ne HO.out BKp.out (by decide)));replace HTz:=zA (PTw.kp HTz.out hkp_ BKr.out);replace HTo:=zA (PTw.kp HTo.out hkp_ BKr.out);replace HK:=zA (HK.out.trans hkp_);replace BKr:=zA (blk_grown BKr.out hg (Kd.R_ne HO.out BKr.out (by decide)));replace HO:=zA (Kd.R_lower ho (Nat.le_refl _));clear hkp_;clear ho hb hg hat;refine hK.out _ _ ⟨zc0 BKr,zc0 BKp,zc1 BKp,zc2 BKp,zc3 BKp⟩ (fun hHeld=>?_);clear hK K;refine norm_ (a':=?_) ?_ ?_;rotate_left
  ·show Act.put _ (some 20) _=_
   simp only [Act.put,zi,zs,zt,i64_w,i32_w];rfl
  refine zP 11 21 (bz 14 4095) HT_ ?_;refine zP 12 22 (bz 14 8191) HT_ ?_;refine last_ (i:=13) (N:=none) (bz 14 16383) rfl rfl (one_of HT_.out zK) (by decide) (fun K hK=>?_);have hs_:w2.cell? ⟨g,0,none⟩=some (.slice Au R.length cu):=zc0 BKr;have hfs_:=blk_frozen BKr.out 0;refine skip_ (w1:=?_) (by rfl) rfl ?_ ?_;rotate_left
  ·go_simp
   rfl
  refine hK.out _ _ ?_;clear hK K;clear hs_ hfs_ hHeld;refine done_ (done_of HT_.out zK) ?_;have hkp_:=KpR.set w2 hge.out 0 (.slice Av y0.length cv);have n0_:=zA (blk_far BKp.out NEp.out (.slice Av y0.length cv) (p:=⟨g,0,none⟩));have n1_:=zA (PTw.kp HTz.out hkp_ BKr.out);have n2_:=zA (PTw.kp HTo.out hkp_ BKr.out);have n3_:=zA (Kd.R_mono (ok':=fun _=>True) (Kd.R_far (p:=⟨g,0,none⟩) (Kd.R_types HO.out BKr.out (by decide)) (fun _ hk=>hk.2) (.slice Av y0.length cv)) (fun _ _=>trivial));have n4_:=zA (HK.out.trans hkp_);have n5_:=zA (blk_put (cs:=#[.slice Au R.length cu]) BKr.out 0 (.slice Av y0.length cv) rfl);clear hkp_ BKp HTz HTo HO HK BKr
  generalize w2.setCell ⟨g,0,none⟩ (.slice Av y0.length cv)=w3 at n0_ n1_ n2_ n3_ n4_ n5_ ⊢
  have BKp:=n0_;have HTz:=n1_;have HTo:=n2_;have HO:=n3_;have HK:=n4_;have BKr:=n5_;clear n0_ n1_ n2_ n3_ n4_ n5_;have hp0:w3.cell? ⟨gp,0,none⟩=some (.int .i64 b.f0):=zc0 BKp
  go_upto_if 28 with (fail)
  (try simp only [Act.put,zi,zs,zt])
  (first|rw [c1b0]|(simp only [i64_w,i32_w];rw [c1b0])|skip)
  clear hp0
  have l0_:y0.length=R.length+1:=by rw [N0.out,List.length_append];rfl
  obtain ⟨ji,hji⟩:∃ j_:Int,wrap64 ((R.length:Int)+1)=j_:=⟨_,rfl⟩
  have hjiw:(IntKind.i64.wrap ((R.length:Int)+1))=ji:=(i64_w _).trans hji;have N1_:=N1.out;rw [hji] at N1_;clear N1;have N1:=zA N1_;clear N1_
  have pz:0≤(R.length:Int):=by omega
  have pl:(R.length:Int)<(y0.length:Int):=by have:=c2_.out;omega
  obtain ⟨go_,co_,eo_,gb_,gl_,cl_,HG_⟩:=Kd.R_form HO.out (by omega)
  (first|cases eo_|(injection eo_ with ea_ en_ ec_;(first|subst ea_|(injection ea_ with ea_;subst ea_));subst ec_;clear en_))
  clear gb_ gl_ HG_;obtain ⟨ce_,hcl_,hM_,hcc_,hfr_⟩:=Kd.R_elem HO.out z55 (R.length:Int) pz pl;obtain rfl:=k55_openM hM_;have HP_:=Kd.R_seg HO.out (R.length:Int) pz pl (seg:=[.int .i64 ji]) (j:=1) hcl_ hcc_ (show 2≤4 from by decide) (x':=(⟨(rd_T55 y0 (R.length:Int)).f0,ji,(rd_T55 y0 (R.length:Int)).f2,(rd_T55 y0 (R.length:Int)).f3⟩:S55)) (k55_mkM _ _ _ (⟨(rd_T55 y0 (R.length:Int)).f0,ji,(rd_T55 y0 (R.length:Int)).f2,(rd_T55 y0 (R.length:Int)).f3⟩:S55)) (fun _ hk=>hk);have hx_:=hcc_ 1 _ rfl;(try simp only [show (k55).sz=4 from rfl,Nat.mul_one,Nat.add_zero,Int.toNat_natCast] at hx_);have hf_:=hfr_ 1;(try simp only [show (k55).sz=4 from rfl,Nat.mul_one,Nat.add_zero,Int.toNat_natCast] at hf_);clear hcl_ hcc_ hfr_ hM_;simp only [show (k55).sz=4 from rfl,Int.toNat_natCast] at HP_;have HPP:=zA HP_;clear HP_;have pzb:=eq_true pz;have plb:=eq_true pl;have pln:(R.length<y0.length)=True:=eq_true (by omega);have hcr:w3.cell? ⟨g,0,none⟩=some (.slice (some ⟨go_,0,none⟩) y0.length cv):=zc0 BKr
  go_upto_region 4 with (fail)
  (try simp only [Act.put,zi,zs,zt]);clear hcr;have hgw:w3.grownBy (w3.setCell ⟨go_,R.length * 4+1,none⟩ (.int .i64 ji)) (some go_):=HPP.out.2
  have hzl:y1.length=y0.length:=by rw [N1.out,List.length_set]
  have hkp_:=KpR.grown (n0:=n0) (g:=g) hgw (fun k e=>by cases e;exact ⟨Kd.R_base HO.out go_ rfl,Kd.R_typed HO.out go_ rfl⟩);have n0_:=zA (blk_grown BKp.out hgw (Kd.R_ne HO.out BKp.out (by decide)));have n1_:=zA (PTw.kp HTz.out hkp_ BKr.out);have n2_:=zA (PTw.kp HTo.out hkp_ BKr.out)
  have n3_:Aside0 (Kd.R k55 55 (w3.setCell ⟨go_,R.length * 4+1,none⟩ (.int .i64 ji)) n0 (fun _=>True) (.slice (some ⟨go_,0,none⟩) y0.length cv) y1):=⟨by rw [N1.out];exact HPP.out.1⟩
  have n4_:=zA (HK.out.trans hkp_);have n5_:=zA (blk_grown BKr.out hgw (Kd.R_ne HO.out BKr.out (by decide)));clear hkp_ HPP hgw hx_ hf_ BKp HTz HTo HO HK BKr
  generalize w3.setCell ⟨go_,R.length * 4+1,none⟩ (.int .i64 ji)=w4 at n0_ n1_ n2_ n3_ n4_ n5_ ⊢
  rw [← hzl] at n3_ n5_;have BKp:=n0_;have HTz:=n1_;have HTo:=n2_;have HO:=n3_;have HK:=n4_;have BKr:=n5_;clear n0_ n1_ n2_ n3_ n4_ n5_;have hp_:w4.cell? ⟨gp,4,none⟩=some (.pointer (some ⟨gz,0,none⟩)):=zc4 BKp
  go_wp2_with (first|((with_reducible refine gate_callee (f:=17) rfl ?_);refine goesL_ (some 43) rfl rfl Try.func17 zK rfl #[.pointer (some ⟨gz,0,none⟩),.pointer (some ⟨g,0,none⟩)] rfl (by (try simp only [List.map_toArray,List.map_cons,List.map_nil]);first|done|rfl) ?_;(with_reducible refine (IH.out k (by omega) z gz y1 (.slice (some ⟨go_,0,none⟩) y1.length cv) q _ ?side1 ?side2 ?side3 ?side4 A1.out).mono ?_);(case side1=>exact Nat.le_trans HN.out HK.out.1);(case side2=>exact HTz.out);(case side3=>exact BKr.out);(case side4=>exact HO.out);rintro e w5 ⟨rfl,u_,hbr,hor,hkk⟩;refine ⟨_,rfl,?_⟩;replace BKp:=zA (KpR.blk hkk BKp.out NEp.out (by decide));replace HTz:=zA (PTw.kp HTz.out hkk BKr.out);replace HTo:=zA (PTw.kp HTo.out hkk BKr.out);replace HO:=zA (hor);replace HK:=zA (HK.out.trans hkk);replace BKr:=zA (hbr);clear hbr hor hkk hp_))
  (try simp only [Act.put,zi,zs,zt]);obtain ⟨Aq,cq,rfl⟩:=Kd.R_slice HO.out;clear pz pl pzb plb pln;have hkp_:=KpR.below (n0:=n0) (g:=g) (below_drew1 (Below.refl w5.heap.size w5));replace BKp:=zA (blk_drew BKp.out);replace HTz:=zA (PTw.kp HTz.out hkp_ BKr.out);replace HTo:=zA (PTw.kp HTo.out hkp_ BKr.out);replace HO:=zA (Kd.R_drew HO.out);replace HK:=zA (HK.out.trans hkp_);replace BKr:=zA (blk_drew BKr.out);clear hkp_
  have pz:0≤(R.length:Int):=by omega
  have pl:(R.length:Int)<(q.length:Int):=by have:=c2_.out;omega
  obtain ⟨go_,co_,eo_,gb_,gl_,cl_,HG_⟩:=Kd.R_form HO.out (by omega)
  (first|cases eo_|(injection eo_ with ea_ en_ ec_;(first|subst ea_|(injection ea_ with ea_;subst ea_));subst ec_;clear en_))
  clear gb_ gl_ HG_;obtain ⟨ce_,hcl_,hM_,hcc_,hfr_⟩:=Kd.R_elem HO.out z55 (R.length:Int) pz pl;obtain rfl:=k55_openM hM_;have HP_:=Kd.R_seg HO.out (R.length:Int) pz pl (seg:=[.int .i64 (q.length:Int)]) (j:=2) hcl_ hcc_ (show 3≤4 from by decide) (x':=(⟨(rd_T55 q (R.length:Int)).f0,(rd_T55 q (R.length:Int)).f1,(q.length:Int),(rd_T55 q (R.length:Int)).f3⟩:S55)) (k55_mkM _ _ _ (⟨(rd_T55 q (R.length:Int)).f0,(rd_T55 q (R.length:Int)).f1,(q.length:Int),(rd_T55 q (R.length:Int)).f3⟩:S55)) (fun _ hk=>hk);have hx_:=hcc_ 2 _ rfl;(try simp only [show (k55).sz=4 from rfl,Nat.mul_one,Nat.add_zero,Int.toNat_natCast] at hx_);have hf_:=hfr_ 2;(try simp only [show (k55).sz=4 from rfl,Nat.mul_one,Nat.add_zero,Int.toNat_natCast] at hf_);clear hcl_ hcc_ hfr_ hM_;simp only [show (k55).sz=4 from rfl,Int.toNat_natCast] at HP_;have HPP:=zA HP_;clear HP_;have pzb:=eq_true pz;have plb:=eq_true pl;have pln:(R.length<q.length)=True:=eq_true (by omega);refine start_ (n:=13) (S:=fun w'=>w'.cell? ⟨g,0,none⟩=some (.slice (some ⟨go_,0,none⟩) q.length cq)) (ds:=[12]) (bz 13 0) zK rfl rfl (zc0 BKr) (fun hHeld=>?_);refine with_tabW solve_part_write.tab5 solve_part_write.bits5 (fun HT_ HW_=>?_)
  generalize w5.drew=w6 at BKp HTz HTo HO HK BKr HPP hx_ hf_ hHeld ⊢
  refine zP 0 44 (bz 13 1) HT_ ?_;refine zP 1 45 (bz 13 3) HT_ ?_;refine zP 2 46 (bz 13 7) HT_ ?_;refine zP 4 48 (bz 13 23) HT_ ?_;refine zP 5 49 (bz 13 55) HT_ ?_;refine zP 6 50 (bz 13 119) HT_ ?_;refine zP 7 51 (bz 13 247) HT_ ?_;refine take_ (i:=3) (N:=some 47) (v:=?_) (a':=?_) (bz 13 255) rfl rfl (take_ofW HT_.out HW_.out zK) (fun _ _ _ h=>h) (Or.inl ⟨by rfl,?_⟩) hHeld ?_ ?_;rotate_left
  ·rintro w' s0
   go_simp
   with_reducible rfl
  rotate_left
  ·simp only [Act.put,zi,zs,zt,i64_w,i32_w];rfl
  refine take_ (i:=8) (N:=some 52) (v:=?_) (a':=?_) (bz 13 511) rfl rfl (take_ofW HT_.out HW_.out zK) (fun _ _ _ h=>h) (Or.inl ⟨by rfl,?_⟩) hHeld ?_ ?_;rotate_left
  ·rintro w' s0
   go_simp
   with_reducible rfl
  rotate_left
  ·simp only [Act.put,zi,zs,zt,i64_w,i32_w];rfl
  refine zP 9 53 (bz 13 1023) HT_ ?_;refine zP 10 54 (bz 13 2047) HT_ ?_;refine zP 11 55 (bz 13 4095) HT_ ?_;refine last_ (i:=12) (N:=none) (bz 13 8191) rfl rfl (one_of HT_.out zK) (by decide) (fun K hK=>?_);refine skip_ (w1:=?_) (by rfl) rfl ?_ ?_;rotate_left
  ·go_simp
   rfl
  refine hK.out _ _ ?_;clear hK K;clear hHeld;refine done_ (done_of HT_.out zK) ?_;have hgw:w6.grownBy (w6.setCell ⟨go_,R.length * 4+2,none⟩ (.int .i64 (q.length:Int))) (some go_):=HPP.out.2
  have hzl:y2.length=q.length:=by rw [N2.out,List.length_set]
  have hkp_:=KpR.grown (n0:=n0) (g:=g) hgw (fun k e=>by cases e;exact ⟨Kd.R_base HO.out go_ rfl,Kd.R_typed HO.out go_ rfl⟩);have n0_:=zA (blk_grown BKp.out hgw (Kd.R_ne HO.out BKp.out (by decide)));have n1_:=zA (PTw.kp HTz.out hkp_ BKr.out);have n2_:=zA (PTw.kp HTo.out hkp_ BKr.out)
  have n3_:Aside0 (Kd.R k55 55 (w6.setCell ⟨go_,R.length * 4+2,none⟩ (.int .i64 (q.length:Int))) n0 (fun _=>True) (.slice (some ⟨go_,0,none⟩) q.length cq) y2):=⟨by rw [N2.out];exact HPP.out.1⟩
  have n4_:=zA (HK.out.trans hkp_);have n5_:=zA (blk_grown BKr.out hgw (Kd.R_ne HO.out BKr.out (by decide)));clear hkp_ HPP hgw hx_ hf_ BKp HTz HTo HO HK BKr
  generalize w6.setCell ⟨go_,R.length * 4+2,none⟩ (.int .i64 (q.length:Int))=w7 at n0_ n1_ n2_ n3_ n4_ n5_ ⊢
  rw [← hzl] at n3_ n5_;have BKp:=n0_;have HTz:=n1_;have HTo:=n2_;have HO:=n3_;have HK:=n4_;have BKr:=n5_;clear n0_ n1_ n2_ n3_ n4_ n5_;have hp_:w7.cell? ⟨gp,5,none⟩=some (.pointer (some ⟨go,0,none⟩)):=zc5 BKp
  go_wp2_with (first|((with_reducible refine gate_callee (f:=17) rfl ?_);refine goesL_ (some 61) rfl rfl Try.func17 zK rfl #[.pointer (some ⟨go,0,none⟩),.pointer (some ⟨g,0,none⟩)] rfl (by (try simp only [List.map_toArray,List.map_cons,List.map_nil]);first|done|rfl) ?_;(with_reducible refine (IH.out k (by omega) o go y2 (.slice (some ⟨go_,0,none⟩) y2.length cq) r _ ?side1 ?side2 ?side3 ?side4 A2.out).mono ?_);(case side1=>exact Nat.le_trans HN.out HK.out.1);(case side2=>exact HTo.out);(case side3=>exact BKr.out);(case side4=>exact HO.out);rintro e w8 ⟨rfl,u_,hbr,hor,hkk⟩;refine ⟨_,rfl,?_⟩;replace BKp:=zA (KpR.blk hkk BKp.out NEp.out (by decide));replace HTz:=zA (PTw.kp HTz.out hkk BKr.out);replace HTo:=zA (PTw.kp HTo.out hkk BKr.out);replace HO:=zA (hor);replace HK:=zA (HK.out.trans hkk);replace BKr:=zA (hbr);clear hbr hor hkk hp_))
  ((try simp only [Exit.inBlock,Exit.then]);first|refine bodyPost_end (results_none rfl _ _ _) rfl ?_|refine bodyPost_ret (results_none rfl _ _ _) rfl ?_)
  exact ⟨rfl,_,BKr.out,HO.out,HK.out⟩
def solve_Trim.f (k:Nat) (l0:List (S35)) (l1_0:List (S55)):Option ((List (S55))×Int):=(solve_valid.f k l0).bind fun t=>(if t=0 then ((solve_Check.f k l0 l1_0).bind fun c=>(if c=true then ((solve_trimmed.f k l0 l1_0 0 0 0).bind fun T=>((solve_part_write.f k T []).bind fun q=>some (q,0))) else some (([]:List (S55)),1))) else some (([]:List (S55)),t))
set_option maxHeartbeats 8000000 in
set_option maxRecDepth 100000 in
theorem solve_Trim.calls (k:Nat) (A0:Option Addr) (c0:Nat) (l0:List (S35)) (A1_0:Option Addr) (c1_0:Nat) (l1_0:List (S55)) (r1:List (S55)) (r2:Int) (w:World) (hr0:Kd.C k35 w A0 l0.length l0) (hc0:l0.length≤c0) (hr1_0:Kd.C k55 w A1_0 l1_0.length l1_0) (hc1_0:l1_0.length≤c1_0) (h:solve_Trim.f k l0 l1_0=some (r1,r2)) :
  Calls Try.prog 6 #[.slice A0 l0.length c0,.agg #[.slice A1_0 l1_0.length c1_0]] w fun e w'=>∃ v0_:Value,e=.returned (.tuple #[.agg #[v0_],.int .i64 r2])∧Kd.R k55 55 w' w.heap.size (fun _=>True) v0_ r1∧Below w.heap.size w w':=by
 have HR0:=zA hr0;have HC0:=zA hc0;have HR1:=zA hr1_0;have HC1:=zA hc1_0;clear hr0 hc0 hr1_0 hc1_0;have HB:=zA (Below.refl w.heap.size w);replace h:((solve_valid.f k l0).bind fun t=>(if t=0 then ((solve_Check.f k l0 l1_0).bind fun c=>(if c=true then ((solve_trimmed.f k l0 l1_0 0 0 0).bind fun T=>((solve_part_write.f k T []).bind fun q=>some (q,0))) else some (([]:List (S55)),1))) else some (([]:List (S55)),t)))=some (r1,r2):=h;replace h:=Option.bind_eq_some_iff.mp h;obtain ⟨t,A0_,h⟩:=h;have A3:=zA A0_;have H0:=zA h;clear A0_ h
 go_enter Try.func6,Try.ntmps6
 go_upto_if 11 with (first|((with_reducible refine gate_dst (N:=3) rfl ?_);refine box_event ?hg (N:=3) ?hd (cs:=#[.slice A1_0 l1_0.length c1_0]) (t:=25) ?hr ?_;(case hd=>rfl);(case hg=>rfl);(case hr=>first|(go_simp;done)|(go_simp;rfl));intro gr hg w8 hbox hb;replace HB:=zA (below_step HB.out hb);have BKr:=zA hbox;clear hb hbox hg)|((with_reducible refine gate_dst (N:=4) rfl ?_);refine box_event ?hg (N:=4) ?hd (cs:=#[.slice none 0 0]) (t:=25) ?hr ?_;(case hd=>rfl);(case hg=>rfl);(case hr=>first|(go_simp;done)|(go_simp;rfl));intro gv hg w9 hbox hb;have GV:=zA (by rw [hg];exact below_size HB.out:w.heap.size≤gv);replace HB:=zA (below_step HB.out hb);replace BKr:=zA (blk_below BKr.out hb);have BKv:=zA hbox;clear hb hbox hg)|((with_reducible refine gate_callee (f:=15) rfl ?_);refine goesL_ (some 9) rfl rfl Try.func15 zK rfl #[.slice A0 l0.length c0] rfl (by (try simp only [List.map_toArray,List.map_cons,List.map_nil]);first|done|rfl) ?_;(with_reducible refine (solve_valid.calls k _ _ l0 t _ ?side1 HC0.out A3.out).mono ?_);(case side1=>exact Kd.C_below HR0.out HB.out);rintro e w10 ⟨rfl,hb⟩;refine ⟨_,rfl,?_⟩;replace BKr:=zA (blk_below BKr.out hb);replace BKv:=zA (blk_below BKv.out hb);replace HB:=zA (below_step HB.out hb);clear hb))
 (try simp only [Act.put,zi,zs,zt]);have H:=H0.out;clear H0
 by_cases c8:t=0
 rotate_left
 ·rw [if_neg c8] at H;have c8b0:(t == 0)=false:=beq_eq_false_iff_ne.mpr c8;have c8b1:(t != 0)=true:=bne_iff_ne.mpr c8
  (first|rw [c8b0]|(simp only [i64_w,i32_w];rw [c8b0])|skip)
  (try rw [c8b1]);simp only [Option.some.injEq,Prod.mk.injEq] at H;obtain ⟨rfl,rfl⟩:=H;have hv:w10.cell? ⟨gv,0,none⟩=some (.slice none 0 0):=zc0 BKv;have hvf:=blk_frozen BKv.out 0
  go_wp2
  refine bodyPost_ret (results_ct rfl _ _ gv 25 #[.slice none 0 0] (0,0) _ rfl (by refine zj ?_;refine blk_put (cs:=#[.slice none 0 0]) ?_ 0 _ rfl;refine zj ?_;exact BKv.out) Try.underlying25 rfl zK) rfl ?_;exact ⟨_,rfl,Kd.R_nil _ _ _ _ _,below_set HB.out GV.out⟩
 rw [if_pos c8] at H;have c8b0:(t == 0)=true:=beq_iff_eq.mpr c8;have c8b1:(t != 0)=false:=bne_eq_false_iff_eq.mpr c8;clear c8
 (first|rw [c8b0]|(simp only [i64_w,i32_w];rw [c8b0])|skip)
 (try rw [c8b1]);replace H:=Option.bind_eq_some_iff.mp H;obtain ⟨c,A_,H⟩:=H;have A9:=zA A_;have H0:=zA H;clear A_ H;have hr_:w10.cell? ⟨gr,0,none⟩=some (.slice A1_0 l1_0.length c1_0):=zc0 BKr
 go_upto_if 17 with (first|((with_reducible refine gate_callee (f:=9) rfl ?_);refine goesL_ (some 16) rfl rfl Try.func9 zK rfl #[.slice A0 l0.length c0,.agg #[.slice A1_0 l1_0.length c1_0]] rfl (by (try simp only [List.map_toArray,List.map_cons,List.map_nil]);first|done|rfl) ?_;(with_reducible refine (solve_Check.calls k _ _ l0 _ _ l1_0 c _ ?side1 HC0.out ?side3 HC1.out A9.out).mono ?_);(case side1=>exact Kd.C_below HR0.out HB.out);(case side3=>exact Kd.C_below HR1.out HB.out);rintro e w13 ⟨rfl,hb⟩;refine ⟨_,rfl,?_⟩;replace BKr:=zA (blk_below BKr.out hb);replace BKv:=zA (blk_below BKv.out hb);replace HB:=zA (below_step HB.out hb);clear hb hr_))
 (try simp only [Act.put,zi,zs,zt]);have H:=H0.out;clear H0
 cases c with
 | false=>
  simp only [Bool.false_eq_true,if_false,Option.some.injEq,Prod.mk.injEq] at H;obtain ⟨rfl,rfl⟩:=H;have hv:w13.cell? ⟨gv,0,none⟩=some (.slice none 0 0):=zc0 BKv;have hvf:=blk_frozen BKv.out 0
  go_wp2
  refine bodyPost_ret (results_ct rfl _ _ gv 25 #[.slice none 0 0] (0,0) _ rfl (by refine zj ?_;refine blk_put (cs:=#[.slice none 0 0]) ?_ 0 _ rfl;refine zj ?_;exact BKv.out) Try.underlying25 rfl zK) rfl ?_;exact ⟨_,rfl,Kd.R_nil _ _ _ _ _,below_set HB.out GV.out⟩
 | true=>
  simp only [if_true] at H;replace H:=Option.bind_eq_some_iff.mp H;obtain ⟨T,A_,H⟩:=H;have A15:=zA A_;clear A_;replace H:=Option.bind_eq_some_iff.mp H;obtain ⟨q,A_,H⟩:=H;have A16:=zA A_;clear A_;simp only [Option.some.injEq,Prod.mk.injEq] at H;obtain ⟨rfl,rfl⟩:=H
  go_wp2_with (first|((with_reducible refine gate_dst (N:=7) rfl ?_);refine box_event ?hg (N:=7) ?hd (cs:=#[.slice none 0 0]) (t:=25) ?hr ?_;(case hd=>rfl);(case hg=>rfl);(case hr=>first|(go_simp;done)|(go_simp;rfl));intro go hg w14 hbox hb;have GO:=zA (by rw [hg];exact below_size HB.out:w.heap.size≤go);have NVO:=zA (by rw [hg];exact Nat.ne_of_lt (blk_lt BKv.out):gv≠go);replace BKr:=zA (blk_below BKr.out hb);replace BKv:=zA (blk_below BKv.out hb);replace HB:=zA (below_step HB.out hb);have BKo:=zA hbox;have hr_:w14.cell? ⟨gr,0,none⟩=some (.slice A1_0 l1_0.length c1_0):=zc0 BKr;clear hb hbox hg)|((with_reducible refine gate_callee (f:=16) rfl ?_);refine goesL_ (some 22) rfl rfl Try.func16 zK rfl #[.slice A0 l0.length c0,.agg #[.slice A1_0 l1_0.length c1_0],.int .i64 0,.agg #[.int .i64 0,.int .i64 0]] rfl (by (try simp only [List.map_toArray,List.map_cons,List.map_nil]);first|done|rfl) ?_;(with_reducible refine (solve_trimmed.calls k _ _ l0 _ _ l1_0 0 0 0 T _ ?side1 HC0.out ?side3 HC1.out A15.out).mono ?_);(case side1=>exact Kd.C_below HR0.out HB.out);(case side3=>exact Kd.C_below HR1.out HB.out);rintro e w15 ⟨gt,rfl,hT,hb⟩;refine ⟨_,rfl,?_⟩;replace BKr:=zA (blk_below BKr.out hb);replace BKv:=zA (blk_below BKv.out hb);replace HB:=zA (below_step HB.out hb);replace BKo:=zA (blk_below BKo.out hb);have HT:=zA hT;clear hb hT hr_)|((with_reducible refine gate_callee (f:=17) rfl ?_);refine goesL_ (some 23) rfl rfl Try.func17 zK rfl #[.pointer (some ⟨gt,0,none⟩),.pointer (some ⟨go,0,none⟩)] rfl (by (try simp only [List.map_toArray,List.map_cons,List.map_nil]);first|done|rfl) ?_;(with_reducible refine (solve_part_write.in_ w.heap.size go GO.out k T gt [] (.slice none 0 0) q _ ?side1 ?side2 ?side3 ?side4 A16.out).mono ?_);(case side1=>exact below_size HB.out);(case side2=>exact HT.out);(case side3=>exact BKo.out);(case side4=>exact Kd.R_nil _ _ _ _ _);rintro e w16 ⟨rfl,u_,hbr,hor,hkk⟩;refine ⟨_,rfl,?_⟩;obtain ⟨Au,cu,rfl⟩:=Kd.R_slice hor;have n0_:=zA (KpR.blk hkk BKv.out NVO.out (by decide));have n1_:=zA (HB.out.trans (KpR.belowN hkk (below_size HB.out)));clear BKv HB BKo BKr HT hkk;have BKv:=n0_;have HB:=n1_;have BKo:=zA hbr;have HO:=zA hor;clear n0_ n1_ hbr hor;have ho_:w16.cell? ⟨go,0,none⟩=some (.slice Au q.length cu):=zc0 BKo;have hv:w16.cell? ⟨gv,0,none⟩=some (.slice none 0 0):=zc0 BKv;have hvf:=blk_frozen BKv.out 0))
  refine bodyPost_ret (results_ct rfl _ _ gv 25 #[.slice Au q.length cu] (0,0) _ rfl (by refine zj ?_;refine blk_put (cs:=#[.slice none 0 0]) ?_ 0 _ rfl;refine zj ?_;exact BKv.out) Try.underlying25 rfl zK) rfl ?_;exact ⟨_,rfl,Kd.R_mono (Kd.R_far (p:=⟨gv,0,none⟩) (Kd.R_types HO.out BKv.out (by decide)) (fun _ hk=>hk.2) (.slice Au q.length cu)) (fun _ _=>trivial),below_set HB.out GV.out⟩
def ancepsref38_Variables.l0:Nat→List Int→Int→Option (Int)
 | 0,_,_=>none
 | k+1,x0,x3=>if x3<(x0.length:Int) then (if 0≤x3 then (if (rd x0 x3)<0 then (some 6) else (if (rd x0 x3)>23 then (some 6) else (if x3>0 then (if 0≤(wrap64 (x3 - 1)) then (if (wrap64 (x3 - 1))<(x0.length:Int) then (if (rd x0 x3)≤(rd x0 (wrap64 (x3 - 1))) then (some 18) else (ancepsref38_Variables.l0 k x0 (wrap64 (x3+1)))) else (none)) else (none)) else (ancepsref38_Variables.l0 k x0 (wrap64 (x3+1)))))) else (none)) else (some 0)
def ancepsref38_Variables.f (k:Nat) (l0:List Int):Option (Int):=if (l0.length:Int)>10 then (some 3) else (ancepsref38_Variables.l0 k l0 0)
set_option maxHeartbeats 8000000 in
set_option maxRecDepth 100000 in
theorem ancepsref38_Variables.calls (k:Nat) (A0:Option Addr) (c0:Nat) (l0:List Int) (r:Int) (w:World) (hr0:Kd.C (Kd.int .i64) w A0 l0.length l0) (hc0:l0.length≤c0) (h:ancepsref38_Variables.f k l0=some r) :
  Calls Try.prog 42 #[.slice A0 l0.length c0] w fun e w'=>e=.returned (.int .i64 r)∧Drawn0 w w':=by
 have HR0:=zA hr0;have HC0:=zA hc0;clear hr0 hc0;have H:(if (l0.length:Int)>10 then (some 3) else (ancepsref38_Variables.l0 k l0 0))=some r:=h;clear h
 rcases if0 H with ⟨c2,H⟩|⟨c2,H⟩
 ·have c2b0:decide (10<(l0.length:Int))=true:=decide_eq_true c2;have c2b1:decide (10<l0.length)=true:=decide_eq_true (by omega);clear c2;obtain rfl:=Option.some.inj H
  go_enter Try.func42,Try.ntmps42
  go_wp2
  repeat (go_quiet (fail);try go_wp2)
  go_ret
  exact ⟨by first|rfl|(simp;done)|(simp [*];done),by repeat (first|exact Drawn0.refl _|apply Drawn0.step)⟩
 ·have c2b0:decide (10<(l0.length:Int))=false:=decide_eq_false c2;have c2b1:decide (10<l0.length)=false:=decide_eq_false (by omega);clear c2;have H':=zA H;clear H
  go_enter Try.func42,Try.ntmps42
  go_wp2
  repeat (go_quiet (fail);try go_wp2)
  go_loopg [3] k (fun kq v3 w'=>∃ (x3_1:Int),v3=.int .i64 x3_1∧Aside0 (ancepsref38_Variables.l0 kq l0 x3_1=some r)∧Aside0 (kq≤k)∧Drawn0 w w')
  case atStart=>exact ⟨(0),zT,H',⟨Nat.le_refl _⟩,by repeat (first|exact Drawn0.refl _|apply Drawn0.step)⟩
  case round=>
   clear H'
   try clear c2
   try clear c2b0
   try clear c2b1
   obtain ⟨x3_1,rfl,HA,HK1,⟨m1,rfl⟩⟩:=hrel
   cases gk with
   | zero=>exact absurd HA.out (by simp [ancepsref38_Variables.l0])
   | succ k1=>
    have H:=HA.out;clear HA;simp only [ancepsref38_Variables.l0] at H
    rcases ifd H with ⟨c3b0,H⟩|⟨c3b0,H⟩
    ·obtain ⟨c4b0,H⟩:=ifd1 H
     rcases ifd H with ⟨c5b0,H⟩|⟨c5b0,H⟩
     ·obtain rfl:=Option.some.inj H;obtain ⟨p29,q29,ad29,e29,hx29_0⟩:=zp (Kd.at_int HR0.out x3_1)
      cases e29
      replace p29:=eq_true p29;replace q29:=eq_true q29
      go_wp2
      repeat (go_quiet (fail);try go_wp2)
      go_ret
      exact ⟨by first|rfl|(simp;done)|(simp [*];done),by repeat (first|exact Drawn0.refl _|apply Drawn0.step)⟩
     ·rcases if0 H with ⟨c6,H⟩|⟨c6,H⟩
      ·have c6b0:decide (23<(rd l0 x3_1))=true:=decide_eq_true c6;clear c6;obtain rfl:=Option.some.inj H;obtain ⟨p29,q29,ad29,e29,hx29_0⟩:=zp (Kd.at_int HR0.out x3_1)
       cases e29
       replace p29:=eq_true p29;replace q29:=eq_true q29;obtain ⟨p31,q31,ad31,e31,hx31_0⟩:=zp (Kd.at_int HR0.out x3_1)
       obtain rfl:ad29=ad31:=(by injection e31)
       replace p31:=eq_true p31;replace q31:=eq_true q31
       go_wp2
       repeat (go_quiet (fail);try go_wp2)
       go_ret
       exact ⟨by first|rfl|(simp;done)|(simp [*];done),by repeat (first|exact Drawn0.refl _|apply Drawn0.step)⟩
      ·have c6b0:decide (23<(rd l0 x3_1))=false:=decide_eq_false c6;clear c6
       rcases if0 H with ⟨c7,H⟩|⟨c7,H⟩
       ·have c7b0:decide (0<x3_1)=true:=decide_eq_true c7;clear c7;obtain ⟨ji8,hji8⟩:=zZ (wrap64 (x3_1 - 1))
        first|rw [hji8] at H|simp only [hji8] at H
        have hji8w:(IntKind.i64.wrap (x3_1 - 1))=ji8:=(i64_w _).trans hji8;obtain ⟨c9b0,H⟩:=ifd1 H;obtain ⟨c10b0,H⟩:=ifd1 H
        rcases ifd H with ⟨c11b0,H⟩|⟨c11b0,H⟩
        ·obtain rfl:=Option.some.inj H;obtain ⟨p29,q29,ad29,e29,hx29_0⟩:=zp (Kd.at_int HR0.out x3_1)
         cases e29
         replace p29:=eq_true p29;replace q29:=eq_true q29;obtain ⟨p31,q31,ad31,e31,hx31_0⟩:=zp (Kd.at_int HR0.out x3_1)
         obtain rfl:ad29=ad31:=(by injection e31)
         replace p31:=eq_true p31;replace q31:=eq_true q31;obtain ⟨p33,q33,ad33,e33,hx33_0⟩:=zp (Kd.at_int HR0.out x3_1)
         obtain rfl:ad29=ad33:=(by injection e33)
         replace p33:=eq_true p33;replace q33:=eq_true q33;obtain ⟨p34,q34,ad34,e34,hx34_0⟩:=zp (Kd.at_int HR0.out (ji8))
         obtain rfl:ad29=ad34:=(by injection e34)
         replace p34:=eq_true p34;replace q34:=eq_true q34
         go_wp2
         repeat (go_quiet (fail);try go_wp2)
         go_ret
         exact ⟨by first|rfl|(simp;done)|(simp only [← hji8] <;> (first|rfl|simp))|(simp [*];done),by repeat (first|exact Drawn0.refl _|apply Drawn0.step)⟩
        ·have H':=zA H;clear H;obtain ⟨p29,q29,ad29,e29,hx29_0⟩:=zp (Kd.at_int HR0.out x3_1)
         cases e29
         replace p29:=eq_true p29;replace q29:=eq_true q29;obtain ⟨p31,q31,ad31,e31,hx31_0⟩:=zp (Kd.at_int HR0.out x3_1)
         obtain rfl:ad29=ad31:=(by injection e31)
         replace p31:=eq_true p31;replace q31:=eq_true q31;obtain ⟨p33,q33,ad33,e33,hx33_0⟩:=zp (Kd.at_int HR0.out x3_1)
         obtain rfl:ad29=ad33:=(by injection e33)
         replace p33:=eq_true p33;replace q33:=eq_true q33;obtain ⟨p34,q34,ad34,e34,hx34_0⟩:=zp (Kd.at_int HR0.out (ji8))
         obtain rfl:ad29=ad34:=(by injection e34)
         replace p34:=eq_true p34;replace q34:=eq_true q34
         go_wp2
         repeat (go_quiet (fail);try go_wp2)
         go_roundg k1
         case measure=>have:=HK1.out;omega
         case rel=>exact ⟨(wrap64 (x3_1+1)),zT,H',⟨by have:=HK1.out;omega⟩,by repeat (first|exact Drawn0.refl _|apply Drawn0.step)⟩
       ·have c7b0:decide (0<x3_1)=false:=decide_eq_false c7;clear c7;have H':=zA H;clear H;obtain ⟨p29,q29,ad29,e29,hx29_0⟩:=zp (Kd.at_int HR0.out x3_1)
        cases e29
        replace p29:=eq_true p29;replace q29:=eq_true q29;obtain ⟨p31,q31,ad31,e31,hx31_0⟩:=zp (Kd.at_int HR0.out x3_1)
        obtain rfl:ad29=ad31:=(by injection e31)
        replace p31:=eq_true p31;replace q31:=eq_true q31
        go_wp2
        repeat (go_quiet (fail);try go_wp2)
        go_roundg k1
        case measure=>have:=HK1.out;omega
        case rel=>exact ⟨(wrap64 (x3_1+1)),zT,H',⟨by have:=HK1.out;omega⟩,by repeat (first|exact Drawn0.refl _|apply Drawn0.step)⟩
    ·obtain rfl:=Option.some.inj H
     go_wp2
     repeat (go_quiet (fail);try go_wp2)
     go_ret
     exact ⟨by first|rfl|(simp;done)|(simp [*];done),by repeat (first|exact Drawn0.refl _|apply Drawn0.step)⟩
end Go.Proofs.Ytkaalbbbpebpdaa.T
