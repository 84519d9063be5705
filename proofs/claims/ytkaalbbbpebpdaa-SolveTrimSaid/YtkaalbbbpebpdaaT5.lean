import Derived.Test.YtkaalbbbpebpdaaT0
import Derived.Test.YtkaalbbbpebpdaaT2
import Derived.Test.YtkaalbbbpebpdaaT4
namespace Go.Proofs.Ytkaalbbbpebpdaa.T
open Go.RowKit Go.Proofs.YtkaalbbbpebpdaaW.PrintWords Go.Proofs.YtkaalbbbpebpdaaW.PrintLast Go.Proofs.YtkaalbbbpebpdaaW.PrintMore
attribute [local go_sem] max2_int min2_int max_two min_two max_three min_three max_four min_four Try.underlying23 Try.underlying25 Try.underlying3 Try.underlying33 Try.underlying35 Try.underlying48 Try.underlying55
set_option linter.unusedVariables false
set_option linter.unusedSimpArgs false
def solve_right.f:Nat→List (S35)→List (S55)→Int→Int→Int→Option (Bool)
 | 0,_,_,_,_,_=>none
 | k+1,l0,l1_0,a2,a3_0,a3_1=>if 0≤a2 then (if a2<(l1_0.length:Int) then (if ((rd_T55 l1_0 a2).f0)<0 then (if 0≤((rd_T55 l1_0 a2).f3) then (if ((rd_T55 l1_0 a2).f3)<(l0.length:Int) then ((solve_choices_fails.f k a3_0 a3_1 ((rd_T35 l0 ((rd_T55 l1_0 a2).f3)).f0) ((rd_T35 l0 ((rd_T55 l1_0 a2).f3)).f1)).bind fun t61=>(some t61)) else (none)) else (none)) else (if 0≤((rd_T55 l1_0 a2).f0) then (if (Go.bits .and .i64 (shr .i64 a3_0 ((rd_T55 l1_0 a2).f0)) 1)=0 then ((solve_choices_with.f a3_0 a3_1 ((rd_T55 l1_0 a2).f0) 0).bind fun bt52=>((solve_right.f k l0 l1_0 ((rd_T55 l1_0 a2).f1) bt52.1 bt52.2).bind fun t62=>(if t62=true then ((solve_choices_with.f a3_0 a3_1 ((rd_T55 l1_0 a2).f0) 1).bind fun bt53=>((solve_right.f k l0 l1_0 ((rd_T55 l1_0 a2).f2) bt53.1 bt53.2).bind fun t57=>(some t57))) else (some false)))) else (some false)) else (none))) else (none)) else (none)
theorem solve_right.mono_l:∀ k,(∀ y0 y1 y2 y3 y4,LeO (solve_right.f k y0 y1 y2 y3 y4) (solve_right.f (k+1) y0 y1 y2 y3 y4))
 | 0=>fun _ _ _ _ _ r h=>by simp [solve_right.f] at h
 | k+1=>by
  have ih0:=solve_right.mono_l k
  ·intro y0 y1 y2 y3 y4
   unfold solve_right.f
   repeat' first
   | (with_reducible exact ih0 _ _ _ _ _)
   | (with_reducible exact solve_choices_fails.mono _ _ _ _ _)
   | (with_reducible exact LeO.refl _)
   | (with_reducible exact LeO.none _)
   | (with_reducible refine LeO.ite ?_ ?_)
   | (with_reducible refine LeO.bind ?_ (fun _=>?_))
   | exact LeO.none _
   | refine LeO.ite ?_ ?_
   | refine LeO.bind ?_ (fun _=>?_)
theorem solve_right.mono:∀ a0 a1 a2 a3 a4 k,LeO (solve_right.f k a0 a1 a2 a3 a4) (solve_right.f (k+1) a0 a1 a2 a3 a4):=by
 intro a0 a1 a2 a3 a4 k;have ih0:=solve_right.mono_l k;exact ih0 a0 a1 a2 a3 a4
def solve_right.T3:Bool×List (List Nat×List Nat):=(true,[([],[]),([],[]),([],[]),([2],[2]),([1,3],[1,3]),([4],[4]),([0,5],[0,5]),([6,6,0,1,2,3,4,5,6],[6])])
def solve_right.B3:List Nat:=[0,0,0,4,14,30,63,127]
theorem solve_right.tab3:rtab .any (opsOf Try.f22 3)=solve_right.T3:=by kernel_rfl
theorem solve_right.bits3:waitsOk solve_right.T3.2 solve_right.B3=true:=by kernel_rfl
def solve_right.T4:Bool×List (List Nat×List Nat):=(true,[([],[]),([0],[0]),([],[]),([2],[2]),([1,3],[1,3]),([4],[4]),([5],[5]),([6],[6]),([7],[7]),([7],[7]),([7],[7]),([10,7],[7,10]),([7],[7]),([7],[7]),([13,7],[7,13]),([12,14,7,7],[7,12,14]),([8,9,11,15,15,7],[7,8,9,11,15]),([7,16],[7,16]),([17,16],[17]),([18],[18]),([18],[18]),([18],[18]),([21,18],[18,21]),([18],[18]),([18],[18]),([24,18],[18,24]),([23,25,18,18],[18,23,25]),([19,20,22,26,26,18],[18,19,20,22,26]),([18,27],[18,27]),([28,27,0,1,2,3,4,5,6,7,8,9,10,11,12,13,14,15,16,17,18,19,20,21,22,23,24,25,26,27,28],[28])])
def solve_right.B4:List Nat:=[0,1,0,4,15,31,63,127,255,255,255,1279,255,255,8447,28927,65535,131071,262143,524287,524287,524287,2621439,524287,524287,17301503,59244543,134217727,268435455,536870911]
theorem solve_right.tab4:rtab .any (opsOf Try.f22 4)=solve_right.T4:=by kernel_rfl
theorem solve_right.bits4:waitsOk solve_right.T4.2 solve_right.B4=true:=by kernel_rfl
set_option maxHeartbeats 8000000 in
set_option maxRecDepth 100000 in
theorem solve_right.calls (k:Nat):∀ (A0:Option Addr) (c0:Nat) (l0:List (S35)) (A1_0:Option Addr) (c1_0:Nat) (l1_0:List (S55)) (a2:Int) (a3_0:Int) (a3_1:Int) (r:Bool) (w:World) (hr0:Kd.C k35 w A0 l0.length l0) (hc0:l0.length≤c0) (hr1_0:Kd.C k55 w A1_0 l1_0.length l1_0) (hc1_0:l1_0.length≤c1_0) (h:solve_right.f k l0 l1_0 a2 a3_0 a3_1=some r),
  Calls Try.prog 22 #[.slice A0 l0.length c0,.agg #[.slice A1_0 l1_0.length c1_0],.int .i64 a2,.agg #[.int .i64 a3_0,.int .i64 a3_1]] w fun e w'=>e=.returned (.bool r)∧Below w.heap.size w w':=by
 induction k using Nat.strongRecOn with
 | _ k ih=>
 intro A0 c0 l0 A1_0 c1_0 l1_0 a2 a3_0 a3_1 r w hr0 hc0 hr1_0 hc1_0 h
 cases k with
 | zero=>exact absurd h (by simp [solve_right.f])
 | succ k=>
 simp only [solve_right.f] at h;have HR0:=zA hr0;have HC0:=zA hc0;clear hr0 hc0;have HR1_0:=zA hr1_0;have HC1_0:=zA hc1_0;clear hr1_0 hc1_0;have HB:=zA (Below.refl w.heap.size w);have H:(if 0≤a2 then (if a2<(l1_0.length:Int) then (if ((rd_T55 l1_0 a2).f0)<0 then (if 0≤((rd_T55 l1_0 a2).f3) then (if ((rd_T55 l1_0 a2).f3)<(l0.length:Int) then ((solve_choices_fails.f k a3_0 a3_1 ((rd_T35 l0 ((rd_T55 l1_0 a2).f3)).f0) ((rd_T35 l0 ((rd_T55 l1_0 a2).f3)).f1)).bind fun t61=>(some t61)) else (none)) else (none)) else (if 0≤((rd_T55 l1_0 a2).f0) then (if (Go.bits .and .i64 (shr .i64 a3_0 ((rd_T55 l1_0 a2).f0)) 1)=0 then ((solve_choices_with.f a3_0 a3_1 ((rd_T55 l1_0 a2).f0) 0).bind fun bt52=>((solve_right.f k l0 l1_0 ((rd_T55 l1_0 a2).f1) bt52.1 bt52.2).bind fun t62=>(if t62=true then ((solve_choices_with.f a3_0 a3_1 ((rd_T55 l1_0 a2).f0) 1).bind fun bt53=>((solve_right.f k l0 l1_0 ((rd_T55 l1_0 a2).f2) bt53.1 bt53.2).bind fun t57=>(some t57))) else (some false)))) else (some false)) else (none))) else (none)) else (none))=some r:=h;clear h;obtain ⟨c5b0,H⟩:=ifd1 H;obtain ⟨c6b0,H⟩:=ifd1 H;have HC7:=zA H;clear H
 go_enter Try.func22,Try.ntmps22
 go_upto_if 17 with (first|((with_reducible refine gd 5 rfl ?_);refine zx #[.slice A1_0 l1_0.length c1_0] 25 ?_;intro gb45 hg w8 BK45 hb GW45 HB1;have GE45:=GW45;clear HB hb hg;have HB:=HB1;clear HB1)|((with_reducible refine gd 7 rfl ?_);refine zx #[.int .i64 a3_0,.int .i64 a3_1] 48 ?_;intro gb44 hg w9 BK44 hb GW44 HB1;have GE44:=GW44;have NB45_44:=zL hg BK45;have NB44_45:=zLs NB45_44;replace BK45:=zw BK45 hb;clear HB hb hg;have HB:=HB1;clear HB1;have hnb10:=NB45_44.out;have hnc10:=NB44_45.out;have hcz11_0:=zc0 BK45;have hfz11_0:=zf BK45 0;obtain ⟨p49,q49,ad49,e49,hx49_0,hx49_1,hx49_2,hx49_3⟩:=zp (at_T55 HR1_0.out a2);cases e49;replace hx49_0:=zd HB hx49_0;replace hx49_1:=zd HB hx49_1;replace hx49_2:=zd HB hx49_2;replace hx49_3:=zd HB hx49_3;replace p49:=eq_true p49;replace q49:=eq_true q49)|((with_reducible refine gd 9 rfl ?_);refine zx #[.int .i64 0,.int .i64 0,.int .i64 0,.int .i64 0] 55 ?_;intro gb43 hg w12 BK43 hb GW43 HB1;have GE43:=GW43;have NB45_43:=zL hg BK45;have NB43_45:=zLs NB45_43;have NB44_43:=zL hg BK44;have NB43_44:=zLs NB44_43;replace BK45:=zw BK45 hb;replace BK44:=zw BK44 hb;clear HB hb hg;have HB:=HB1;clear HB1;have hnb13:=NB43_45.out;have hnc13:=NB45_43.out;have hnb14:=NB43_44.out;have hnc14:=NB44_43.out;have hcz15_0:=zc0 BK43;have hcz15_1:=zc1 BK43;have hcz15_2:=zc2 BK43;have hcz15_3:=zc3 BK43;have hfz15_0:=zf BK43))
 (try simp only [Act.put,zi,zs,zt]);have H:=HC7.out;clear HC7
 rcases ifd H with ⟨c16b0,H⟩|⟨c16b0,H⟩
 ·(first|rw [c16b0]|(simp only [i64_w,i32_w];rw [c16b0])|skip)
  obtain ⟨c17b0,H⟩:=ifd1 H;obtain ⟨c18b0,H⟩:=ifd1 H;obtain ⟨t61,A19,H⟩:=zo H;obtain rfl:=Option.some.inj H
  try go_wp2
  have n0_:Aside0 (((((w12.setCell ⟨gb43,0,none⟩ (.int .i64 ((rd_T55 l1_0 a2).f0))).setCell ⟨gb43,1,none⟩ (.int .i64 ((rd_T55 l1_0 a2).f1))).setCell ⟨gb43,2,none⟩ (.int .i64 ((rd_T55 l1_0 a2).f2))).setCell ⟨gb43,3,none⟩ (.int .i64 ((rd_T55 l1_0 a2).f3))).heap[gb45]?=some (.cells #[.slice (some ad49) l1_0.length c1_0] 25 (0,0))):=⟨by refine zj ?_;refine blk_far ?_ NB45_43.out _;refine zj ?_;refine blk_far ?_ NB45_43.out _;refine zj ?_;refine blk_far ?_ NB45_43.out _;refine zj ?_;refine blk_far ?_ NB45_43.out _;refine zj ?_;exact BK45.out⟩
  have n1_:Aside0 (((((w12.setCell ⟨gb43,0,none⟩ (.int .i64 ((rd_T55 l1_0 a2).f0))).setCell ⟨gb43,1,none⟩ (.int .i64 ((rd_T55 l1_0 a2).f1))).setCell ⟨gb43,2,none⟩ (.int .i64 ((rd_T55 l1_0 a2).f2))).setCell ⟨gb43,3,none⟩ (.int .i64 ((rd_T55 l1_0 a2).f3))).heap[gb44]?=some (.cells #[.int .i64 a3_0,.int .i64 a3_1] 48 (0,0))):=⟨by refine zj ?_;refine blk_far ?_ NB44_43.out _;refine zj ?_;refine blk_far ?_ NB44_43.out _;refine zj ?_;refine blk_far ?_ NB44_43.out _;refine zj ?_;refine blk_far ?_ NB44_43.out _;refine zj ?_;exact BK44.out⟩
  have n2_:Aside0 (((((w12.setCell ⟨gb43,0,none⟩ (.int .i64 ((rd_T55 l1_0 a2).f0))).setCell ⟨gb43,1,none⟩ (.int .i64 ((rd_T55 l1_0 a2).f1))).setCell ⟨gb43,2,none⟩ (.int .i64 ((rd_T55 l1_0 a2).f2))).setCell ⟨gb43,3,none⟩ (.int .i64 ((rd_T55 l1_0 a2).f3))).heap[gb43]?=some (.cells #[.int .i64 ((rd_T55 l1_0 a2).f0),.int .i64 ((rd_T55 l1_0 a2).f1),.int .i64 ((rd_T55 l1_0 a2).f2),.int .i64 ((rd_T55 l1_0 a2).f3)] 55 (0,0))):=⟨by refine zj ?_;refine blk_put (cs:=#[.int .i64 ((rd_T55 l1_0 a2).f0),.int .i64 ((rd_T55 l1_0 a2).f1),.int .i64 ((rd_T55 l1_0 a2).f2),.int .i64 0]) ?_ 3 _ rfl;refine zj ?_;refine blk_put (cs:=#[.int .i64 ((rd_T55 l1_0 a2).f0),.int .i64 ((rd_T55 l1_0 a2).f1),.int .i64 0,.int .i64 0]) ?_ 2 _ rfl;refine zj ?_;refine blk_put (cs:=#[.int .i64 ((rd_T55 l1_0 a2).f0),.int .i64 0,.int .i64 0,.int .i64 0]) ?_ 1 _ rfl;refine zj ?_;refine blk_put (cs:=#[.int .i64 0,.int .i64 0,.int .i64 0,.int .i64 0]) ?_ 0 _ rfl;refine zj ?_;exact BK43.out⟩
  have n3_:Aside0 (Below w.heap.size w ((((w12.setCell ⟨gb43,0,none⟩ (.int .i64 ((rd_T55 l1_0 a2).f0))).setCell ⟨gb43,1,none⟩ (.int .i64 ((rd_T55 l1_0 a2).f1))).setCell ⟨gb43,2,none⟩ (.int .i64 ((rd_T55 l1_0 a2).f2))).setCell ⟨gb43,3,none⟩ (.int .i64 ((rd_T55 l1_0 a2).f3)))):=⟨zv3 HB GE45 GE44 GE43⟩
  (try clear BK45);(try clear BK44);(try clear BK43);(try clear HB)
  generalize ((((w12.setCell ⟨gb43,0,none⟩ (.int .i64 ((rd_T55 l1_0 a2).f0))).setCell ⟨gb43,1,none⟩ (.int .i64 ((rd_T55 l1_0 a2).f1))).setCell ⟨gb43,2,none⟩ (.int .i64 ((rd_T55 l1_0 a2).f2))).setCell ⟨gb43,3,none⟩ (.int .i64 ((rd_T55 l1_0 a2).f3)))=w20 at n0_ n1_ n2_ n3_ ⊢
  have BK45:=n0_;have BK44:=n1_;have BK43:=n2_;have HB:=n3_;clear n0_ n1_ n2_ n3_;replace BK45:=zA (blk_drew BK45.out);replace BK44:=zA (blk_drew BK44.out);replace BK43:=zA (blk_drew BK43.out);replace HB:=zA (below_drew1 HB.out);obtain ⟨p46,q46,ad46,A46_0,c46_0,A46_1,c46_1,e46,hx46_0,hx46_1,hl46_0,hi46_0,hl46_1,hi46_1⟩:=zp (at_T35 HR0.out ((rd_T55 l1_0 a2).f3));have hw46_1:=hx46_1;have hw46_0:=hx46_0
  cases e46
  replace hx46_0:=zd HB hx46_0;replace hx46_1:=zd HB hx46_1;have HR46_0:=zA hi46_0;have HC46_0:=zA hl46_0;clear hi46_0 hl46_0;have HR46_1:=zA hi46_1;have HC46_1:=zA hl46_1;clear hi46_1 hl46_1;replace p46:=eq_true p46;replace q46:=eq_true q46;refine start_ (n:=8) (S:=fun w'=>w'.cell? ⟨gb44,0,none⟩=some (.int .i64 a3_0)∧w'.cell? ⟨gb44,1,none⟩=some (.int .i64 a3_1)∧w'.cell? ⟨gb43,0,none⟩=some (.int .i64 ((rd_T55 l1_0 a2).f0))∧w'.cell? ⟨gb43,1,none⟩=some (.int .i64 ((rd_T55 l1_0 a2).f1))∧w'.cell? ⟨gb43,2,none⟩=some (.int .i64 ((rd_T55 l1_0 a2).f2))∧w'.cell? ⟨gb43,3,none⟩=some (.int .i64 ((rd_T55 l1_0 a2).f3))∧w'.cell? (ad46.add ((((rd_T55 l1_0 a2).f3)).toNat * 2))=some (.slice A46_0 ((rd_T35 l0 ((rd_T55 l1_0 a2).f3)).f0).length c46_0)∧w'.cell? ⟨(ad46.add ((((rd_T55 l1_0 a2).f3)).toNat * 2)).block,(ad46.add ((((rd_T55 l1_0 a2).f3)).toNat * 2)).off+1,none⟩=some (.slice A46_1 ((rd_T35 l0 ((rd_T55 l1_0 a2).f3)).f1).length c46_1)) (ds:=[]) (bz 8 0) zK rfl rfl ⟨zc0 BK44,zc1 BK44,zc0 BK43,zc1 BK43,zc2 BK43,zc3 BK43,((HB.out.cell (World.block_lt_of_cell? w _ hw46_0)).trans hw46_0),((HB.out.cell (World.block_lt_of_cell? w _ hw46_1)).trans hw46_1)⟩ (fun hHeld=>?_);refine with_tabW solve_right.tab3 solve_right.bits3 (fun HT_ HW_=>?_)
  generalize w20.drew=w21 at BK45 BK44 BK43 HB HR46_0 HR46_1 hx46_0 hx46_1 hHeld ⊢
  refine zP 1 19 (bz 8 2) HT_ ?_;refine zP 2 20 (bz 8 6) HT_ ?_;refine zQ 0 18 (bz 8 7) HT_ HW_ hHeld ?_;refine zQ 3 21 (bz 8 15) HT_ HW_ hHeld ?_;refine zP 4 22 (bz 8 31) HT_ ?_;refine zQ 5 23 (bz 8 63) HT_ HW_ hHeld ?_;refine one_ (i:=6) (N:=some 24) (bz 8 127) rfl rfl (one_of HT_.out zK) (by decide) (fun K hK=>?_);refine goes_ Try.func35 zK rfl #[.agg #[.int .i64 a3_0,.int .i64 a3_1],.agg #[.slice A46_0 ((rd_T35 l0 ((rd_T55 l1_0 a2).f3)).f0).length c46_0,.slice A46_1 ((rd_T35 l0 ((rd_T55 l1_0 a2).f3)).f1).length c46_1]] (by rfl) rfl rfl zM ?_
  with_reducible refine (solve_choices_fails.calls k a3_0 a3_1 _ _ ((rd_T35 l0 ((rd_T55 l1_0 a2).f3)).f0) _ _ ((rd_T35 l0 ((rd_T55 l1_0 a2).f3)).f1) t61 _ ?side1 ?side2 ?side3 ?side4 A19.out).mono ?_
  (case side1=>exact zC (Kd.C_below HR46_0.out HB.out));(case side2=>exact HC46_0.out);(case side3=>exact zC (Kd.C_below HR46_1.out HB.out));(case side4=>exact HC46_1.out);rintro e w22 ⟨rfl,hb⟩;refine ⟨_,rfl,?_⟩;replace BK45:=zw BK45 hb;replace BK44:=zw BK44 hb;replace BK43:=zw BK43 hb;replace HB:=zu hb;(try clear hb);(try clear hb2);(try clear hk);(try clear hi);refine hK.out _ _ ⟨zc0 BK44,zc1 BK44,zc0 BK43,zc1 BK43,zc2 BK43,zc3 BK43,((HB.out.cell (World.block_lt_of_cell? w _ hw46_0)).trans hw46_0),((HB.out.cell (World.block_lt_of_cell? w _ hw46_1)).trans hw46_1)⟩ (fun hHeld=>?_);clear hK K;refine norm_ (a':=?_) ?_ ?_;rotate_left
  ·show Act.put _ (some 24) _=_
   simp only [Act.put,zi,zs,zt,i64_w,i32_w];rfl
  refine zP 7 8 (bz 8 255) HT_ ?_;refine done_ (done_of HT_.out zK) ?_
  try go_wp2
  go_ret
  exact ⟨ze,zv3 HB GE45 GE44 GE43⟩
 ·(first|rw [c16b0]|(simp only [i64_w,i32_w];rw [c16b0])|skip)
  obtain ⟨c23,H⟩:=if1 H;have c23b0:=eq_true c23;have c23b1:decide (0≤((rd_T55 l1_0 a2).f0))=true:=decide_eq_true c23;clear c23;obtain ⟨ji24,hji24⟩:=zZ (shr .i64 a3_0 ((rd_T55 l1_0 a2).f0))
  first|rw [hji24] at H|simp only [hji24] at H
  have hji24_:(a3_0 / 2 ^ min ((rd_T55 l1_0 a2).f0).toNat 64)=ji24:=hji24;have hji24z:((rd_T55 l1_0 a2).f0)≤64→(a3_0 / 2 ^ ((rd_T55 l1_0 a2).f0).toNat)=ji24:=shr_small hji24
  rcases ife H with ⟨c25b0,c25b1,H⟩|⟨c25,c25b0,c25b1,H⟩
  ·obtain ⟨t52,t60,A26,H⟩:=zO H
   dsimp only at H
   obtain ⟨t62,A27,H⟩:=zo H
   by_cases c28:t62=true
   ·subst c28
    have H1:((solve_choices_with.f a3_0 a3_1 ((rd_T55 l1_0 a2).f0) 1).bind fun bt53=>((solve_right.f k l0 l1_0 ((rd_T55 l1_0 a2).f2) bt53.1 bt53.2).bind fun t57=>(some t57)))=some r:=by rw [if_pos rfl] at H;exact H
    clear H;have H:=H1;clear H1;obtain ⟨t53,t66,A29,H⟩:=zO H
    dsimp only at H
    obtain ⟨t57,A30,H⟩:=zo H;obtain rfl:=Option.some.inj H
    try go_wp2
    have n0_:Aside0 (((((w12.setCell ⟨gb43,0,none⟩ (.int .i64 ((rd_T55 l1_0 a2).f0))).setCell ⟨gb43,1,none⟩ (.int .i64 ((rd_T55 l1_0 a2).f1))).setCell ⟨gb43,2,none⟩ (.int .i64 ((rd_T55 l1_0 a2).f2))).setCell ⟨gb43,3,none⟩ (.int .i64 ((rd_T55 l1_0 a2).f3))).heap[gb45]?=some (.cells #[.slice (some ad49) l1_0.length c1_0] 25 (0,0))):=⟨by refine zj ?_;refine blk_far ?_ NB45_43.out _;refine zj ?_;refine blk_far ?_ NB45_43.out _;refine zj ?_;refine blk_far ?_ NB45_43.out _;refine zj ?_;refine blk_far ?_ NB45_43.out _;refine zj ?_;exact BK45.out⟩
    have n1_:Aside0 (((((w12.setCell ⟨gb43,0,none⟩ (.int .i64 ((rd_T55 l1_0 a2).f0))).setCell ⟨gb43,1,none⟩ (.int .i64 ((rd_T55 l1_0 a2).f1))).setCell ⟨gb43,2,none⟩ (.int .i64 ((rd_T55 l1_0 a2).f2))).setCell ⟨gb43,3,none⟩ (.int .i64 ((rd_T55 l1_0 a2).f3))).heap[gb44]?=some (.cells #[.int .i64 a3_0,.int .i64 a3_1] 48 (0,0))):=⟨by refine zj ?_;refine blk_far ?_ NB44_43.out _;refine zj ?_;refine blk_far ?_ NB44_43.out _;refine zj ?_;refine blk_far ?_ NB44_43.out _;refine zj ?_;refine blk_far ?_ NB44_43.out _;refine zj ?_;exact BK44.out⟩
    have n2_:Aside0 (((((w12.setCell ⟨gb43,0,none⟩ (.int .i64 ((rd_T55 l1_0 a2).f0))).setCell ⟨gb43,1,none⟩ (.int .i64 ((rd_T55 l1_0 a2).f1))).setCell ⟨gb43,2,none⟩ (.int .i64 ((rd_T55 l1_0 a2).f2))).setCell ⟨gb43,3,none⟩ (.int .i64 ((rd_T55 l1_0 a2).f3))).heap[gb43]?=some (.cells #[.int .i64 ((rd_T55 l1_0 a2).f0),.int .i64 ((rd_T55 l1_0 a2).f1),.int .i64 ((rd_T55 l1_0 a2).f2),.int .i64 ((rd_T55 l1_0 a2).f3)] 55 (0,0))):=⟨by refine zj ?_;refine blk_put (cs:=#[.int .i64 ((rd_T55 l1_0 a2).f0),.int .i64 ((rd_T55 l1_0 a2).f1),.int .i64 ((rd_T55 l1_0 a2).f2),.int .i64 0]) ?_ 3 _ rfl;refine zj ?_;refine blk_put (cs:=#[.int .i64 ((rd_T55 l1_0 a2).f0),.int .i64 ((rd_T55 l1_0 a2).f1),.int .i64 0,.int .i64 0]) ?_ 2 _ rfl;refine zj ?_;refine blk_put (cs:=#[.int .i64 ((rd_T55 l1_0 a2).f0),.int .i64 0,.int .i64 0,.int .i64 0]) ?_ 1 _ rfl;refine zj ?_;refine blk_put (cs:=#[.int .i64 0,.int .i64 0,.int .i64 0,.int .i64 0]) ?_ 0 _ rfl;refine zj ?_;exact BK43.out⟩
    have n3_:Aside0 (Below w.heap.size w ((((w12.setCell ⟨gb43,0,none⟩ (.int .i64 ((rd_T55 l1_0 a2).f0))).setCell ⟨gb43,1,none⟩ (.int .i64 ((rd_T55 l1_0 a2).f1))).setCell ⟨gb43,2,none⟩ (.int .i64 ((rd_T55 l1_0 a2).f2))).setCell ⟨gb43,3,none⟩ (.int .i64 ((rd_T55 l1_0 a2).f3)))):=⟨zv3 HB GE45 GE44 GE43⟩
    (try clear BK45);(try clear BK44);(try clear BK43);(try clear HB)
    generalize ((((w12.setCell ⟨gb43,0,none⟩ (.int .i64 ((rd_T55 l1_0 a2).f0))).setCell ⟨gb43,1,none⟩ (.int .i64 ((rd_T55 l1_0 a2).f1))).setCell ⟨gb43,2,none⟩ (.int .i64 ((rd_T55 l1_0 a2).f2))).setCell ⟨gb43,3,none⟩ (.int .i64 ((rd_T55 l1_0 a2).f3)))=w31 at n0_ n1_ n2_ n3_ ⊢
    have BK45:=n0_;have BK44:=n1_;have BK43:=n2_;have HB:=n3_;clear n0_ n1_ n2_ n3_;replace BK45:=zA (blk_drew BK45.out);replace BK44:=zA (blk_drew BK44.out);replace BK43:=zA (blk_drew BK43.out);replace HB:=zA (below_drew1 HB.out);refine start_ (n:=30) (S:=fun w'=>w'.cell? ⟨gb44,0,none⟩=some (.int .i64 a3_0)∧w'.cell? ⟨gb44,1,none⟩=some (.int .i64 a3_1)∧w'.cell? ⟨gb43,0,none⟩=some (.int .i64 ((rd_T55 l1_0 a2).f0))∧w'.cell? ⟨gb43,1,none⟩=some (.int .i64 ((rd_T55 l1_0 a2).f1))∧w'.cell? ⟨gb43,2,none⟩=some (.int .i64 ((rd_T55 l1_0 a2).f2))∧w'.cell? ⟨gb43,3,none⟩=some (.int .i64 ((rd_T55 l1_0 a2).f3))∧w'.cell? ⟨gb45,0,none⟩=some (.slice (some ad49) l1_0.length c1_0)) (ds:=[]) (bz 30 0) zK rfl rfl ⟨zc0 BK44,zc1 BK44,zc0 BK43,zc1 BK43,zc2 BK43,zc3 BK43,zc0 BK45⟩ (fun hHeld=>?_);refine with_tabW solve_right.tab4 solve_right.bits4 (fun HT_ HW_=>?_)
    generalize w31.drew=w32 at BK45 BK44 BK43 HB hHeld ⊢
    refine zP 0 25 (bz 30 1) HT_ ?_;refine zP 2 27 (bz 30 5) HT_ ?_;refine zQ 1 26 (bz 30 7) HT_ HW_ hHeld ?_;refine zQ 3 28 (bz 30 15) HT_ HW_ hHeld ?_;refine zP 4 29 (bz 30 31) HT_ ?_;refine zP 5 30 (bz 30 63) HT_ ?_;refine zP 6 31 (bz 30 127) HT_ ?_;refine zP 7 32 (bz 30 255) HT_ ?_;refine zP 8 33 (bz 30 511) HT_ ?_;refine zP 10 35 (bz 30 1535) HT_ ?_;refine zP 13 38 (bz 30 9727) HT_ ?_;refine zQ 9 34 (bz 30 10239) HT_ HW_ hHeld ?_;refine zQ 11 36 (bz 30 12287) HT_ HW_ hHeld ?_;refine zQ 12 37 (bz 30 16383) HT_ HW_ hHeld ?_;refine zQ 14 39 (bz 30 32767) HT_ HW_ hHeld ?_;refine one_ (i:=15) (N:=some 40) (bz 30 65535) rfl rfl (one_of HT_.out zK) (by decide) (fun K hK=>?_);refine goes_ Try.func27 zK rfl #[.agg #[.int .i64 a3_0,.int .i64 a3_1],.int .i64 ((rd_T55 l1_0 a2).f0),.int .i64 0] (by rfl) rfl rfl zM ?_
    with_reducible refine (solve_choices_with.calls a3_0 a3_1 ((rd_T55 l1_0 a2).f0) 0 t52 t60 _ A26.out).mono ?_
    rintro e w33 ⟨rfl,hb⟩;refine ⟨_,rfl,?_⟩;replace BK45:=zw BK45 hb;replace BK44:=zw BK44 hb;replace BK43:=zw BK43 hb;replace HB:=zu hb;(try clear hb);(try clear hb2);(try clear hk);(try clear hi);refine hK.out _ _ ⟨zc0 BK44,zc1 BK44,zc0 BK43,zc1 BK43,zc2 BK43,zc3 BK43,zc0 BK45⟩ (fun hHeld=>?_);clear hK K;refine norm_ (a':=?_) ?_ ?_;rotate_left
    ·show Act.put _ (some 40) _=_
     simp only [Act.put,zi,zs,zt,i64_w,i32_w];rfl
    refine one_ (i:=16) (N:=some 41) (bz 30 131071) rfl rfl (one_of HT_.out zK) (by decide) (fun K hK=>?_);refine goes_ Try.func22 zK rfl #[.slice A0 l0.length c0,.agg #[.slice (some ad49) l1_0.length c1_0],.int .i64 ((rd_T55 l1_0 a2).f1),.agg #[.int .i64 t52,.int .i64 t60]] (by rfl) rfl rfl zM ?_
    with_reducible refine (ih k (by omega) _ _ l0 _ _ l1_0 ((rd_T55 l1_0 a2).f1) t52 t60 true _ ?side1 ?side2 ?side3 ?side4 A27.out).mono ?_
    (case side1=>exact zC (Kd.C_below HR0.out HB.out));(case side2=>exact HC0.out);(case side3=>exact zC (Kd.C_below HR1_0.out HB.out));(case side4=>exact HC1_0.out);rintro e w34 ⟨rfl,hb⟩;refine ⟨_,rfl,?_⟩;replace BK45:=zw BK45 hb;replace BK44:=zw BK44 hb;replace BK43:=zw BK43 hb;replace HB:=zu hb;(try clear hb);(try clear hb2);(try clear hk);(try clear hi);refine hK.out _ _ ⟨zc0 BK44,zc1 BK44,zc0 BK43,zc1 BK43,zc2 BK43,zc3 BK43,zc0 BK45⟩ (fun hHeld=>?_);clear hK K;refine norm_ (a':=?_) ?_ ?_;rotate_left
    ·show Act.put _ (some 41) _=_
     simp only [Act.put,zi,zs,zt,i64_w,i32_w];rfl
    refine zP 17 42 (bz 30 262143) HT_ ?_;refine zP 18 43 (bz 30 524287) HT_ ?_;refine zP 19 44 (bz 30 1048575) HT_ ?_;refine zP 21 46 (bz 30 3145727) HT_ ?_;refine zP 24 49 (bz 30 19922943) HT_ ?_;refine zQ 20 45 (bz 30 20971519) HT_ HW_ hHeld ?_;refine zQ 22 47 (bz 30 25165823) HT_ HW_ hHeld ?_;refine zQ 23 48 (bz 30 33554431) HT_ HW_ hHeld ?_;refine zQ 25 50 (bz 30 67108863) HT_ HW_ hHeld ?_;refine one_ (i:=26) (N:=some 51) (bz 30 134217727) rfl rfl (one_of HT_.out zK) (by decide) (fun K hK=>?_);refine goes_ Try.func27 zK rfl #[.agg #[.int .i64 a3_0,.int .i64 a3_1],.int .i64 ((rd_T55 l1_0 a2).f0),.int .i64 1] (by rfl) rfl rfl zM ?_
    with_reducible refine (solve_choices_with.calls a3_0 a3_1 ((rd_T55 l1_0 a2).f0) 1 t53 t66 _ A29.out).mono ?_
    rintro e w35 ⟨rfl,hb⟩;refine ⟨_,rfl,?_⟩;replace BK45:=zw BK45 hb;replace BK44:=zw BK44 hb;replace BK43:=zw BK43 hb;replace HB:=zu hb;(try clear hb);(try clear hb2);(try clear hk);(try clear hi);refine hK.out _ _ ⟨zc0 BK44,zc1 BK44,zc0 BK43,zc1 BK43,zc2 BK43,zc3 BK43,zc0 BK45⟩ (fun hHeld=>?_);clear hK K;refine norm_ (a':=?_) ?_ ?_;rotate_left
    ·show Act.put _ (some 51) _=_
     simp only [Act.put,zi,zs,zt,i64_w,i32_w];rfl
    refine one_ (i:=27) (N:=some 52) (bz 30 268435455) rfl rfl (one_of HT_.out zK) (by decide) (fun K hK=>?_);refine goes_ Try.func22 zK rfl #[.slice A0 l0.length c0,.agg #[.slice (some ad49) l1_0.length c1_0],.int .i64 ((rd_T55 l1_0 a2).f2),.agg #[.int .i64 t53,.int .i64 t66]] (by rfl) rfl rfl zM ?_
    with_reducible refine (ih k (by omega) _ _ l0 _ _ l1_0 ((rd_T55 l1_0 a2).f2) t53 t66 t57 _ ?side1 ?side2 ?side3 ?side4 A30.out).mono ?_
    (case side1=>exact zC (Kd.C_below HR0.out HB.out));(case side2=>exact HC0.out);(case side3=>exact zC (Kd.C_below HR1_0.out HB.out));(case side4=>exact HC1_0.out);rintro e w36 ⟨rfl,hb⟩;refine ⟨_,rfl,?_⟩;replace BK45:=zw BK45 hb;replace BK44:=zw BK44 hb;replace BK43:=zw BK43 hb;replace HB:=zu hb;(try clear hb);(try clear hb2);(try clear hk);(try clear hi);refine hK.out _ _ ⟨zc0 BK44,zc1 BK44,zc0 BK43,zc1 BK43,zc2 BK43,zc3 BK43,zc0 BK45⟩ (fun hHeld=>?_);clear hK K;refine norm_ (a':=?_) ?_ ?_;rotate_left
    ·show Act.put _ (some 52) _=_
     simp only [Act.put,zi,zs,zt,i64_w,i32_w];rfl
    refine zP 28 53 (bz 30 536870911) HT_ ?_;refine zP 29 8 (bz 30 1073741823) HT_ ?_;refine done_ (done_of HT_.out zK) ?_
    try go_wp2
    go_ret
    exact ⟨by first|rfl|(simp [errW_none,errW_some] <;> rfl)|(simp only [← hji24];first|rfl|(simp [errW_none,errW_some] <;> rfl))|(simp [*,errW_none,errW_some] <;> rfl),zv3 HB GE45 GE44 GE43⟩
   ·replace c28:=Bool.eq_false_iff.mpr c28;subst c28
    have H1:(some false)=some r:=by rw [if_neg (show ¬ (false=true) by decide)] at H;exact H
    clear H;have H:=H1;clear H1;obtain rfl:=Option.some.inj H
    try go_wp2
    have n0_:Aside0 (((((w12.setCell ⟨gb43,0,none⟩ (.int .i64 ((rd_T55 l1_0 a2).f0))).setCell ⟨gb43,1,none⟩ (.int .i64 ((rd_T55 l1_0 a2).f1))).setCell ⟨gb43,2,none⟩ (.int .i64 ((rd_T55 l1_0 a2).f2))).setCell ⟨gb43,3,none⟩ (.int .i64 ((rd_T55 l1_0 a2).f3))).heap[gb45]?=some (.cells #[.slice (some ad49) l1_0.length c1_0] 25 (0,0))):=⟨by refine zj ?_;refine blk_far ?_ NB45_43.out _;refine zj ?_;refine blk_far ?_ NB45_43.out _;refine zj ?_;refine blk_far ?_ NB45_43.out _;refine zj ?_;refine blk_far ?_ NB45_43.out _;refine zj ?_;exact BK45.out⟩
    have n1_:Aside0 (((((w12.setCell ⟨gb43,0,none⟩ (.int .i64 ((rd_T55 l1_0 a2).f0))).setCell ⟨gb43,1,none⟩ (.int .i64 ((rd_T55 l1_0 a2).f1))).setCell ⟨gb43,2,none⟩ (.int .i64 ((rd_T55 l1_0 a2).f2))).setCell ⟨gb43,3,none⟩ (.int .i64 ((rd_T55 l1_0 a2).f3))).heap[gb44]?=some (.cells #[.int .i64 a3_0,.int .i64 a3_1] 48 (0,0))):=⟨by refine zj ?_;refine blk_far ?_ NB44_43.out _;refine zj ?_;refine blk_far ?_ NB44_43.out _;refine zj ?_;refine blk_far ?_ NB44_43.out _;refine zj ?_;refine blk_far ?_ NB44_43.out _;refine zj ?_;exact BK44.out⟩
    have n2_:Aside0 (((((w12.setCell ⟨gb43,0,none⟩ (.int .i64 ((rd_T55 l1_0 a2).f0))).setCell ⟨gb43,1,none⟩ (.int .i64 ((rd_T55 l1_0 a2).f1))).setCell ⟨gb43,2,none⟩ (.int .i64 ((rd_T55 l1_0 a2).f2))).setCell ⟨gb43,3,none⟩ (.int .i64 ((rd_T55 l1_0 a2).f3))).heap[gb43]?=some (.cells #[.int .i64 ((rd_T55 l1_0 a2).f0),.int .i64 ((rd_T55 l1_0 a2).f1),.int .i64 ((rd_T55 l1_0 a2).f2),.int .i64 ((rd_T55 l1_0 a2).f3)] 55 (0,0))):=⟨by refine zj ?_;refine blk_put (cs:=#[.int .i64 ((rd_T55 l1_0 a2).f0),.int .i64 ((rd_T55 l1_0 a2).f1),.int .i64 ((rd_T55 l1_0 a2).f2),.int .i64 0]) ?_ 3 _ rfl;refine zj ?_;refine blk_put (cs:=#[.int .i64 ((rd_T55 l1_0 a2).f0),.int .i64 ((rd_T55 l1_0 a2).f1),.int .i64 0,.int .i64 0]) ?_ 2 _ rfl;refine zj ?_;refine blk_put (cs:=#[.int .i64 ((rd_T55 l1_0 a2).f0),.int .i64 0,.int .i64 0,.int .i64 0]) ?_ 1 _ rfl;refine zj ?_;refine blk_put (cs:=#[.int .i64 0,.int .i64 0,.int .i64 0,.int .i64 0]) ?_ 0 _ rfl;refine zj ?_;exact BK43.out⟩
    have n3_:Aside0 (Below w.heap.size w ((((w12.setCell ⟨gb43,0,none⟩ (.int .i64 ((rd_T55 l1_0 a2).f0))).setCell ⟨gb43,1,none⟩ (.int .i64 ((rd_T55 l1_0 a2).f1))).setCell ⟨gb43,2,none⟩ (.int .i64 ((rd_T55 l1_0 a2).f2))).setCell ⟨gb43,3,none⟩ (.int .i64 ((rd_T55 l1_0 a2).f3)))):=⟨zv3 HB GE45 GE44 GE43⟩
    (try clear BK45);(try clear BK44);(try clear BK43);(try clear HB)
    generalize ((((w12.setCell ⟨gb43,0,none⟩ (.int .i64 ((rd_T55 l1_0 a2).f0))).setCell ⟨gb43,1,none⟩ (.int .i64 ((rd_T55 l1_0 a2).f1))).setCell ⟨gb43,2,none⟩ (.int .i64 ((rd_T55 l1_0 a2).f2))).setCell ⟨gb43,3,none⟩ (.int .i64 ((rd_T55 l1_0 a2).f3)))=w37 at n0_ n1_ n2_ n3_ ⊢
    have BK45:=n0_;have BK44:=n1_;have BK43:=n2_;have HB:=n3_;clear n0_ n1_ n2_ n3_;replace BK45:=zA (blk_drew BK45.out);replace BK44:=zA (blk_drew BK44.out);replace BK43:=zA (blk_drew BK43.out);replace HB:=zA (below_drew1 HB.out);refine start_ (n:=30) (S:=fun w'=>w'.cell? ⟨gb44,0,none⟩=some (.int .i64 a3_0)∧w'.cell? ⟨gb44,1,none⟩=some (.int .i64 a3_1)∧w'.cell? ⟨gb43,0,none⟩=some (.int .i64 ((rd_T55 l1_0 a2).f0))∧w'.cell? ⟨gb43,1,none⟩=some (.int .i64 ((rd_T55 l1_0 a2).f1))∧w'.cell? ⟨gb43,2,none⟩=some (.int .i64 ((rd_T55 l1_0 a2).f2))∧w'.cell? ⟨gb43,3,none⟩=some (.int .i64 ((rd_T55 l1_0 a2).f3))∧w'.cell? ⟨gb45,0,none⟩=some (.slice (some ad49) l1_0.length c1_0)) (ds:=[]) (bz 30 0) zK rfl rfl ⟨zc0 BK44,zc1 BK44,zc0 BK43,zc1 BK43,zc2 BK43,zc3 BK43,zc0 BK45⟩ (fun hHeld=>?_);refine with_tabW solve_right.tab4 solve_right.bits4 (fun HT_ HW_=>?_)
    generalize w37.drew=w38 at BK45 BK44 BK43 HB hHeld ⊢
    refine zP 0 25 (bz 30 1) HT_ ?_;refine zP 2 27 (bz 30 5) HT_ ?_;refine zQ 1 26 (bz 30 7) HT_ HW_ hHeld ?_;refine zQ 3 28 (bz 30 15) HT_ HW_ hHeld ?_;refine zP 4 29 (bz 30 31) HT_ ?_;refine zP 5 30 (bz 30 63) HT_ ?_;refine zP 6 31 (bz 30 127) HT_ ?_;refine zP 7 32 (bz 30 255) HT_ ?_;refine zP 8 33 (bz 30 511) HT_ ?_;refine zP 10 35 (bz 30 1535) HT_ ?_;refine zP 13 38 (bz 30 9727) HT_ ?_;refine zQ 9 34 (bz 30 10239) HT_ HW_ hHeld ?_;refine zQ 11 36 (bz 30 12287) HT_ HW_ hHeld ?_;refine zQ 12 37 (bz 30 16383) HT_ HW_ hHeld ?_;refine zQ 14 39 (bz 30 32767) HT_ HW_ hHeld ?_;refine one_ (i:=15) (N:=some 40) (bz 30 65535) rfl rfl (one_of HT_.out zK) (by decide) (fun K hK=>?_);refine goes_ Try.func27 zK rfl #[.agg #[.int .i64 a3_0,.int .i64 a3_1],.int .i64 ((rd_T55 l1_0 a2).f0),.int .i64 0] (by rfl) rfl rfl zM ?_
    with_reducible refine (solve_choices_with.calls a3_0 a3_1 ((rd_T55 l1_0 a2).f0) 0 t52 t60 _ A26.out).mono ?_
    rintro e w39 ⟨rfl,hb⟩;refine ⟨_,rfl,?_⟩;replace BK45:=zw BK45 hb;replace BK44:=zw BK44 hb;replace BK43:=zw BK43 hb;replace HB:=zu hb;(try clear hb);(try clear hb2);(try clear hk);(try clear hi);refine hK.out _ _ ⟨zc0 BK44,zc1 BK44,zc0 BK43,zc1 BK43,zc2 BK43,zc3 BK43,zc0 BK45⟩ (fun hHeld=>?_);clear hK K;refine norm_ (a':=?_) ?_ ?_;rotate_left
    ·show Act.put _ (some 40) _=_
     simp only [Act.put,zi,zs,zt,i64_w,i32_w];rfl
    refine one_ (i:=16) (N:=some 41) (bz 30 131071) rfl rfl (one_of HT_.out zK) (by decide) (fun K hK=>?_);refine goes_ Try.func22 zK rfl #[.slice A0 l0.length c0,.agg #[.slice (some ad49) l1_0.length c1_0],.int .i64 ((rd_T55 l1_0 a2).f1),.agg #[.int .i64 t52,.int .i64 t60]] (by rfl) rfl rfl zM ?_
    with_reducible refine (ih k (by omega) _ _ l0 _ _ l1_0 ((rd_T55 l1_0 a2).f1) t52 t60 false _ ?side1 ?side2 ?side3 ?side4 A27.out).mono ?_
    (case side1=>exact zC (Kd.C_below HR0.out HB.out));(case side2=>exact HC0.out);(case side3=>exact zC (Kd.C_below HR1_0.out HB.out));(case side4=>exact HC1_0.out);rintro e w40 ⟨rfl,hb⟩;refine ⟨_,rfl,?_⟩;replace BK45:=zw BK45 hb;replace BK44:=zw BK44 hb;replace BK43:=zw BK43 hb;replace HB:=zu hb;(try clear hb);(try clear hb2);(try clear hk);(try clear hi);refine hK.out _ _ ⟨zc0 BK44,zc1 BK44,zc0 BK43,zc1 BK43,zc2 BK43,zc3 BK43,zc0 BK45⟩ (fun hHeld=>?_);clear hK K;refine norm_ (a':=?_) ?_ ?_;rotate_left
    ·show Act.put _ (some 41) _=_
     simp only [Act.put,zi,zs,zt,i64_w,i32_w];rfl
    refine zP 17 42 (bz 30 262143) HT_ ?_;refine zP 18 43 (bz 30 524287) HT_ ?_;refine zU 19 44 (bz 30 1048575) HT_ ?_;refine zU 20 45 (bz 30 2097151) HT_ ?_;refine zU 21 46 (bz 30 4194303) HT_ ?_;refine zU 22 47 (bz 30 8388607) HT_ ?_;refine zU 23 48 (bz 30 16777215) HT_ ?_;refine zU 24 49 (bz 30 33554431) HT_ ?_;refine zU 25 50 (bz 30 67108863) HT_ ?_;refine zU 26 51 (bz 30 134217727) HT_ ?_;refine zU 27 52 (bz 30 268435455) HT_ ?_;refine zP 28 53 (bz 30 536870911) HT_ ?_;refine zP 29 8 (bz 30 1073741823) HT_ ?_;refine done_ (done_of HT_.out zK) ?_
    try go_wp2
    go_ret
    exact ⟨by first|rfl|(simp [errW_none,errW_some] <;> rfl)|(simp only [← hji24];first|rfl|(simp [errW_none,errW_some] <;> rfl))|(simp [*,errW_none,errW_some] <;> rfl),zv3 HB GE45 GE44 GE43⟩
  ·obtain rfl:=Option.some.inj H
   try go_wp2
   have n0_:Aside0 (((((w12.setCell ⟨gb43,0,none⟩ (.int .i64 ((rd_T55 l1_0 a2).f0))).setCell ⟨gb43,1,none⟩ (.int .i64 ((rd_T55 l1_0 a2).f1))).setCell ⟨gb43,2,none⟩ (.int .i64 ((rd_T55 l1_0 a2).f2))).setCell ⟨gb43,3,none⟩ (.int .i64 ((rd_T55 l1_0 a2).f3))).heap[gb45]?=some (.cells #[.slice (some ad49) l1_0.length c1_0] 25 (0,0))):=⟨by refine zj ?_;refine blk_far ?_ NB45_43.out _;refine zj ?_;refine blk_far ?_ NB45_43.out _;refine zj ?_;refine blk_far ?_ NB45_43.out _;refine zj ?_;refine blk_far ?_ NB45_43.out _;refine zj ?_;exact BK45.out⟩
   have n1_:Aside0 (((((w12.setCell ⟨gb43,0,none⟩ (.int .i64 ((rd_T55 l1_0 a2).f0))).setCell ⟨gb43,1,none⟩ (.int .i64 ((rd_T55 l1_0 a2).f1))).setCell ⟨gb43,2,none⟩ (.int .i64 ((rd_T55 l1_0 a2).f2))).setCell ⟨gb43,3,none⟩ (.int .i64 ((rd_T55 l1_0 a2).f3))).heap[gb44]?=some (.cells #[.int .i64 a3_0,.int .i64 a3_1] 48 (0,0))):=⟨by refine zj ?_;refine blk_far ?_ NB44_43.out _;refine zj ?_;refine blk_far ?_ NB44_43.out _;refine zj ?_;refine blk_far ?_ NB44_43.out _;refine zj ?_;refine blk_far ?_ NB44_43.out _;refine zj ?_;exact BK44.out⟩
   have n2_:Aside0 (((((w12.setCell ⟨gb43,0,none⟩ (.int .i64 ((rd_T55 l1_0 a2).f0))).setCell ⟨gb43,1,none⟩ (.int .i64 ((rd_T55 l1_0 a2).f1))).setCell ⟨gb43,2,none⟩ (.int .i64 ((rd_T55 l1_0 a2).f2))).setCell ⟨gb43,3,none⟩ (.int .i64 ((rd_T55 l1_0 a2).f3))).heap[gb43]?=some (.cells #[.int .i64 ((rd_T55 l1_0 a2).f0),.int .i64 ((rd_T55 l1_0 a2).f1),.int .i64 ((rd_T55 l1_0 a2).f2),.int .i64 ((rd_T55 l1_0 a2).f3)] 55 (0,0))):=⟨by refine zj ?_;refine blk_put (cs:=#[.int .i64 ((rd_T55 l1_0 a2).f0),.int .i64 ((rd_T55 l1_0 a2).f1),.int .i64 ((rd_T55 l1_0 a2).f2),.int .i64 0]) ?_ 3 _ rfl;refine zj ?_;refine blk_put (cs:=#[.int .i64 ((rd_T55 l1_0 a2).f0),.int .i64 ((rd_T55 l1_0 a2).f1),.int .i64 0,.int .i64 0]) ?_ 2 _ rfl;refine zj ?_;refine blk_put (cs:=#[.int .i64 ((rd_T55 l1_0 a2).f0),.int .i64 0,.int .i64 0,.int .i64 0]) ?_ 1 _ rfl;refine zj ?_;refine blk_put (cs:=#[.int .i64 0,.int .i64 0,.int .i64 0,.int .i64 0]) ?_ 0 _ rfl;refine zj ?_;exact BK43.out⟩
   have n3_:Aside0 (Below w.heap.size w ((((w12.setCell ⟨gb43,0,none⟩ (.int .i64 ((rd_T55 l1_0 a2).f0))).setCell ⟨gb43,1,none⟩ (.int .i64 ((rd_T55 l1_0 a2).f1))).setCell ⟨gb43,2,none⟩ (.int .i64 ((rd_T55 l1_0 a2).f2))).setCell ⟨gb43,3,none⟩ (.int .i64 ((rd_T55 l1_0 a2).f3)))):=⟨zv3 HB GE45 GE44 GE43⟩
   (try clear BK45);(try clear BK44);(try clear BK43);(try clear HB)
   generalize ((((w12.setCell ⟨gb43,0,none⟩ (.int .i64 ((rd_T55 l1_0 a2).f0))).setCell ⟨gb43,1,none⟩ (.int .i64 ((rd_T55 l1_0 a2).f1))).setCell ⟨gb43,2,none⟩ (.int .i64 ((rd_T55 l1_0 a2).f2))).setCell ⟨gb43,3,none⟩ (.int .i64 ((rd_T55 l1_0 a2).f3)))=w41 at n0_ n1_ n2_ n3_ ⊢
   have BK45:=n0_;have BK44:=n1_;have BK43:=n2_;have HB:=n3_;clear n0_ n1_ n2_ n3_;replace BK45:=zA (blk_drew BK45.out);replace BK44:=zA (blk_drew BK44.out);replace BK43:=zA (blk_drew BK43.out);replace HB:=zA (below_drew1 HB.out);refine start_ (n:=30) (S:=fun w'=>w'.cell? ⟨gb44,0,none⟩=some (.int .i64 a3_0)∧w'.cell? ⟨gb44,1,none⟩=some (.int .i64 a3_1)∧w'.cell? ⟨gb43,0,none⟩=some (.int .i64 ((rd_T55 l1_0 a2).f0))∧w'.cell? ⟨gb43,1,none⟩=some (.int .i64 ((rd_T55 l1_0 a2).f1))∧w'.cell? ⟨gb43,2,none⟩=some (.int .i64 ((rd_T55 l1_0 a2).f2))∧w'.cell? ⟨gb43,3,none⟩=some (.int .i64 ((rd_T55 l1_0 a2).f3))) (ds:=[]) (bz 30 0) zK rfl rfl ⟨zc0 BK44,zc1 BK44,zc0 BK43,zc1 BK43,zc2 BK43,zc3 BK43⟩ (fun hHeld=>?_);refine with_tabW solve_right.tab4 solve_right.bits4 (fun HT_ HW_=>?_)
   generalize w41.drew=w42 at BK45 BK44 BK43 HB hHeld ⊢
   refine zP 0 25 (bz 30 1) HT_ ?_;refine zP 2 27 (bz 30 5) HT_ ?_;refine zQ 1 26 (bz 30 7) HT_ HW_ hHeld ?_;refine zQ 3 28 (bz 30 15) HT_ HW_ hHeld ?_;refine zP 4 29 (bz 30 31) HT_ ?_;refine zP 5 30 (bz 30 63) HT_ ?_;refine zP 6 31 (bz 30 127) HT_ ?_;refine zP 7 32 (bz 30 255) HT_ ?_;refine zU 8 33 (bz 30 511) HT_ ?_;refine zU 9 34 (bz 30 1023) HT_ ?_;refine zU 10 35 (bz 30 2047) HT_ ?_;refine zU 11 36 (bz 30 4095) HT_ ?_;refine zU 12 37 (bz 30 8191) HT_ ?_;refine zU 13 38 (bz 30 16383) HT_ ?_;refine zU 14 39 (bz 30 32767) HT_ ?_;refine zU 15 40 (bz 30 65535) HT_ ?_;refine zU 16 41 (bz 30 131071) HT_ ?_;refine zP 17 42 (bz 30 262143) HT_ ?_;refine zP 18 43 (bz 30 524287) HT_ ?_;refine zU 19 44 (bz 30 1048575) HT_ ?_;refine zU 20 45 (bz 30 2097151) HT_ ?_;refine zU 21 46 (bz 30 4194303) HT_ ?_;refine zU 22 47 (bz 30 8388607) HT_ ?_;refine zU 23 48 (bz 30 16777215) HT_ ?_;refine zU 24 49 (bz 30 33554431) HT_ ?_;refine zU 25 50 (bz 30 67108863) HT_ ?_;refine zU 26 51 (bz 30 134217727) HT_ ?_;refine zU 27 52 (bz 30 268435455) HT_ ?_;refine zP 28 53 (bz 30 536870911) HT_ ?_;refine zP 29 8 (bz 30 1073741823) HT_ ?_;refine done_ (done_of HT_.out zK) ?_
   try go_wp2
   go_ret
   exact ⟨by first|rfl|(simp [errW_none,errW_some] <;> rfl)|(simp only [← hji24];first|rfl|(simp [errW_none,errW_some] <;> rfl))|(simp [*,errW_none,errW_some] <;> rfl),zv3 HB GE45 GE44 GE43⟩
def solve_Check.f (k:Nat) (l0:List (S35)) (l1_0:List (S55)):Option (Bool):=(solve_valid.f k l0).bind fun t58=>(if t58=0 then ((solve_shape.f k l0 l1_0).bind fun t63=>(if t63=true then ((solve_right.f k l0 l1_0 0 0 0).bind fun t59=>(some t59)) else (some false))) else (some false))
set_option maxHeartbeats 8000000 in
set_option maxRecDepth 100000 in
theorem solve_Check.calls (k:Nat) (A0:Option Addr) (c0:Nat) (l0:List (S35)) (A1_0:Option Addr) (c1_0:Nat) (l1_0:List (S55)) (r:Bool) (w:World) (hr0:Kd.C k35 w A0 l0.length l0) (hc0:l0.length≤c0) (hr1_0:Kd.C k55 w A1_0 l1_0.length l1_0) (hc1_0:l1_0.length≤c1_0) (h:solve_Check.f k l0 l1_0=some r) :
  Calls Try.prog 9 #[.slice A0 l0.length c0,.agg #[.slice A1_0 l1_0.length c1_0]] w fun e w'=>e=.returned (.bool r)∧Below w.heap.size w w':=by
 have HR0:=zA hr0;have HC0:=zA hc0;clear hr0 hc0;have HR1_0:=zA hr1_0;have HC1_0:=zA hc1_0;clear hr1_0 hc1_0;have HB:=zA (Below.refl w.heap.size w);have H:((solve_valid.f k l0).bind fun t58=>(if t58=0 then ((solve_shape.f k l0 l1_0).bind fun t63=>(if t63=true then ((solve_right.f k l0 l1_0 0 0 0).bind fun t59=>(some t59)) else (some false))) else (some false)))=some r:=h;clear h;have HC3:=zA H;clear H
 go_enter Try.func9,Try.ntmps9
 go_upto_region 1 with (first|((with_reducible refine gd 3 rfl ?_);refine zx #[.slice A1_0 l1_0.length c1_0] 25 ?_;intro gb50 hg w4 BK50 hb GW50 HB1;have GE50:=GW50;clear HB hb hg;have HB:=HB1;clear HB1))
 (try simp only [Act.put,zi,zs,zt]);have H:=HC3.out;clear HC3;obtain ⟨t58,A5,H⟩:=zo H
 rcases ife H with ⟨c6b0,c6b1,H⟩|⟨c6,c6b0,c6b1,H⟩
 ·(first|rw [c6b0]|(simp only [i64_w,i32_w];rw [c6b0])|skip)
  (try rw [c6b1]);obtain ⟨t63,A7,H⟩:=zo H
  by_cases c8:t63=true
  ·subst c8
   have H1:((solve_right.f k l0 l1_0 0 0 0).bind fun t59=>(some t59))=some r:=by rw [if_pos rfl] at H;exact H
   clear H;have H:=H1;clear H1;obtain ⟨t59,A9,H⟩:=zo H;obtain rfl:=Option.some.inj H
   go_wp2_with (first|((with_reducible refine gate_callee (f:=15) rfl ?_);refine zgo 6 Try.func15 #[.slice A0 l0.length c0] ?_;(with_reducible refine (solve_valid.calls k _ _ l0 t58 _ (zD HR0 HB) HC0.out A5.out).mono ?_);rintro e w10 ⟨rfl,hb⟩;refine ⟨_,rfl,?_⟩;replace BK50:=zw BK50 hb;replace HB:=zu hb;clear hb;have hcz11_0:=zc0 BK50;have hfz11_0:=zf BK50 0)|(go_at_call 21;(with_reducible refine (solve_shape.calls k _ _ l0 _ _ l1_0 true _ (zD HR0 HB) HC0.out (zD HR1_0 HB) HC1_0.out A7.out).mono ?_);rintro e w12 ⟨rfl,hb⟩;replace BK50:=zw BK50 hb;replace HB:=zu hb;clear hb;have hcz13_0:=zc0 BK50;have hfz13_0:=zf BK50 0)|(go_at_call 22;(with_reducible refine (solve_right.calls k _ _ l0 _ _ l1_0 0 0 0 t59 _ (zD HR0 HB) HC0.out (zD HR1_0 HB) HC1_0.out A9.out).mono ?_);rintro e w14 ⟨rfl,hb⟩;replace BK50:=zw BK50 hb;replace HB:=zu hb;clear hb))
   go_ret
   exact ⟨ze,zv1 HB GE50⟩
  ·replace c8:=Bool.eq_false_iff.mpr c8;subst c8
   have H1:(some false)=some r:=by rw [if_neg (show ¬ (false=true) by decide)] at H;exact H
   clear H;have H:=H1;clear H1;obtain rfl:=Option.some.inj H
   go_wp2_with (first|((with_reducible refine gate_callee (f:=15) rfl ?_);refine zgo 6 Try.func15 #[.slice A0 l0.length c0] ?_;(with_reducible refine (solve_valid.calls k _ _ l0 t58 _ (zD HR0 HB) HC0.out A5.out).mono ?_);rintro e w15 ⟨rfl,hb⟩;refine ⟨_,rfl,?_⟩;replace BK50:=zw BK50 hb;replace HB:=zu hb;clear hb;have hcz16_0:=zc0 BK50;have hfz16_0:=zf BK50 0)|(go_at_call 21;(with_reducible refine (solve_shape.calls k _ _ l0 _ _ l1_0 false _ (zD HR0 HB) HC0.out (zD HR1_0 HB) HC1_0.out A7.out).mono ?_);rintro e w17 ⟨rfl,hb⟩;replace BK50:=zw BK50 hb;replace HB:=zu hb;clear hb))
   go_ret
   exact ⟨ze,zv1 HB GE50⟩
 ·(first|rw [c6b0]|(simp only [i64_w,i32_w];rw [c6b0])|skip)
  (try rw [c6b1]);obtain rfl:=Option.some.inj H
  go_wp2_with (first|((with_reducible refine gate_callee (f:=15) rfl ?_);refine zgo 6 Try.func15 #[.slice A0 l0.length c0] ?_;(with_reducible refine (solve_valid.calls k _ _ l0 t58 _ (zD HR0 HB) HC0.out A5.out).mono ?_);rintro e w18 ⟨rfl,hb⟩;refine ⟨_,rfl,?_⟩;replace BK50:=zw BK50 hb;replace HB:=zu hb;clear hb))
  go_ret
  exact ⟨ze,zv1 HB GE50⟩
section
open Go.Sort Go.Shelf
def slices_Sort_int_int.f (l0:List Int):Option (List Int):=if l0.length<4611686018427387904 then some (l0.mergeSort fun x y=>decide (x≤y)) else none
theorem slices_Sort_int_int.calls (P0_:Nat→Prop) (u56_:Value) (l0:List Int) (r:List Int) (w0 w:World) (hB:Below w0.heap.size w0 w) (ho0:Kd.R (Kd.int .i64) 3 w w0.heap.size P0_ u56_ l0) (h:slices_Sort_int_int.f l0=some r) :
 Calls Try.prog 36 #[u56_] w fun e w'=>e=.returned (.tuple #[])∧Kd.R (Kd.int .i64) 3 w' w0.heap.size (fun k_=>(P0_ k_∨w.heap.size≤k_)) u56_ r∧Below w0.heap.size w0 w'∧Kept w w' (fun k_=>P0_ k_):=by
 unfold slices_Sort_int_int.f at h
 by_cases hsz:l0.length<4611686018427387904
 case neg=>rw [if_neg hsz] at h;exact absurd h (by simp)
 rw [if_pos hsz] at h;obtain rfl:=Option.some.inj h;obtain ⟨A,c,rfl⟩:=Kd.R_slice ho0
 rcases A with _|ad
 ·have hl:l0=[]:=by
   rcases l0 with _|⟨x,xs⟩
   ·rfl
   ·have ho:=Kd.own_of_R (enc:=Value.int .i64) (h1:=fun _=>rfl) ho0
    rcases ho.2 with ⟨_,h0⟩|⟨_,_,_,h0,_⟩
    ·simp at h0
    ·simp at h0
  subst hl;refine (Any.slices_Sort_int_none laysSort none c w).mono ?_;rintro e w' ⟨rfl,rfl⟩;exact ⟨rfl,by rw [List.mergeSort_nil];exact Kd.R_mono ho0 (fun k hk=>.inl hk),hB,Kept.refl _ _⟩
 ·have had:∃ g,ad=⟨g,0,none⟩:=by
   have ho:=Kd.own_of_R (enc:=Value.int .i64) (h1:=fun _=>rfl) ho0
   rcases ho.2 with ⟨h0,_⟩|⟨g,_,_,h0,_⟩
   ·simp at h0
   ·injection h0 with h0;injection h0 with h0;exact ⟨g,h0⟩
  obtain ⟨g,rfl⟩:=had;obtain ⟨h1,h2,h3,h4,h5,h6,h7⟩:=int_row ho0;refine (Any.slices_Sort_int laysSort g 0 c l0 w h7 h3 hsz).mono ?_;rintro e w' ⟨rfl,n,os,rfl⟩;have hl:(l0.mergeSort fun x y=>decide (x≤y)).length=l0.length:=List.length_mergeSort l0;have hr:=int_row_put (ok':=fun k_=>(P0_ k_∨w.heap.size≤k_)) ho0 n os hl (Nat.le_refl _) (.inl h1);rw [List.take_of_length_le (by omega)] at hr;exact ⟨rfl,hr,put_below hB h2 n os _,put_kept (ok:=fun k_=>P0_ k_) n os _ h1⟩
end
section
open Go.Sort Go.Shelf
def slices_Compact_int_int.f (l0:List Int):Option (List Int):=some (Lib.compact l0)
theorem slices_Compact_int_int.calls (P0_:Nat→Prop) (u56_:Value) (l0:List Int) (r:List Int) (w0 w:World) (hB:Below w0.heap.size w0 w) (ho0:Kd.R (Kd.int .i64) 3 w w0.heap.size P0_ u56_ l0) (h:slices_Compact_int_int.f l0=some r) :
 Calls Try.prog 37 #[u56_] w fun e w'=>∃ v0_:Value,e=.returned (v0_)∧Kd.R (Kd.int .i64) 3 w' w0.heap.size (fun k_=>(P0_ k_∨w.heap.size≤k_)) v0_ r∧Below w0.heap.size w0 w'∧Kept w w' (fun k_=>P0_ k_):=by
 obtain rfl:=Option.some.inj h;obtain ⟨A,c,rfl⟩:=Kd.R_slice ho0
 rcases A with _|ad
 ·have hl:l0=[]:=by
   rcases l0 with _|⟨x,xs⟩
   ·rfl
   ·have ho:=Kd.own_of_R (enc:=Value.int .i64) (h1:=fun _=>rfl) ho0
    rcases ho.2 with ⟨_,h0⟩|⟨_,_,_,h0,_⟩
    ·simp at h0
    ·simp at h0
  subst hl;refine (Any.slices_Compact_int_empty laysCompact none c w).mono ?_;rintro e w' ⟨rfl,rfl⟩;exact ⟨_,rfl,Kd.R_mono ho0 (fun k hk=>.inl hk),hB,Kept.refl _ _⟩
 ·have had:∃ g,ad=⟨g,0,none⟩:=by
   have ho:=Kd.own_of_R (enc:=Value.int .i64) (h1:=fun _=>rfl) ho0
   rcases ho.2 with ⟨h0,_⟩|⟨g,_,_,h0,_⟩
   ·simp at h0
   ·injection h0 with h0;injection h0 with h0;exact ⟨g,h0⟩
  obtain ⟨g,rfl⟩:=had;obtain ⟨h1,h2,h3,h4,h5,h6,h7⟩:=int_row ho0;have hle:=Lib.compact_length_le l0;refine (Any.slices_Compact_int laysCompact g 0 c l0 w h7 (by unfold maxLen at h6;omega) h5).mono ?_;rintro e w' ⟨rfl,q,rfl⟩;have hr:=int_row_put (ok':=fun k_=>(P0_ k_∨w.heap.size≤k_)) (ys:=Lib.compact l0++List.replicate (l0.length - (Lib.compact l0).length) 0) ho0 q #[] (by simp;omega) hle (.inl h1);rw [List.take_left,grow_empty] at hr;have hb:=put_below hB h2 q #[] (Lib.compact l0++List.replicate (l0.length - (Lib.compact l0).length) 0).toArray;have hk:=put_kept (ok:=fun k_=>P0_ k_) (w:=w) q #[] (Lib.compact l0++List.replicate (l0.length - (Lib.compact l0).length) 0).toArray h1;rw [grow_empty] at hb hk;exact ⟨_,rfl,hr,hb,hk⟩
end
def solve_occurring.l0:Nat→List Int→List (S35)→Int→Int→Option (List Int)
 | 0,_,_,_,_=>none
 | k+1,x3,x6,x7,x8=>if x8<x7 then (if 0≤x8 then (if x8<(x6.length:Int) then (if x3.length+((rd_T35 x6 x8).f0).length<17592186044416 then (solve_occurring.l0 k (x3++((rd_T35 x6 x8).f0)) x6 x7 (wrap64 (x8+1))) else (none)) else (none)) else (none)) else ((slices_Sort_int_int.f x3).bind fun t65=>((slices_Compact_int_int.f t65).bind fun t67=>(some t67)))
def solve_occurring.f (k:Nat) (l0:List (S35)):Option (List Int):=solve_occurring.l0 k ([]:List Int) l0 (l0.length:Int) 0
set_option maxHeartbeats 8000000 in
set_option maxRecDepth 100000 in
theorem solve_occurring.calls (k:Nat) (A0:Option Addr) (c0:Nat) (l0:List (S35)) (r:List Int) (w:World) (hr0:Kd.C k35 w A0 l0.length l0) (hc0:l0.length≤c0) (h:solve_occurring.f k l0=some r) :
  Calls Try.prog 23 #[.slice A0 l0.length c0] w fun e w'=>∃ v0_:Value,e=.returned (v0_)∧Kd.R (Kd.int .i64) 3 w' w.heap.size (fun _=>True) v0_ r∧Below w.heap.size w w':=by
 have HR0:=zA hr0;have HC0:=zA hc0;clear hr0 hc0;have HB:=zA (Below.refl w.heap.size w);have H:(solve_occurring.l0 k ([]:List Int) l0 (l0.length:Int) 0)=some r:=h;clear h;have H':=zA H;clear H
 go_enter Try.func23,Try.ntmps23
 go_wp2
 go_loopg [3,8] k (fun kq v3 v8 w'=>∃ (x3_1:List Int) (x8_1:Int),v8=.int .i64 x8_1∧Aside0 (solve_occurring.l0 kq x3_1 l0 (l0.length:Int) x8_1=some r)∧Aside0 (kq≤k)∧Aside0 (Kd.R (Kd.int .i64) 3 w' w.heap.size (fun _=>True) v3 x3_1)∧Aside0 (Below w.heap.size w w'))
 case atStart=>exact ⟨(([]:List Int)),(0),zT,H',⟨Nat.le_refl _⟩,⟨by first|exact Kd.R_nil _ _ _ _ _|exact Kd.N_nil _ _ _ _ _|exact Kd.V_nil _ _ _ _ _|exact Kd.Q_nil _ _ _ _ _|exact Kd.S_nil _ _ _ _ _⟩,⟨zv0 HB⟩⟩
 case round=>
  clear H';obtain ⟨x3_1,x8_1,rfl,HA,HK1,HO_3,HB⟩:=hrel
  cases gk with
  | zero=>exact absurd HA.out (by simp [solve_occurring.l0])
  | succ k1=>
   have H:=HA.out;clear HA;simp only [solve_occurring.l0] at H
   rcases ifd H with ⟨c2b0,H⟩|⟨c2b0,H⟩
   ·obtain ⟨c3b0,H⟩:=ifd1 H;obtain ⟨c4b0,H⟩:=ifd1 H;obtain ⟨c5,H⟩:=if1 H;have LMc5:=zA c5;clear c5
    first|(replace H:=zyb (x3_1++((rd_T35 l0 x8_1).f0)) H;obtain ⟨y54,Ny54,H⟩:=H)|(obtain ⟨y54,hy54⟩:=zY (x3_1++((rd_T35 l0 x8_1).f0));(try rw (occs:=.pos [1]) [← hy54] at H);have Ny54:=zA hy54;clear hy54)
    have H':=zA H;clear H;obtain ⟨p47,q47,ad47,A47_0,c47_0,A47_1,c47_1,e47,hx47_0,hx47_1,hl47_0,hi47_0,hl47_1,hi47_1⟩:=zp (at_T35 HR0.out x8_1)
    cases e47
    replace hx47_0:=zd HB hx47_0;replace hx47_1:=zd HB hx47_1;have HR47_0:=zA hi47_0;have HC47_0:=zA hl47_0;clear hi47_0 hl47_0;have HR47_1:=zA hi47_1;have HC47_1:=zA hl47_1;clear hi47_1 hl47_1;replace p47:=eq_true p47;replace q47:=eq_true q47
    go_wp2_with (first|((with_reducible refine gd 5 rfl ?_);refine zx #[.slice none 0 0,.slice none 0 0] 35 ?_;intro gb51 hg w6 BK51 hb GW51 HB1;have GE51:=GW51;replace HO_3:=zA (Kd.R_below (zR HO_3) hb);clear HB hb hg;have HB:=HB1;clear HB1;have hcz7_0:=zc0 BK51;have hcz7_1:=zc1 BK51;have hfz7_0:=zf BK51)|((with_reducible refine gate_builtin (b:=.append) (xs:=#[.tmp 12,.tmp 14]) rfl ?_);at_builtin;refine Kd.R_append_rows (Kd.int .i64) (w0:=w) w.heap.size rfl (.tmp 12) (.tmp 14) 33 3 (.int .i64 0) 8 rfl Try.underlying33 info3 rfl (by decide) (by omega) u3 x3_1 ((rd_T35 l0 x8_1).f0) _ _ _ (fun _=>True) (fun _=>False) rfl rfl ?aO ?aR (fun _ _ h=>h) (fun _ h=>h.elim) ?aF ?aB ?aS ?aL ?_;(case aR=>exact Kd.C_below HR47_0.out zB);(case aB=>exact zB);(case aF=>exact (fun _ _=>trivial));(case aO=>exact (by refine zr ?_;exact Kd.R_mono (Kd.R_far (p:=⟨gb51,1,none⟩) (Kd.R_far (p:=⟨gb51,0,none⟩) (Kd.R_types HO_3.out BK51.out (by decide)) (fun _ hk=>hk.2) (.slice A47_0 ((rd_T35 l0 x8_1).f0).length c47_0)) (fun _ hk=>hk.2) (.slice A47_1 ((rd_T35 l0 x8_1).f1).length c47_1)) (fun _ hk=>trivial)));(case aS=>exact (below_size zB));(case aL=>have:=LMc5.out;omega);intro v70 w8 ho hb hg hat;rw [← Ny54.out] at ho;have HO68:=zA (ho);replace BK51:=zA (blk_grown (g:=gb51) (o:=.cells #[.slice A47_0 ((rd_T35 l0 x8_1).f0).length c47_0,.slice A47_1 ((rd_T35 l0 x8_1).f1).length c47_1] 35 (0,0)) (by refine zj ?_;refine blk_put (cs:=#[.slice A47_0 ((rd_T35 l0 x8_1).f0).length c47_0,.slice none 0 0]) ?_ 1 _ rfl;refine zj ?_;refine blk_put (cs:=#[.slice none 0 0,.slice none 0 0]) ?_ 0 _ rfl;refine zj ?_;exact BK51.out) hg (Kd.R_ne HO_3.out BK51.out (by decide)));replace HB:=zA (hb);clear HO_3;clear ho hb hg hat))
    go_roundg k1
    case measure=>have:=HK1.out;omega
    case rel=>exact ⟨(y54),(wrap64 (x8_1+1)),zT,H',⟨by have:=HK1.out;omega⟩,⟨by refine zr ?_;exact HO68.out⟩,⟨zv1 HB GE51⟩⟩
   ·obtain ⟨t65,A9,H⟩:=zo H;obtain ⟨t67,A10,H⟩:=zo H;obtain rfl:=Option.some.inj H;obtain ⟨Ao11,co11,eo11⟩:=Kd.R_slice HO_3.out;subst eo11
    go_wp2_with (first|((with_reducible refine gate_callee (f:=36) rfl ?_);refine zgo 18 Try.func36 #[.slice Ao11 x3_1.length co11] ?_;(with_reducible refine (slices_Sort_int_int.calls (fun k_=>some k_=(.slice Ao11 x3_1.length co11:Value).ownBlock) (.slice Ao11 x3_1.length co11) x3_1 t65 w _ ?side1 ?side2 A9.out).mono ?_);(case side1=>repeat (first|(with_reducible first|exact HB.out|apply below_alloc|apply pw_below_drewN|apply below_drew1)|exact HB.out));(case side2=>exact Kd.R_tight rfl HO_3.out);rintro e w12 ⟨rfl,hy0,hb,hkp⟩;refine ⟨_,rfl,?_⟩;replace HO_3:=zA (Kd.R_reok rfl hy0 (fun k_ e_=>HO_3.out.1 k_ e_));replace HB:=zA (hb);(try clear hb);(try clear hkp);(try clear hy0))|((with_reducible refine gate_callee (f:=37) rfl ?_);refine zgo 20 Try.func37 #[.slice Ao11 x3_1.length co11] ?_;(with_reducible refine (slices_Compact_int_int.calls (fun k_=>some k_=(.slice Ao11 x3_1.length co11:Value).ownBlock) (.slice Ao11 x3_1.length co11) t65 t67 w _ ?side1 ?side2 A10.out).mono ?_);(case side1=>repeat (first|(with_reducible first|exact HB.out|apply below_alloc|apply pw_below_drewN|apply below_drew1)|exact HB.out));(case side2=>exact Kd.R_tight rfl HO_3.out);rintro e w13 ⟨v71,rfl,ho0,hb,hkp⟩;refine ⟨_,rfl,?_⟩;have HO69:=zA (Kd.R_mono (ok':=fun k_=>True) ho0 (fun k_ hk_=>trivial));replace HB:=zA (hb);clear HO_3;(try clear hb);(try clear hkp);(try clear ho0)))
    go_ret
    exact ⟨_,ze,by refine zr ?_;exact HO69.out,zv0 HB⟩
end Go.Proofs.Ytkaalbbbpebpdaa.T
