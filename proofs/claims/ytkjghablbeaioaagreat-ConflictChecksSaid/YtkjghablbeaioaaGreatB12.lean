import Derived.Test.YtkjghablbeaioaaGreatB0
import Derived.Test.YtkjghablbeaioaaGreatB2
import Derived.Test.YtkjghablbeaioaaGreatB3
import Derived.Test.YtkjghablbeaioaaGreatB4
import Derived.Test.YtkjghablbeaioaaGreatB11
namespace Go.Proofs.YtkjghablbeaioaaGreat.B
open Go.RowKit Go.Proofs.YtkjghablbeaioaaGreatW.PrintWords Go.Proofs.YtkjghablbeaioaaGreatW.PrintLast Go.Proofs.YtkjghablbeaioaaGreatW.PrintMore
attribute [local go_sem] max2_int min2_int max_two min_two max_three min_three max_four min_four Tryz.underlying23 Tryz.underlying24 Tryz.underlying26 Tryz.underlying3 Tryz.underlying49 Tryz.underlying80 Tryz.underlying96
set_option linter.unusedVariables false
set_option linter.unusedSimpArgs false
def solve_right.f:Nat→List (S49)→List (S96)→Int→Int→Int→Option (Bool)
 | 0,_,_,_,_,_=>none
 | k+1,l0,l1_0,a2,a3_0,a3_1=>if 0≤a2 then (if a2<(l1_0.length:Int) then (if ((rd_T96 l1_0 a2).f0)<0 then (if 0≤((rd_T96 l1_0 a2).f3) then (if ((rd_T96 l1_0 a2).f3)<(l0.length:Int) then ((solve_choices_fails.f k a3_0 a3_1 ((rd_T49 l0 ((rd_T96 l1_0 a2).f3)).f0) ((rd_T49 l0 ((rd_T96 l1_0 a2).f3)).f1)).bind fun t59=>(some t59)) else (none)) else (none)) else (if 0≤((rd_T96 l1_0 a2).f0) then (if (Go.bits .and .i64 (shr .i64 a3_0 ((rd_T96 l1_0 a2).f0)) 1)=0 then ((solve_choices_with.f a3_0 a3_1 ((rd_T96 l1_0 a2).f0) 0).bind fun bt52=>((solve_right.f k l0 l1_0 ((rd_T96 l1_0 a2).f1) bt52.1 bt52.2).bind fun t60=>(if t60=true then ((solve_choices_with.f a3_0 a3_1 ((rd_T96 l1_0 a2).f0) 1).bind fun bt53=>((solve_right.f k l0 l1_0 ((rd_T96 l1_0 a2).f2) bt53.1 bt53.2).bind fun t54=>(some t54))) else (some false)))) else (some false)) else (none))) else (none)) else (none)
theorem solve_right.mono_l:∀ k,(∀ y0 y1 y2 y3 y4,LeO (solve_right.f k y0 y1 y2 y3 y4) (solve_right.f (k+1) y0 y1 y2 y3 y4))
 | 0=>fun _ _ _ _ _ r h=>by simp [solve_right.f] at h
 | k+1=>by
  have ih0:=solve_right.mono_l k
  ·intro y0 y1 y2 y3 y4
   unfold solve_right.f
   repeat' first
   | (with_reducible exact ih0 _ _ _ _ _)
   | (with_reducible exact solve_choices_fails.mono _ _ _ _ _)
   | (with_reducible exact LeO.refl _)
   | (with_reducible exact LeO.none _)
   | (with_reducible refine LeO.ite ?_ ?_)
   | (with_reducible refine LeO.bind ?_ (fun _=>?_))
   | exact LeO.none _
   | refine LeO.ite ?_ ?_
   | refine LeO.bind ?_ (fun _=>?_)
theorem solve_right.mono:∀ a0 a1 a2 a3 a4 k,LeO (solve_right.f k a0 a1 a2 a3 a4) (solve_right.f (k+1) a0 a1 a2 a3 a4):=by
 intro a0 a1 a2 a3 a4 k;have ih0:=solve_right.mono_l k;exact ih0 a0 a1 a2 a3 a4
def solve_right.T3:Bool×List (List Nat×List Nat):=(true,[([],[]),([],[]),([],[]),([2],[2]),([1,3],[1,3]),([4],[4]),([0,5],[0,5]),([6,6,0,1,2,3,4,5,6],[6])])
def solve_right.B3:List Nat:=[0,0,0,4,14,30,63,127]
theorem solve_right.tab3:rtab .any (opsOf Tryz.f68 3)=solve_right.T3:=by kernel_rfl
theorem solve_right.bits3:waitsOk solve_right.T3.2 solve_right.B3=true:=by kernel_rfl
def solve_right.T4:Bool×List (List Nat×List Nat):=(true,[([],[]),([0],[0]),([],[]),([2],[2]),([1,3],[1,3]),([4],[4]),([5],[5]),([6],[6]),([7],[7]),([7],[7]),([7],[7]),([10,7],[7,10]),([7],[7]),([7],[7]),([13,7],[7,13]),([12,14,7,7],[7,12,14]),([8,9,11,15,15,7],[7,8,9,11,15]),([7,16],[7,16]),([17,16],[17]),([18],[18]),([18],[18]),([18],[18]),([21,18],[18,21]),([18],[18]),([18],[18]),([24,18],[18,24]),([23,25,18,18],[18,23,25]),([19,20,22,26,26,18],[18,19,20,22,26]),([18,27],[18,27]),([28,27,0,1,2,3,4,5,6,7,8,9,10,11,12,13,14,15,16,17,18,19,20,21,22,23,24,25,26,27,28],[28])])
def solve_right.B4:List Nat:=[0,1,0,4,15,31,63,127,255,255,255,1279,255,255,8447,28927,65535,131071,262143,524287,524287,524287,2621439,524287,524287,17301503,59244543,134217727,268435455,536870911]
theorem solve_right.tab4:rtab .any (opsOf Tryz.f68 4)=solve_right.T4:=by kernel_rfl
theorem solve_right.bits4:waitsOk solve_right.T4.2 solve_right.B4=true:=by kernel_rfl
set_option maxHeartbeats 8000000 in
set_option maxRecDepth 100000 in
theorem solve_right.calls (k:Nat):∀ (A0:Option Addr) (c0:Nat) (l0:List (S49)) (A1_0:Option Addr) (c1_0:Nat) (l1_0:List (S96)) (a2:Int) (a3_0:Int) (a3_1:Int) (r:Bool) (w:World) (hr0:Kd.C k49 w A0 l0.length l0) (hc0:l0.length≤c0) (hr1_0:Kd.C k96 w A1_0 l1_0.length l1_0) (hc1_0:l1_0.length≤c1_0) (h:solve_right.f k l0 l1_0 a2 a3_0 a3_1=some r),
  Calls Tryz.prog 68 #[.slice A0 l0.length c0,.agg #[.slice A1_0 l1_0.length c1_0],.int .i64 a2,.agg #[.int .i64 a3_0,.int .i64 a3_1]] w fun e w'=>e=.returned (.bool r)∧Below w.heap.size w w':=by
 induction k using Nat.strongRecOn with
 | _ k ih=>
 intro A0 c0 l0 A1_0 c1_0 l1_0 a2 a3_0 a3_1 r w hr0 hc0 hr1_0 hc1_0 h
 cases k with
 | zero=>exact absurd h (by simp [solve_right.f])
 | succ k=>
 simp only [solve_right.f] at h;have HR0:=zA hr0;have HC0:=zA hc0;clear hr0 hc0;have HR1_0:=zA hr1_0;have HC1_0:=zA hc1_0;clear hr1_0 hc1_0;have HB:=zA (Below.refl w.heap.size w);have H:(if 0≤a2 then (if a2<(l1_0.length:Int) then (if ((rd_T96 l1_0 a2).f0)<0 then (if 0≤((rd_T96 l1_0 a2).f3) then (if ((rd_T96 l1_0 a2).f3)<(l0.length:Int) then ((solve_choices_fails.f k a3_0 a3_1 ((rd_T49 l0 ((rd_T96 l1_0 a2).f3)).f0) ((rd_T49 l0 ((rd_T96 l1_0 a2).f3)).f1)).bind fun t59=>(some t59)) else (none)) else (none)) else (if 0≤((rd_T96 l1_0 a2).f0) then (if (Go.bits .and .i64 (shr .i64 a3_0 ((rd_T96 l1_0 a2).f0)) 1)=0 then ((solve_choices_with.f a3_0 a3_1 ((rd_T96 l1_0 a2).f0) 0).bind fun bt52=>((solve_right.f k l0 l1_0 ((rd_T96 l1_0 a2).f1) bt52.1 bt52.2).bind fun t60=>(if t60=true then ((solve_choices_with.f a3_0 a3_1 ((rd_T96 l1_0 a2).f0) 1).bind fun bt53=>((solve_right.f k l0 l1_0 ((rd_T96 l1_0 a2).f2) bt53.1 bt53.2).bind fun t54=>(some t54))) else (some false)))) else (some false)) else (none))) else (none)) else (none))=some r:=h;clear h;obtain ⟨c5b0,H⟩:=ifd1 H;obtain ⟨c6b0,H⟩:=ifd1 H;have HC7:=zA H;clear H
 go_enter Tryz.func68,Tryz.ntmps68
 go_upto_if 17 with (first|((with_reducible refine gd 5 rfl ?_);refine zx #[.slice A1_0 l1_0.length c1_0] 26 ?_;intro gb45 hg w8 BK45 hb GW45 HB1;have GE45:=GW45;clear HB hb hg;have HB:=HB1;clear HB1)|((with_reducible refine gd 7 rfl ?_);refine zx #[.int .i64 a3_0,.int .i64 a3_1] 80 ?_;intro gb44 hg w9 BK44 hb GW44 HB1;have GE44:=GW44;have NB45_44:=zL hg BK45;have NB44_45:=zLs NB45_44;replace BK45:=zw BK45 hb;clear HB hb hg;have HB:=HB1;clear HB1;have hnb10:=NB45_44.out;have hnc10:=NB44_45.out;have hcz11_0:=zc0 BK45;have hfz11_0:=zf BK45 0;obtain ⟨p47,q47,ad47,e47,hx47_0,hx47_1,hx47_2,hx47_3⟩:=zp (at_T96 HR1_0.out a2);cases e47;replace hx47_0:=zd HB hx47_0;replace hx47_1:=zd HB hx47_1;replace hx47_2:=zd HB hx47_2;replace hx47_3:=zd HB hx47_3;replace p47:=eq_true p47;replace q47:=eq_true q47)|((with_reducible refine gd 9 rfl ?_);refine zx #[.int .i64 0,.int .i64 0,.int .i64 0,.int .i64 0] 96 ?_;intro gb43 hg w12 BK43 hb GW43 HB1;have GE43:=GW43;have NB45_43:=zL hg BK45;have NB43_45:=zLs NB45_43;have NB44_43:=zL hg BK44;have NB43_44:=zLs NB44_43;replace BK45:=zw BK45 hb;replace BK44:=zw BK44 hb;clear HB hb hg;have HB:=HB1;clear HB1;have hnb13:=NB43_45.out;have hnc13:=NB45_43.out;have hnb14:=NB43_44.out;have hnc14:=NB44_43.out;have hcz15_0:=zc0 BK43;have hcz15_1:=zc1 BK43;have hcz15_2:=zc2 BK43;have hcz15_3:=zc3 BK43;have hfz15_0:=zf BK43))
 (try simp only [Act.put,zi,zs,zt]);have H:=HC7.out;clear HC7
 rcases ifd H with ⟨c16b0,H⟩|⟨c16b0,H⟩
 ·(first|rw [c16b0]|(simp only [i64_w,i32_w];rw [c16b0])|skip)
  obtain ⟨c17b0,H⟩:=ifd1 H;obtain ⟨c18b0,H⟩:=ifd1 H;obtain ⟨t59,A19,H⟩:=zo H;obtain rfl:=Option.some.inj H
  try go_wp2
  have n0_:Aside0 (((((w12.setCell ⟨gb43,0,none⟩ (.int .i64 ((rd_T96 l1_0 a2).f0))).setCell ⟨gb43,1,none⟩ (.int .i64 ((rd_T96 l1_0 a2).f1))).setCell ⟨gb43,2,none⟩ (.int .i64 ((rd_T96 l1_0 a2).f2))).setCell ⟨gb43,3,none⟩ (.int .i64 ((rd_T96 l1_0 a2).f3))).heap[gb45]?=some (.cells #[.slice (some ad47) l1_0.length c1_0] 26 (0,0))):=⟨by refine zj ?_;refine blk_far ?_ NB45_43.out _;refine zj ?_;refine blk_far ?_ NB45_43.out _;refine zj ?_;refine blk_far ?_ NB45_43.out _;refine zj ?_;refine blk_far ?_ NB45_43.out _;refine zj ?_;exact BK45.out⟩
  have n1_:Aside0 (((((w12.setCell ⟨gb43,0,none⟩ (.int .i64 ((rd_T96 l1_0 a2).f0))).setCell ⟨gb43,1,none⟩ (.int .i64 ((rd_T96 l1_0 a2).f1))).setCell ⟨gb43,2,none⟩ (.int .i64 ((rd_T96 l1_0 a2).f2))).setCell ⟨gb43,3,none⟩ (.int .i64 ((rd_T96 l1_0 a2).f3))).heap[gb44]?=some (.cells #[.int .i64 a3_0,.int .i64 a3_1] 80 (0,0))):=⟨by refine zj ?_;refine blk_far ?_ NB44_43.out _;refine zj ?_;refine blk_far ?_ NB44_43.out _;refine zj ?_;refine blk_far ?_ NB44_43.out _;refine zj ?_;refine blk_far ?_ NB44_43.out _;refine zj ?_;exact BK44.out⟩
  have n2_:Aside0 (((((w12.setCell ⟨gb43,0,none⟩ (.int .i64 ((rd_T96 l1_0 a2).f0))).setCell ⟨gb43,1,none⟩ (.int .i64 ((rd_T96 l1_0 a2).f1))).setCell ⟨gb43,2,none⟩ (.int .i64 ((rd_T96 l1_0 a2).f2))).setCell ⟨gb43,3,none⟩ (.int .i64 ((rd_T96 l1_0 a2).f3))).heap[gb43]?=some (.cells #[.int .i64 ((rd_T96 l1_0 a2).f0),.int .i64 ((rd_T96 l1_0 a2).f1),.int .i64 ((rd_T96 l1_0 a2).f2),.int .i64 ((rd_T96 l1_0 a2).f3)] 96 (0,0))):=⟨by refine zj ?_;refine blk_put (cs:=#[.int .i64 ((rd_T96 l1_0 a2).f0),.int .i64 ((rd_T96 l1_0 a2).f1),.int .i64 ((rd_T96 l1_0 a2).f2),.int .i64 0]) ?_ 3 _ rfl;refine zj ?_;refine blk_put (cs:=#[.int .i64 ((rd_T96 l1_0 a2).f0),.int .i64 ((rd_T96 l1_0 a2).f1),.int .i64 0,.int .i64 0]) ?_ 2 _ rfl;refine zj ?_;refine blk_put (cs:=#[.int .i64 ((rd_T96 l1_0 a2).f0),.int .i64 0,.int .i64 0,.int .i64 0]) ?_ 1 _ rfl;refine zj ?_;refine blk_put (cs:=#[.int .i64 0,.int .i64 0,.int .i64 0,.int .i64 0]) ?_ 0 _ rfl;refine zj ?_;exact BK43.out⟩
  have n3_:Aside0 (Below w.heap.size w ((((w12.setCell ⟨gb43,0,none⟩ (.int .i64 ((rd_T96 l1_0 a2).f0))).setCell ⟨gb43,1,none⟩ (.int .i64 ((rd_T96 l1_0 a2).f1))).setCell ⟨gb43,2,none⟩ (.int .i64 ((rd_T96 l1_0 a2).f2))).setCell ⟨gb43,3,none⟩ (.int .i64 ((rd_T96 l1_0 a2).f3)))):=⟨zv3 HB GE45 GE44 GE43⟩
  (try clear BK45);(try clear BK44);(try clear BK43);(try clear HB)
  generalize ((((w12.setCell ⟨gb43,0,none⟩ (.int .i64 ((rd_T96 l1_0 a2).f0))).setCell ⟨gb43,1,none⟩ (.int .i64 ((rd_T96 l1_0 a2).f1))).setCell ⟨gb43,2,none⟩ (.int .i64 ((rd_T96 l1_0 a2).f2))).setCell ⟨gb43,3,none⟩ (.int .i64 ((rd_T96 l1_0 a2).f3)))=w20 at n0_ n1_ n2_ n3_ ⊢
  have BK45:=n0_;have BK44:=n1_;have BK43:=n2_;have HB:=n3_;clear n0_ n1_ n2_ n3_;replace BK45:=zA (blk_drew BK45.out);replace BK44:=zA (blk_drew BK44.out);replace BK43:=zA (blk_drew BK43.out);replace HB:=zA (below_drew1 HB.out);obtain ⟨p46,q46,ad46,A46_0,c46_0,A46_1,c46_1,e46,hx46_0,hx46_1,hl46_0,hi46_0,hl46_1,hi46_1⟩:=zp (at_T49 HR0.out ((rd_T96 l1_0 a2).f3));have hw46_1:=hx46_1;have hw46_0:=hx46_0
  cases e46
  replace hx46_0:=zd HB hx46_0;replace hx46_1:=zd HB hx46_1;have HR46_0:=zA hi46_0;have HC46_0:=zA hl46_0;clear hi46_0 hl46_0;have HR46_1:=zA hi46_1;have HC46_1:=zA hl46_1;clear hi46_1 hl46_1;replace p46:=eq_true p46;replace q46:=eq_true q46;refine start_ (n:=8) (S:=fun w'=>w'.cell? ⟨gb44,0,none⟩=some (.int .i64 a3_0)∧w'.cell? ⟨gb44,1,none⟩=some (.int .i64 a3_1)∧w'.cell? ⟨gb43,0,none⟩=some (.int .i64 ((rd_T96 l1_0 a2).f0))∧w'.cell? ⟨gb43,1,none⟩=some (.int .i64 ((rd_T96 l1_0 a2).f1))∧w'.cell? ⟨gb43,2,none⟩=some (.int .i64 ((rd_T96 l1_0 a2).f2))∧w'.cell? ⟨gb43,3,none⟩=some (.int .i64 ((rd_T96 l1_0 a2).f3))∧w'.cell? (ad46.add ((((rd_T96 l1_0 a2).f3)).toNat * 2))=some (.slice A46_0 ((rd_T49 l0 ((rd_T96 l1_0 a2).f3)).f0).length c46_0)∧w'.cell? ⟨(ad46.add ((((rd_T96 l1_0 a2).f3)).toNat * 2)).block,(ad46.add ((((rd_T96 l1_0 a2).f3)).toNat * 2)).off+1,none⟩=some (.slice A46_1 ((rd_T49 l0 ((rd_T96 l1_0 a2).f3)).f1).length c46_1)) (ds:=[]) (bz 8 0) zK rfl rfl ⟨zc0 BK44,zc1 BK44,zc0 BK43,zc1 BK43,zc2 BK43,zc3 BK43,((HB.out.cell (World.block_lt_of_cell? w _ hw46_0)).trans hw46_0),((HB.out.cell (World.block_lt_of_cell? w _ hw46_1)).trans hw46_1)⟩ (fun hHeld=>?_);refine with_tabW solve_right.tab3 solve_right.bits3 (fun HT_ HW_=>?_)
  generalize w20.drew=w21 at BK45 BK44 BK43 HB HR46_0 HR46_1 hx46_0 hx46_1 hHeld ⊢
  refine zP 1 19 (bz 8 2) HT_ ?_;refine zP 2 20 (bz 8 6) HT_ ?_;refine zQ 0 18 (bz 8 7) HT_ HW_ hHeld ?_;refine zQ 3 21 (bz 8 15) HT_ HW_ hHeld ?_;refine zP 4 22 (bz 8 31) HT_ ?_;refine zQ 5 23 (bz 8 63) HT_ HW_ hHeld ?_;refine one_ (i:=6) (N:=some 24) (bz 8 127) rfl rfl (one_of HT_.out zK) (by decide) (fun K hK=>?_);refine goes_ Tryz.func91 zK rfl #[.agg #[.int .i64 a3_0,.int .i64 a3_1],.agg #[.slice A46_0 ((rd_T49 l0 ((rd_T96 l1_0 a2).f3)).f0).length c46_0,.slice A46_1 ((rd_T49 l0 ((rd_T96 l1_0 a2).f3)).f1).length c46_1]] (by rfl) rfl rfl zM ?_
  with_reducible refine (solve_choices_fails.calls k a3_0 a3_1 _ _ ((rd_T49 l0 ((rd_T96 l1_0 a2).f3)).f0) _ _ ((rd_T49 l0 ((rd_T96 l1_0 a2).f3)).f1) t59 _ ?side1 ?side2 ?side3 ?side4 A19.out).mono ?_
  (case side1=>exact zC (Kd.C_below HR46_0.out HB.out));(case side2=>exact HC46_0.out);(case side3=>exact zC (Kd.C_below HR46_1.out HB.out));(case side4=>exact HC46_1.out);rintro e w22 ⟨rfl,hb⟩;refine ⟨_,rfl,?_⟩;replace BK45:=zw BK45 hb;replace BK44:=zw BK44 hb;replace BK43:=zw BK43 hb;replace HB:=zu hb;(try clear hb);(try clear hb2);(try clear hk);(try clear hi);refine hK.out _ _ ⟨zc0 BK44,zc1 BK44,zc0 BK43,zc1 BK43,zc2 BK43,zc3 BK43,((HB.out.cell (World.block_lt_of_cell? w _ hw46_0)).trans hw46_0),((HB.out.cell (World.block_lt_of_cell? w _ hw46_1)).trans hw46_1)⟩ (fun hHeld=>?_);clear hK K;refine norm_ (a':=?_) ?_ ?_;rotate_left
  ·show Act.put _ (some 24) _=_
   simp only [Act.put,zi,zs,zt,i64_w,i32_w];rfl
  refine zP 7 8 (bz 8 255) HT_ ?_;refine done_ (done_of HT_.out zK) ?_
  try go_wp2
  go_ret
  exact ⟨ze,zv3 HB GE45 GE44 GE43⟩
 ·(first|rw [c16b0]|(simp only [i64_w,i32_w];rw [c16b0])|skip)
  obtain ⟨c23,H⟩:=if1 H;have c23b0:=eq_true c23;have c23b1:decide (0≤((rd_T96 l1_0 a2).f0))=true:=decide_eq_true c23;clear c23;obtain ⟨ji24,hji24⟩:=zZ (shr .i64 a3_0 ((rd_T96 l1_0 a2).f0))
  first|rw [hji24] at H|simp only [hji24] at H
  have hji24_:(a3_0 / 2 ^ min ((rd_T96 l1_0 a2).f0).toNat 64)=ji24:=hji24;have hji24z:((rd_T96 l1_0 a2).f0)≤64→(a3_0 / 2 ^ ((rd_T96 l1_0 a2).f0).toNat)=ji24:=shr_small hji24
  rcases ife H with ⟨c25b0,c25b1,H⟩|⟨c25,c25b0,c25b1,H⟩
  ·obtain ⟨t52,t58,A26,H⟩:=zO H
   dsimp only at H
   obtain ⟨t60,A27,H⟩:=zo H
   by_cases c28:t60=true
   ·subst c28
    have H1:((solve_choices_with.f a3_0 a3_1 ((rd_T96 l1_0 a2).f0) 1).bind fun bt53=>((solve_right.f k l0 l1_0 ((rd_T96 l1_0 a2).f2) bt53.1 bt53.2).bind fun t54=>(some t54)))=some r:=by rw [if_pos rfl] at H;exact H
    clear H;have H:=H1;clear H1;obtain ⟨t53,t63,A29,H⟩:=zO H
    dsimp only at H
    obtain ⟨t54,A30,H⟩:=zo H;obtain rfl:=Option.some.inj H
    try go_wp2
    have n0_:Aside0 (((((w12.setCell ⟨gb43,0,none⟩ (.int .i64 ((rd_T96 l1_0 a2).f0))).setCell ⟨gb43,1,none⟩ (.int .i64 ((rd_T96 l1_0 a2).f1))).setCell ⟨gb43,2,none⟩ (.int .i64 ((rd_T96 l1_0 a2).f2))).setCell ⟨gb43,3,none⟩ (.int .i64 ((rd_T96 l1_0 a2).f3))).heap[gb45]?=some (.cells #[.slice (some ad47) l1_0.length c1_0] 26 (0,0))):=⟨by refine zj ?_;refine blk_far ?_ NB45_43.out _;refine zj ?_;refine blk_far ?_ NB45_43.out _;refine zj ?_;refine blk_far ?_ NB45_43.out _;refine zj ?_;refine blk_far ?_ NB45_43.out _;refine zj ?_;exact BK45.out⟩
    have n1_:Aside0 (((((w12.setCell ⟨gb43,0,none⟩ (.int .i64 ((rd_T96 l1_0 a2).f0))).setCell ⟨gb43,1,none⟩ (.int .i64 ((rd_T96 l1_0 a2).f1))).setCell ⟨gb43,2,none⟩ (.int .i64 ((rd_T96 l1_0 a2).f2))).setCell ⟨gb43,3,none⟩ (.int .i64 ((rd_T96 l1_0 a2).f3))).heap[gb44]?=some (.cells #[.int .i64 a3_0,.int .i64 a3_1] 80 (0,0))):=⟨by refine zj ?_;refine blk_far ?_ NB44_43.out _;refine zj ?_;refine blk_far ?_ NB44_43.out _;refine zj ?_;refine blk_far ?_ NB44_43.out _;refine zj ?_;refine blk_far ?_ NB44_43.out _;refine zj ?_;exact BK44.out⟩
    have n2_:Aside0 (((((w12.setCell ⟨gb43,0,none⟩ (.int .i64 ((rd_T96 l1_0 a2).f0))).setCell ⟨gb43,1,none⟩ (.int .i64 ((rd_T96 l1_0 a2).f1))).setCell ⟨gb43,2,none⟩ (.int .i64 ((rd_T96 l1_0 a2).f2))).setCell ⟨gb43,3,none⟩ (.int .i64 ((rd_T96 l1_0 a2).f3))).heap[gb43]?=some (.cells #[.int .i64 ((rd_T96 l1_0 a2).f0),.int .i64 ((rd_T96 l1_0 a2).f1),.int .i64 ((rd_T96 l1_0 a2).f2),.int .i64 ((rd_T96 l1_0 a2).f3)] 96 (0,0))):=⟨by refine zj ?_;refine blk_put (cs:=#[.int .i64 ((rd_T96 l1_0 a2).f0),.int .i64 ((rd_T96 l1_0 a2).f1),.int .i64 ((rd_T96 l1_0 a2).f2),.int .i64 0]) ?_ 3 _ rfl;refine zj ?_;refine blk_put (cs:=#[.int .i64 ((rd_T96 l1_0 a2).f0),.int .i64 ((rd_T96 l1_0 a2).f1),.int .i64 0,.int .i64 0]) ?_ 2 _ rfl;refine zj ?_;refine blk_put (cs:=#[.int .i64 ((rd_T96 l1_0 a2).f0),.int .i64 0,.int .i64 0,.int .i64 0]) ?_ 1 _ rfl;refine zj ?_;refine blk_put (cs:=#[.int .i64 0,.int .i64 0,.int .i64 0,.int .i64 0]) ?_ 0 _ rfl;refine zj ?_;exact BK43.out⟩
    have n3_:Aside0 (Below w.heap.size w ((((w12.setCell ⟨gb43,0,none⟩ (.int .i64 ((rd_T96 l1_0 a2).f0))).setCell ⟨gb43,1,none⟩ (.int .i64 ((rd_T96 l1_0 a2).f1))).setCell ⟨gb43,2,none⟩ (.int .i64 ((rd_T96 l1_0 a2).f2))).setCell ⟨gb43,3,none⟩ (.int .i64 ((rd_T96 l1_0 a2).f3)))):=⟨zv3 HB GE45 GE44 GE43⟩
    (try clear BK45);(try clear BK44);(try clear BK43);(try clear HB)
    generalize ((((w12.setCell ⟨gb43,0,none⟩ (.int .i64 ((rd_T96 l1_0 a2).f0))).setCell ⟨gb43,1,none⟩ (.int .i64 ((rd_T96 l1_0 a2).f1))).setCell ⟨gb43,2,none⟩ (.int .i64 ((rd_T96 l1_0 a2).f2))).setCell ⟨gb43,3,none⟩ (.int .i64 ((rd_T96 l1_0 a2).f3)))=w31 at n0_ n1_ n2_ n3_ ⊢
    have BK45:=n0_;have BK44:=n1_;have BK43:=n2_;have HB:=n3_;clear n0_ n1_ n2_ n3_;replace BK45:=zA (blk_drew BK45.out);replace BK44:=zA (blk_drew BK44.out);replace BK43:=zA (blk_drew BK43.out);replace HB:=zA (below_drew1 HB.out);refine start_ (n:=30) (S:=fun w'=>w'.cell? ⟨gb44,0,none⟩=some (.int .i64 a3_0)∧w'.cell? ⟨gb44,1,none⟩=some (.int .i64 a3_1)∧w'.cell? ⟨gb43,0,none⟩=some (.int .i64 ((rd_T96 l1_0 a2).f0))∧w'.cell? ⟨gb43,1,none⟩=some (.int .i64 ((rd_T96 l1_0 a2).f1))∧w'.cell? ⟨gb43,2,none⟩=some (.int .i64 ((rd_T96 l1_0 a2).f2))∧w'.cell? ⟨gb43,3,none⟩=some (.int .i64 ((rd_T96 l1_0 a2).f3))∧w'.cell? ⟨gb45,0,none⟩=some (.slice (some ad47) l1_0.length c1_0)) (ds:=[]) (bz 30 0) zK rfl rfl ⟨zc0 BK44,zc1 BK44,zc0 BK43,zc1 BK43,zc2 BK43,zc3 BK43,zc0 BK45⟩ (fun hHeld=>?_);refine with_tabW solve_right.tab4 solve_right.bits4 (fun HT_ HW_=>?_)
    generalize w31.drew=w32 at BK45 BK44 BK43 HB hHeld ⊢
    refine zP 0 25 (bz 30 1) HT_ ?_;refine zP 2 27 (bz 30 5) HT_ ?_;refine zQ 1 26 (bz 30 7) HT_ HW_ hHeld ?_;refine zQ 3 28 (bz 30 15) HT_ HW_ hHeld ?_;refine zP 4 29 (bz 30 31) HT_ ?_;refine zP 5 30 (bz 30 63) HT_ ?_;refine zP 6 31 (bz 30 127) HT_ ?_;refine zP 7 32 (bz 30 255) HT_ ?_;refine zP 8 33 (bz 30 511) HT_ ?_;refine zP 10 35 (bz 30 1535) HT_ ?_;refine zP 13 38 (bz 30 9727) HT_ ?_;refine zQ 9 34 (bz 30 10239) HT_ HW_ hHeld ?_;refine zQ 11 36 (bz 30 12287) HT_ HW_ hHeld ?_;refine zQ 12 37 (bz 30 16383) HT_ HW_ hHeld ?_;refine zQ 14 39 (bz 30 32767) HT_ HW_ hHeld ?_;refine one_ (i:=15) (N:=some 40) (bz 30 65535) rfl rfl (one_of HT_.out zK) (by decide) (fun K hK=>?_);refine goes_ Tryz.func92 zK rfl #[.agg #[.int .i64 a3_0,.int .i64 a3_1],.int .i64 ((rd_T96 l1_0 a2).f0),.int .i64 0] (by rfl) rfl rfl zM ?_
    with_reducible refine (solve_choices_with.calls a3_0 a3_1 ((rd_T96 l1_0 a2).f0) 0 t52 t58 _ A26.out).mono ?_
    rintro e w33 ⟨rfl,hb⟩;refine ⟨_,rfl,?_⟩;replace BK45:=zw BK45 hb;replace BK44:=zw BK44 hb;replace BK43:=zw BK43 hb;replace HB:=zu hb;(try clear hb);(try clear hb2);(try clear hk);(try clear hi);refine hK.out _ _ ⟨zc0 BK44,zc1 BK44,zc0 BK43,zc1 BK43,zc2 BK43,zc3 BK43,zc0 BK45⟩ (fun hHeld=>?_);clear hK K;refine norm_ (a':=?_) ?_ ?_;rotate_left
    ·show Act.put _ (some 40) _=_
     simp only [Act.put,zi,zs,zt,i64_w,i32_w];rfl
    refine one_ (i:=16) (N:=some 41) (bz 30 131071) rfl rfl (one_of HT_.out zK) (by decide) (fun K hK=>?_);refine goes_ Tryz.func68 zK rfl #[.slice A0 l0.length c0,.agg #[.slice (some ad47) l1_0.length c1_0],.int .i64 ((rd_T96 l1_0 a2).f1),.agg #[.int .i64 t52,.int .i64 t58]] (by rfl) rfl rfl zM ?_
    with_reducible refine (ih k (by omega) _ _ l0 _ _ l1_0 ((rd_T96 l1_0 a2).f1) t52 t58 true _ ?side1 ?side2 ?side3 ?side4 A27.out).mono ?_
    (case side1=>exact zC (Kd.C_below HR0.out HB.out));(case side2=>exact HC0.out);(case side3=>exact zC (Kd.C_below HR1_0.out HB.out));(case side4=>exact HC1_0.out);rintro e w34 ⟨rfl,hb⟩;refine ⟨_,rfl,?_⟩;replace BK45:=zw BK45 hb;replace BK44:=zw BK44 hb;replace BK43:=zw BK43 hb;replace HB:=zu hb;(try clear hb);(try clear hb2);(try clear hk);(try clear hi);refine hK.out _ _ ⟨zc0 BK44,zc1 BK44,zc0 BK43,zc1 BK43,zc2 BK43,zc3 BK43,zc0 BK45⟩ (fun hHeld=>?_);clear hK K;refine norm_ (a':=?_) ?_ ?_;rotate_left
    ·show Act.put _ (some 41) _=_
     simp only [Act.put,zi,zs,zt,i64_w,i32_w];rfl
    refine zP 17 42 (bz 30 262143) HT_ ?_;refine zP 18 43 (bz 30 524287) HT_ ?_;refine zP 19 44 (bz 30 1048575) HT_ ?_;refine zP 21 46 (bz 30 3145727) HT_ ?_;refine zP 24 49 (bz 30 19922943) HT_ ?_;refine zQ 20 45 (bz 30 20971519) HT_ HW_ hHeld ?_;refine zQ 22 47 (bz 30 25165823) HT_ HW_ hHeld ?_;refine zQ 23 48 (bz 30 33554431) HT_ HW_ hHeld ?_;refine zQ 25 50 (bz 30 67108863) HT_ HW_ hHeld ?_;refine one_ (i:=26) (N:=some 51) (bz 30 134217727) rfl rfl (one_of HT_.out zK) (by decide) (fun K hK=>?_);refine goes_ Tryz.func92 zK rfl #[.agg #[.int .i64 a3_0,.int .i64 a3_1],.int .i64 ((rd_T96 l1_0 a2).f0),.int .i64 1] (by rfl) rfl rfl zM ?_
    with_reducible refine (solve_choices_with.calls a3_0 a3_1 ((rd_T96 l1_0 a2).f0) 1 t53 t63 _ A29.out).mono ?_
    rintro e w35 ⟨rfl,hb⟩;refine ⟨_,rfl,?_⟩;replace BK45:=zw BK45 hb;replace BK44:=zw BK44 hb;replace BK43:=zw BK43 hb;replace HB:=zu hb;(try clear hb);(try clear hb2);(try clear hk);(try clear hi);refine hK.out _ _ ⟨zc0 BK44,zc1 BK44,zc0 BK43,zc1 BK43,zc2 BK43,zc3 BK43,zc0 BK45⟩ (fun hHeld=>?_);clear hK K;refine norm_ (a':=?_) ?_ ?_;rotate_left
    ·show Act.put _ (some 51) _=_
     simp only [Act.put,zi,zs,zt,i64_w,i32_w];rfl
    refine one_ (i:=27) (N:=some 52) (bz 30 268435455) rfl rfl (one_of HT_.out zK) (by decide) (fun K hK=>?_);refine goes_ Tryz.func68 zK rfl #[.slice A0 l0.length c0,.agg #[.slice (some ad47) l1_0.length c1_0],.int .i64 ((rd_T96 l1_0 a2).f2),.agg #[.int .i64 t53,.int .i64 t63]] (by rfl) rfl rfl zM ?_
    with_reducible refine (ih k (by omega) _ _ l0 _ _ l1_0 ((rd_T96 l1_0 a2).f2) t53 t63 t54 _ ?side1 ?side2 ?side3 ?side4 A30.out).mono ?_
    (case side1=>exact zC (Kd.C_below HR0.out HB.out));(case side2=>exact HC0.out);(case side3=>exact zC (Kd.C_below HR1_0.out HB.out));(case side4=>exact HC1_0.out);rintro e w36 ⟨rfl,hb⟩;refine ⟨_,rfl,?_⟩;replace BK45:=zw BK45 hb;replace BK44:=zw BK44 hb;replace BK43:=zw BK43 hb;replace HB:=zu hb;(try clear hb);(try clear hb2);(try clear hk);(try clear hi);refine hK.out _ _ ⟨zc0 BK44,zc1 BK44,zc0 BK43,zc1 BK43,zc2 BK43,zc3 BK43,zc0 BK45⟩ (fun hHeld=>?_);clear hK K;refine norm_ (a':=?_) ?_ ?_;rotate_left
    ·show Act.put _ (some 52) _=_
     simp only [Act.put,zi,zs,zt,i64_w,i32_w];rfl
    refine zP 28 53 (bz 30 536870911) HT_ ?_;refine zP 29 8 (bz 30 1073741823) HT_ ?_;refine done_ (done_of HT_.out zK) ?_
    try go_wp2
    go_ret
    exact ⟨by first|rfl|(simp [errW_none,errW_some] <;> rfl)|(simp only [← hji24];first|rfl|(simp [errW_none,errW_some] <;> rfl))|(simp [*,errW_none,errW_some] <;> rfl),zv3 HB GE45 GE44 GE43⟩
   ·replace c28:=Bool.eq_false_iff.mpr c28;subst c28
    have H1:(some false)=some r:=by rw [if_neg (show ¬ (false=true) by decide)] at H;exact H
    clear H;have H:=H1;clear H1;obtain rfl:=Option.some.inj H
    try go_wp2
    have n0_:Aside0 (((((w12.setCell ⟨gb43,0,none⟩ (.int .i64 ((rd_T96 l1_0 a2).f0))).setCell ⟨gb43,1,none⟩ (.int .i64 ((rd_T96 l1_0 a2).f1))).setCell ⟨gb43,2,none⟩ (.int .i64 ((rd_T96 l1_0 a2).f2))).setCell ⟨gb43,3,none⟩ (.int .i64 ((rd_T96 l1_0 a2).f3))).heap[gb45]?=some (.cells #[.slice (some ad47) l1_0.length c1_0] 26 (0,0))):=⟨by refine zj ?_;refine blk_far ?_ NB45_43.out _;refine zj ?_;refine blk_far ?_ NB45_43.out _;refine zj ?_;refine blk_far ?_ NB45_43.out _;refine zj ?_;refine blk_far ?_ NB45_43.out _;refine zj ?_;exact BK45.out⟩
    have n1_:Aside0 (((((w12.setCell ⟨gb43,0,none⟩ (.int .i64 ((rd_T96 l1_0 a2).f0))).setCell ⟨gb43,1,none⟩ (.int .i64 ((rd_T96 l1_0 a2).f1))).setCell ⟨gb43,2,none⟩ (.int .i64 ((rd_T96 l1_0 a2).f2))).setCell ⟨gb43,3,none⟩ (.int .i64 ((rd_T96 l1_0 a2).f3))).heap[gb44]?=some (.cells #[.int .i64 a3_0,.int .i64 a3_1] 80 (0,0))):=⟨by refine zj ?_;refine blk_far ?_ NB44_43.out _;refine zj ?_;refine blk_far ?_ NB44_43.out _;refine zj ?_;refine blk_far ?_ NB44_43.out _;refine zj ?_;refine blk_far ?_ NB44_43.out _;refine zj ?_;exact BK44.out⟩
    have n2_:Aside0 (((((w12.setCell ⟨gb43,0,none⟩ (.int .i64 ((rd_T96 l1_0 a2).f0))).setCell ⟨gb43,1,none⟩ (.int .i64 ((rd_T96 l1_0 a2).f1))).setCell ⟨gb43,2,none⟩ (.int .i64 ((rd_T96 l1_0 a2).f2))).setCell ⟨gb43,3,none⟩ (.int .i64 ((rd_T96 l1_0 a2).f3))).heap[gb43]?=some (.cells #[.int .i64 ((rd_T96 l1_0 a2).f0),.int .i64 ((rd_T96 l1_0 a2).f1),.int .i64 ((rd_T96 l1_0 a2).f2),.int .i64 ((rd_T96 l1_0 a2).f3)] 96 (0,0))):=⟨by refine zj ?_;refine blk_put (cs:=#[.int .i64 ((rd_T96 l1_0 a2).f0),.int .i64 ((rd_T96 l1_0 a2).f1),.int .i64 ((rd_T96 l1_0 a2).f2),.int .i64 0]) ?_ 3 _ rfl;refine zj ?_;refine blk_put (cs:=#[.int .i64 ((rd_T96 l1_0 a2).f0),.int .i64 ((rd_T96 l1_0 a2).f1),.int .i64 0,.int .i64 0]) ?_ 2 _ rfl;refine zj ?_;refine blk_put (cs:=#[.int .i64 ((rd_T96 l1_0 a2).f0),.int .i64 0,.int .i64 0,.int .i64 0]) ?_ 1 _ rfl;refine zj ?_;refine blk_put (cs:=#[.int .i64 0,.int .i64 0,.int .i64 0,.int .i64 0]) ?_ 0 _ rfl;refine zj ?_;exact BK43.out⟩
    have n3_:Aside0 (Below w.heap.size w ((((w12.setCell ⟨gb43,0,none⟩ (.int .i64 ((rd_T96 l1_0 a2).f0))).setCell ⟨gb43,1,none⟩ (.int .i64 ((rd_T96 l1_0 a2).f1))).setCell ⟨gb43,2,none⟩ (.int .i64 ((rd_T96 l1_0 a2).f2))).setCell ⟨gb43,3,none⟩ (.int .i64 ((rd_T96 l1_0 a2).f3)))):=⟨zv3 HB GE45 GE44 GE43⟩
    (try clear BK45);(try clear BK44);(try clear BK43);(try clear HB)
    generalize ((((w12.setCell ⟨gb43,0,none⟩ (.int .i64 ((rd_T96 l1_0 a2).f0))).setCell ⟨gb43,1,none⟩ (.int .i64 ((rd_T96 l1_0 a2).f1))).setCell ⟨gb43,2,none⟩ (.int .i64 ((rd_T96 l1_0 a2).f2))).setCell ⟨gb43,3,none⟩ (.int .i64 ((rd_T96 l1_0 a2).f3)))=w37 at n0_ n1_ n2_ n3_ ⊢
    have BK45:=n0_;have BK44:=n1_;have BK43:=n2_;have HB:=n3_;clear n0_ n1_ n2_ n3_;replace BK45:=zA (blk_drew BK45.out);replace BK44:=zA (blk_drew BK44.out);replace BK43:=zA (blk_drew BK43.out);replace HB:=zA (below_drew1 HB.out);refine start_ (n:=30) (S:=fun w'=>w'.cell? ⟨gb44,0,none⟩=some (.int .i64 a3_0)∧w'.cell? ⟨gb44,1,none⟩=some (.int .i64 a3_1)∧w'.cell? ⟨gb43,0,none⟩=some (.int .i64 ((rd_T96 l1_0 a2).f0))∧w'.cell? ⟨gb43,1,none⟩=some (.int .i64 ((rd_T96 l1_0 a2).f1))∧w'.cell? ⟨gb43,2,none⟩=some (.int .i64 ((rd_T96 l1_0 a2).f2))∧w'.cell? ⟨gb43,3,none⟩=some (.int .i64 ((rd_T96 l1_0 a2).f3))∧w'.cell? ⟨gb45,0,none⟩=some (.slice (some ad47) l1_0.length c1_0)) (ds:=[]) (bz 30 0) zK rfl rfl ⟨zc0 BK44,zc1 BK44,zc0 BK43,zc1 BK43,zc2 BK43,zc3 BK43,zc0 BK45⟩ (fun hHeld=>?_);refine with_tabW solve_right.tab4 solve_right.bits4 (fun HT_ HW_=>?_)
    generalize w37.drew=w38 at BK45 BK44 BK43 HB hHeld ⊢
    refine zP 0 25 (bz 30 1) HT_ ?_;refine zP 2 27 (bz 30 5) HT_ ?_;refine zQ 1 26 (bz 30 7) HT_ HW_ hHeld ?_;refine zQ 3 28 (bz 30 15) HT_ HW_ hHeld ?_;refine zP 4 29 (bz 30 31) HT_ ?_;refine zP 5 30 (bz 30 63) HT_ ?_;refine zP 6 31 (bz 30 127) HT_ ?_;refine zP 7 32 (bz 30 255) HT_ ?_;refine zP 8 33 (bz 30 511) HT_ ?_;refine zP 10 35 (bz 30 1535) HT_ ?_;refine zP 13 38 (bz 30 9727) HT_ ?_;refine zQ 9 34 (bz 30 10239) HT_ HW_ hHeld ?_;refine zQ 11 36 (bz 30 12287) HT_ HW_ hHeld ?_;refine zQ 12 37 (bz 30 16383) HT_ HW_ hHeld ?_;refine zQ 14 39 (bz 30 32767) HT_ HW_ hHeld ?_;refine one_ (i:=15) (N:=some 40) (bz 30 65535) rfl rfl (one_of HT_.out zK) (by decide) (fun K hK=>?_);refine goes_ Tryz.func92 zK rfl #[.agg #[.int .i64 a3_0,.int .i64 a3_1],.int .i64 ((rd_T96 l1_0 a2).f0),.int .i64 0] (by rfl) rfl rfl zM ?_
    with_reducible refine (solve_choices_with.calls a3_0 a3_1 ((rd_T96 l1_0 a2).f0) 0 t52 t58 _ A26.out).mono ?_
    rintro e w39 ⟨rfl,hb⟩;refine ⟨_,rfl,?_⟩;replace BK45:=zw BK45 hb;replace BK44:=zw BK44 hb;replace BK43:=zw BK43 hb;replace HB:=zu hb;(try clear hb);(try clear hb2);(try clear hk);(try clear hi);refine hK.out _ _ ⟨zc0 BK44,zc1 BK44,zc0 BK43,zc1 BK43,zc2 BK43,zc3 BK43,zc0 BK45⟩ (fun hHeld=>?_);clear hK K;refine norm_ (a':=?_) ?_ ?_;rotate_left
    ·show Act.put _ (some 40) _=_
     simp only [Act.put,zi,zs,zt,i64_w,i32_w];rfl
    refine one_ (i:=16) (N:=some 41) (bz 30 131071) rfl rfl (one_of HT_.out zK) (by decide) (fun K hK=>?_);refine goes_ Tryz.func68 zK rfl #[.slice A0 l0.length c0,.agg #[.slice (some ad47) l1_0.length c1_0],.int .i64 ((rd_T96 l1_0 a2).f1),.agg #[.int .i64 t52,.int .i64 t58]] (by rfl) rfl rfl zM ?_
    with_reducible refine (ih k (by omega) _ _ l0 _ _ l1_0 ((rd_T96 l1_0 a2).f1) t52 t58 false _ ?side1 ?side2 ?side3 ?side4 A27.out).mono ?_
    (case side1=>exact zC (Kd.C_below HR0.out HB.out));(case side2=>exact HC0.out);(case side3=>exact zC (Kd.C_below HR1_0.out HB.out));(case side4=>exact HC1_0.out);rintro e w40 ⟨rfl,hb⟩;refine ⟨_,rfl,?_⟩;replace BK45:=zw BK45 hb;replace BK44:=zw BK44 hb;replace BK43:=zw BK43 hb;replace HB:=zu hb;(try clear hb);(try clear hb2);(try clear hk);(try clear hi);refine hK.out _ _ ⟨zc0 BK44,zc1 BK44,zc0 BK43,zc1 BK43,zc2 BK43,zc3 BK43,zc0 BK45⟩ (fun hHeld=>?_);clear hK K;refine norm_ (a':=?_) ?_ ?_;rotate_left
    ·show Act.put _ (some 41) _=_
     simp only [Act.put,zi,zs,zt,i64_w,i32_w];rfl
    refine zP 17 42 (bz 30 262143) HT_ ?_;refine zP 18 43 (bz 30 524287) HT_ ?_;refine zU 19 44 (bz 30 1048575) HT_ ?_;refine zU 20 45 (bz 30 2097151) HT_ ?_;refine zU 21 46 (bz 30 4194303) HT_ ?_;refine zU 22 47 (bz 30 8388607) HT_ ?_;refine zU 23 48 (bz 30 16777215) HT_ ?_;refine zU 24 49 (bz 30 33554431) HT_ ?_;refine zU 25 50 (bz 30 67108863) HT_ ?_;refine zU 26 51 (bz 30 134217727) HT_ ?_;refine zU 27 52 (bz 30 268435455) HT_ ?_;refine zP 28 53 (bz 30 536870911) HT_ ?_;refine zP 29 8 (bz 30 1073741823) HT_ ?_;refine done_ (done_of HT_.out zK) ?_
    try go_wp2
    go_ret
    exact ⟨by first|rfl|(simp [errW_none,errW_some] <;> rfl)|(simp only [← hji24];first|rfl|(simp [errW_none,errW_some] <;> rfl))|(simp [*,errW_none,errW_some] <;> rfl),zv3 HB GE45 GE44 GE43⟩
  ·obtain rfl:=Option.some.inj H
   try go_wp2
   have n0_:Aside0 (((((w12.setCell ⟨gb43,0,none⟩ (.int .i64 ((rd_T96 l1_0 a2).f0))).setCell ⟨gb43,1,none⟩ (.int .i64 ((rd_T96 l1_0 a2).f1))).setCell ⟨gb43,2,none⟩ (.int .i64 ((rd_T96 l1_0 a2).f2))).setCell ⟨gb43,3,none⟩ (.int .i64 ((rd_T96 l1_0 a2).f3))).heap[gb45]?=some (.cells #[.slice (some ad47) l1_0.length c1_0] 26 (0,0))):=⟨by refine zj ?_;refine blk_far ?_ NB45_43.out _;refine zj ?_;refine blk_far ?_ NB45_43.out _;refine zj ?_;refine blk_far ?_ NB45_43.out _;refine zj ?_;refine blk_far ?_ NB45_43.out _;refine zj ?_;exact BK45.out⟩
   have n1_:Aside0 (((((w12.setCell ⟨gb43,0,none⟩ (.int .i64 ((rd_T96 l1_0 a2).f0))).setCell ⟨gb43,1,none⟩ (.int .i64 ((rd_T96 l1_0 a2).f1))).setCell ⟨gb43,2,none⟩ (.int .i64 ((rd_T96 l1_0 a2).f2))).setCell ⟨gb43,3,none⟩ (.int .i64 ((rd_T96 l1_0 a2).f3))).heap[gb44]?=some (.cells #[.int .i64 a3_0,.int .i64 a3_1] 80 (0,0))):=⟨by refine zj ?_;refine blk_far ?_ NB44_43.out _;refine zj ?_;refine blk_far ?_ NB44_43.out _;refine zj ?_;refine blk_far ?_ NB44_43.out _;refine zj ?_;refine blk_far ?_ NB44_43.out _;refine zj ?_;exact BK44.out⟩
   have n2_:Aside0 (((((w12.setCell ⟨gb43,0,none⟩ (.int .i64 ((rd_T96 l1_0 a2).f0))).setCell ⟨gb43,1,none⟩ (.int .i64 ((rd_T96 l1_0 a2).f1))).setCell ⟨gb43,2,none⟩ (.int .i64 ((rd_T96 l1_0 a2).f2))).setCell ⟨gb43,3,none⟩ (.int .i64 ((rd_T96 l1_0 a2).f3))).heap[gb43]?=some (.cells #[.int .i64 ((rd_T96 l1_0 a2).f0),.int .i64 ((rd_T96 l1_0 a2).f1),.int .i64 ((rd_T96 l1_0 a2).f2),.int .i64 ((rd_T96 l1_0 a2).f3)] 96 (0,0))):=⟨by refine zj ?_;refine blk_put (cs:=#[.int .i64 ((rd_T96 l1_0 a2).f0),.int .i64 ((rd_T96 l1_0 a2).f1),.int .i64 ((rd_T96 l1_0 a2).f2),.int .i64 0]) ?_ 3 _ rfl;refine zj ?_;refine blk_put (cs:=#[.int .i64 ((rd_T96 l1_0 a2).f0),.int .i64 ((rd_T96 l1_0 a2).f1),.int .i64 0,.int .i64 0]) ?_ 2 _ rfl;refine zj ?_;refine blk_put (cs:=#[.int .i64 ((rd_T96 l1_0 a2).f0),.int .i64 0,.int .i64 0,.int .i64 0]) ?_ 1 _ rfl;refine zj ?_;refine blk_put (cs:=#[.int .i64 0,.int .i64 0,.int .i64 0,.int .i64 0]) ?_ 0 _ rfl;refine zj ?_;exact BK43.out⟩
   have n3_:Aside0 (Below w.heap.size w ((((w12.setCell ⟨gb43,0,none⟩ (.int .i64 ((rd_T96 l1_0 a2).f0))).setCell ⟨gb43,1,none⟩ (.int .i64 ((rd_T96 l1_0 a2).f1))).setCell ⟨gb43,2,none⟩ (.int .i64 ((rd_T96 l1_0 a2).f2))).setCell ⟨gb43,3,none⟩ (.int .i64 ((rd_T96 l1_0 a2).f3)))):=⟨zv3 HB GE45 GE44 GE43⟩
   (try clear BK45);(try clear BK44);(try clear BK43);(try clear HB)
   generalize ((((w12.setCell ⟨gb43,0,none⟩ (.int .i64 ((rd_T96 l1_0 a2).f0))).setCell ⟨gb43,1,none⟩ (.int .i64 ((rd_T96 l1_0 a2).f1))).setCell ⟨gb43,2,none⟩ (.int .i64 ((rd_T96 l1_0 a2).f2))).setCell ⟨gb43,3,none⟩ (.int .i64 ((rd_T96 l1_0 a2).f3)))=w41 at n0_ n1_ n2_ n3_ ⊢
   have BK45:=n0_;have BK44:=n1_;have BK43:=n2_;have HB:=n3_;clear n0_ n1_ n2_ n3_;replace BK45:=zA (blk_drew BK45.out);replace BK44:=zA (blk_drew BK44.out);replace BK43:=zA (blk_drew BK43.out);replace HB:=zA (below_drew1 HB.out);refine start_ (n:=30) (S:=fun w'=>w'.cell? ⟨gb44,0,none⟩=some (.int .i64 a3_0)∧w'.cell? ⟨gb44,1,none⟩=some (.int .i64 a3_1)∧w'.cell? ⟨gb43,0,none⟩=some (.int .i64 ((rd_T96 l1_0 a2).f0))∧w'.cell? ⟨gb43,1,none⟩=some (.int .i64 ((rd_T96 l1_0 a2).f1))∧w'.cell? ⟨gb43,2,none⟩=some (.int .i64 ((rd_T96 l1_0 a2).f2))∧w'.cell? ⟨gb43,3,none⟩=some (.int .i64 ((rd_T96 l1_0 a2).f3))) (ds:=[]) (bz 30 0) zK rfl rfl ⟨zc0 BK44,zc1 BK44,zc0 BK43,zc1 BK43,zc2 BK43,zc3 BK43⟩ (fun hHeld=>?_);refine with_tabW solve_right.tab4 solve_right.bits4 (fun HT_ HW_=>?_)
   generalize w41.drew=w42 at BK45 BK44 BK43 HB hHeld ⊢
   refine zP 0 25 (bz 30 1) HT_ ?_;refine zP 2 27 (bz 30 5) HT_ ?_;refine zQ 1 26 (bz 30 7) HT_ HW_ hHeld ?_;refine zQ 3 28 (bz 30 15) HT_ HW_ hHeld ?_;refine zP 4 29 (bz 30 31) HT_ ?_;refine zP 5 30 (bz 30 63) HT_ ?_;refine zP 6 31 (bz 30 127) HT_ ?_;refine zP 7 32 (bz 30 255) HT_ ?_;refine zU 8 33 (bz 30 511) HT_ ?_;refine zU 9 34 (bz 30 1023) HT_ ?_;refine zU 10 35 (bz 30 2047) HT_ ?_;refine zU 11 36 (bz 30 4095) HT_ ?_;refine zU 12 37 (bz 30 8191) HT_ ?_;refine zU 13 38 (bz 30 16383) HT_ ?_;refine zU 14 39 (bz 30 32767) HT_ ?_;refine zU 15 40 (bz 30 65535) HT_ ?_;refine zU 16 41 (bz 30 131071) HT_ ?_;refine zP 17 42 (bz 30 262143) HT_ ?_;refine zP 18 43 (bz 30 524287) HT_ ?_;refine zU 19 44 (bz 30 1048575) HT_ ?_;refine zU 20 45 (bz 30 2097151) HT_ ?_;refine zU 21 46 (bz 30 4194303) HT_ ?_;refine zU 22 47 (bz 30 8388607) HT_ ?_;refine zU 23 48 (bz 30 16777215) HT_ ?_;refine zU 24 49 (bz 30 33554431) HT_ ?_;refine zU 25 50 (bz 30 67108863) HT_ ?_;refine zU 26 51 (bz 30 134217727) HT_ ?_;refine zU 27 52 (bz 30 268435455) HT_ ?_;refine zP 28 53 (bz 30 536870911) HT_ ?_;refine zP 29 8 (bz 30 1073741823) HT_ ?_;refine done_ (done_of HT_.out zK) ?_
   try go_wp2
   go_ret
   exact ⟨by first|rfl|(simp [errW_none,errW_some] <;> rfl)|(simp only [← hji24];first|rfl|(simp [errW_none,errW_some] <;> rfl))|(simp [*,errW_none,errW_some] <;> rfl),zv3 HB GE45 GE44 GE43⟩
def solve_Check.f (k:Nat) (l0:List (S49)) (l1_0:List (S96)):Option (Bool):=(solve_valid.f k l0).bind fun t55=>(if t55=0 then ((solve_shape.f k l0 l1_0).bind fun t61=>(if t61=true then ((solve_right.f k l0 l1_0 0 0 0).bind fun t56=>(some t56)) else (some false))) else (some false))
set_option maxHeartbeats 8000000 in
set_option maxRecDepth 100000 in
theorem solve_Check.calls (k:Nat) (A0:Option Addr) (c0:Nat) (l0:List (S49)) (A1_0:Option Addr) (c1_0:Nat) (l1_0:List (S96)) (r:Bool) (w:World) (hr0:Kd.C k49 w A0 l0.length l0) (hc0:l0.length≤c0) (hr1_0:Kd.C k96 w A1_0 l1_0.length l1_0) (hc1_0:l1_0.length≤c1_0) (h:solve_Check.f k l0 l1_0=some r) :
  Calls Tryz.prog 33 #[.slice A0 l0.length c0,.agg #[.slice A1_0 l1_0.length c1_0]] w fun e w'=>e=.returned (.bool r)∧Below w.heap.size w w':=by
 have HR0:=zA hr0;have HC0:=zA hc0;clear hr0 hc0;have HR1_0:=zA hr1_0;have HC1_0:=zA hc1_0;clear hr1_0 hc1_0;have HB:=zA (Below.refl w.heap.size w);have H:((solve_valid.f k l0).bind fun t55=>(if t55=0 then ((solve_shape.f k l0 l1_0).bind fun t61=>(if t61=true then ((solve_right.f k l0 l1_0 0 0 0).bind fun t56=>(some t56)) else (some false))) else (some false)))=some r:=h;clear h;have HC3:=zA H;clear H
 go_enter Tryz.func33,Tryz.ntmps33
 go_upto_region 1 with (first|((with_reducible refine gd 3 rfl ?_);refine zx #[.slice A1_0 l1_0.length c1_0] 26 ?_;intro gb48 hg w4 BK48 hb GW48 HB1;have GE48:=GW48;clear HB hb hg;have HB:=HB1;clear HB1))
 (try simp only [Act.put,zi,zs,zt]);have H:=HC3.out;clear HC3;obtain ⟨t55,A5,H⟩:=zo H
 rcases ife H with ⟨c6b0,c6b1,H⟩|⟨c6,c6b0,c6b1,H⟩
 ·(first|rw [c6b0]|(simp only [i64_w,i32_w];rw [c6b0])|skip)
  (try rw [c6b1]);obtain ⟨t61,A7,H⟩:=zo H
  by_cases c8:t61=true
  ·subst c8
   have H1:((solve_right.f k l0 l1_0 0 0 0).bind fun t56=>(some t56))=some r:=by rw [if_pos rfl] at H;exact H
   clear H;have H:=H1;clear H1;obtain ⟨t56,A9,H⟩:=zo H;obtain rfl:=Option.some.inj H
   go_wp2_with (first|((with_reducible refine gate_callee (f:=66) rfl ?_);refine zgo 6 Tryz.func66 #[.slice A0 l0.length c0] ?_;(with_reducible refine (solve_valid.calls k _ _ l0 t55 _ (zD HR0 HB) HC0.out A5.out).mono ?_);rintro e w10 ⟨rfl,hb⟩;refine ⟨_,rfl,?_⟩;replace BK48:=zw BK48 hb;replace HB:=zu hb;clear hb;have hcz11_0:=zc0 BK48;have hfz11_0:=zf BK48 0)|(go_at_call 67;(with_reducible refine (solve_shape.calls k _ _ l0 _ _ l1_0 true _ (zD HR0 HB) HC0.out (zD HR1_0 HB) HC1_0.out A7.out).mono ?_);rintro e w12 ⟨rfl,hb⟩;replace BK48:=zw BK48 hb;replace HB:=zu hb;clear hb;have hcz13_0:=zc0 BK48;have hfz13_0:=zf BK48 0)|(go_at_call 68;(with_reducible refine (solve_right.calls k _ _ l0 _ _ l1_0 0 0 0 t56 _ (zD HR0 HB) HC0.out (zD HR1_0 HB) HC1_0.out A9.out).mono ?_);rintro e w14 ⟨rfl,hb⟩;replace BK48:=zw BK48 hb;replace HB:=zu hb;clear hb))
   go_ret
   exact ⟨ze,zv1 HB GE48⟩
  ·replace c8:=Bool.eq_false_iff.mpr c8;subst c8
   have H1:(some false)=some r:=by rw [if_neg (show ¬ (false=true) by decide)] at H;exact H
   clear H;have H:=H1;clear H1;obtain rfl:=Option.some.inj H
   go_wp2_with (first|((with_reducible refine gate_callee (f:=66) rfl ?_);refine zgo 6 Tryz.func66 #[.slice A0 l0.length c0] ?_;(with_reducible refine (solve_valid.calls k _ _ l0 t55 _ (zD HR0 HB) HC0.out A5.out).mono ?_);rintro e w15 ⟨rfl,hb⟩;refine ⟨_,rfl,?_⟩;replace BK48:=zw BK48 hb;replace HB:=zu hb;clear hb;have hcz16_0:=zc0 BK48;have hfz16_0:=zf BK48 0)|(go_at_call 67;(with_reducible refine (solve_shape.calls k _ _ l0 _ _ l1_0 false _ (zD HR0 HB) HC0.out (zD HR1_0 HB) HC1_0.out A7.out).mono ?_);rintro e w17 ⟨rfl,hb⟩;replace BK48:=zw BK48 hb;replace HB:=zu hb;clear hb))
   go_ret
   exact ⟨ze,zv1 HB GE48⟩
 ·(first|rw [c6b0]|(simp only [i64_w,i32_w];rw [c6b0])|skip)
  (try rw [c6b1]);obtain rfl:=Option.some.inj H
  go_wp2_with (first|((with_reducible refine gate_callee (f:=66) rfl ?_);refine zgo 6 Tryz.func66 #[.slice A0 l0.length c0] ?_;(with_reducible refine (solve_valid.calls k _ _ l0 t55 _ (zD HR0 HB) HC0.out A5.out).mono ?_);rintro e w18 ⟨rfl,hb⟩;refine ⟨_,rfl,?_⟩;replace BK48:=zw BK48 hb;replace HB:=zu hb;clear hb))
  go_ret
  exact ⟨ze,zv1 HB GE48⟩
def solve_Holds_1_v1.f (k:Nat) (l0_0:List Int) (l0_1:List Int) (a1_0:Int):Option (Bool):=(solve_row.f k l0_0 l0_1 a1_0).bind fun t57=>((slices_Contains_int_int.f k l0_1 t57).bind fun t62=>(some (!t62)))
def solve_Holds_1_v1.T1:Bool×List (List Nat×List Nat):=(true,[([],[]),([0],[0]),([],[]),([],[]),([2,3],[2,3]),([1,4,4],[1,4]),([5],[5]),([6,5,0,1,2,3,4,5,6],[6])])
def solve_Holds_1_v1.B1:List Nat:=[0,1,0,0,12,31,63,127]
theorem solve_Holds_1_v1.tab1:rtab .any (opsOf Tryz.f71 1)=solve_Holds_1_v1.T1:=by kernel_rfl
theorem solve_Holds_1_v1.bits1:waitsOk solve_Holds_1_v1.T1.2 solve_Holds_1_v1.B1=true:=by kernel_rfl
set_option maxHeartbeats 8000000 in
set_option maxRecDepth 100000 in
theorem solve_Holds_1_v1.calls (k:Nat) (A0_0:Option Addr) (c0_0:Nat) (l0_0:List Int) (A0_1:Option Addr) (c0_1:Nat) (l0_1:List Int) (gp1_0:Nat) (a1_0:Int) (r:Bool) (w:World) (hr0_0:Kd.C (Kd.int .i64) w A0_0 l0_0.length l0_0) (hc0_0:l0_0.length≤c0_0) (hr0_1:Kd.C (Kd.int .i64) w A0_1 l0_1.length l0_1) (hc0_1:l0_1.length≤c0_1) (hb_gp1_0:w.heap[gp1_0]?=some (.cells #[.int .i64 a1_0] 3 (0,0))) (h:solve_Holds_1_v1.f k l0_0 l0_1 a1_0=some r) :
  Calls Tryz.prog 71 #[.agg #[.slice A0_0 l0_0.length c0_0,.slice A0_1 l0_1.length c0_1],.pointer (some ⟨gp1_0,0,none⟩)] w fun e w'=>e=.returned (.bool r)∧Below w.heap.size w w':=by
 have HR0_0:=zA hr0_0;have HC0_0:=zA hc0_0;clear hr0_0 hc0_0;have HR0_1:=zA hr0_1;have HC0_1:=zA hc0_1;clear hr0_1 hc0_1;have BK51:=zA hb_gp1_0;clear hb_gp1_0;have HB:=zA (Below.refl w.heap.size w);have H:((solve_row.f k l0_0 l0_1 a1_0).bind fun t57=>((slices_Contains_int_int.f k l0_1 t57).bind fun t62=>(some (!t62))))=some r:=h;clear h;obtain ⟨t57,A3,H⟩:=zo H;obtain ⟨t62,A4,H⟩:=zo H;obtain rfl:=Option.some.inj H
 go_enter Tryz.func71,Tryz.ntmps71
 try go_wp2_with (first|((with_reducible refine gd 2 rfl ?_);refine zx #[.slice A0_0 l0_0.length c0_0,.slice A0_1 l0_1.length c0_1] 49 ?_;intro gb50 hg w5 BK50 hb GW50 HB1;have GE50:=GW50;have NB51_50:=zL hg BK51;have NB50_51:=zLs NB51_50;replace BK51:=zw BK51 hb;clear HB hb hg;have HB:=HB1;clear HB1))
 replace BK51:=zA (blk_drew BK51.out);replace BK50:=zA (blk_drew BK50.out);replace HB:=zA (below_drew1 HB.out);refine start_ (n:=8) (S:=fun w'=>w'.cell? ⟨gb50,0,none⟩=some (.slice A0_0 l0_0.length c0_0)∧w'.cell? ⟨gb50,1,none⟩=some (.slice A0_1 l0_1.length c0_1)∧w'.cell? ⟨gp1_0,0,none⟩=some (.int .i64 a1_0)) (ds:=[]) (bz 8 0) zK rfl rfl ⟨zc0 BK50,zc1 BK50,zc0 BK51⟩ (fun hHeld=>?_);refine with_tabW solve_Holds_1_v1.tab1 solve_Holds_1_v1.bits1 (fun HT_ HW_=>?_)
 generalize w5.drew=w6 at BK51 BK50 HB hHeld ⊢
 refine zP 0 4 (bz 8 1) HT_ ?_;refine zQ 1 5 (bz 8 3) HT_ HW_ hHeld ?_;refine zQ 2 6 (bz 8 7) HT_ HW_ hHeld ?_;refine zQ 3 7 (bz 8 15) HT_ HW_ hHeld ?_;refine one_ (i:=4) (N:=some 8) (bz 8 31) rfl rfl (one_of HT_.out zK) (by decide) (fun K hK=>?_);refine goes_ Tryz.func73 zK rfl #[.agg #[.slice A0_0 l0_0.length c0_0,.slice A0_1 l0_1.length c0_1],.int .i64 a1_0] (by rfl) rfl rfl zM ?_
 with_reducible refine (solve_row.calls k _ _ l0_0 _ _ l0_1 a1_0 t57 _ ?side1 ?side2 ?side3 ?side4 A3.out).mono ?_
 (case side1=>exact zC (Kd.C_below HR0_0.out HB.out));(case side2=>exact HC0_0.out);(case side3=>exact zC (Kd.C_below HR0_1.out HB.out));(case side4=>exact HC0_1.out);rintro e w7 ⟨rfl,hb⟩;refine ⟨_,rfl,?_⟩;replace BK51:=zw BK51 hb;replace BK50:=zw BK50 hb;replace HB:=zu hb;(try clear hb);(try clear hb2);(try clear hk);(try clear hi);refine hK.out _ _ ⟨zc0 BK50,zc1 BK50,zc0 BK51⟩ (fun hHeld=>?_);clear hK K;refine norm_ (a':=?_) ?_ ?_;rotate_left
 ·show Act.put _ (some 8) _=_
  simp only [Act.put,zi,zs,zt,i64_w,i32_w];rfl
 refine one_ (i:=5) (N:=some 9) (bz 8 63) rfl rfl (one_of HT_.out zK) (by decide) (fun K hK=>?_);refine goes_ Tryz.func72 zK rfl #[.slice A0_1 l0_1.length c0_1,.int .i64 t57] (by rfl) rfl rfl zM ?_
 with_reducible refine (slices_Contains_int_int.calls k _ _ l0_1 t57 t62 _ ?side1 ?side2 A4.out).mono ?_
 (case side1=>exact zC (Kd.C_below HR0_1.out HB.out));(case side2=>exact HC0_1.out);rintro e w' ⟨rfl,⟨nd,rfl⟩⟩;refine ⟨_,rfl,?_⟩;refine hK.out _ _ ⟨zc0 BK50,zc1 BK50,zc0 BK51⟩ (fun hHeld=>?_);clear hK K;refine norm_ (a':=?_) ?_ ?_;rotate_left
 ·show Act.put _ (some 9) _=_
  simp only [Act.put,zi,zs,zt,i64_w,i32_w];rfl
 refine zP 6 10 (bz 8 127) HT_ ?_;refine zP 7 3 (bz 8 255) HT_ ?_;refine done_ (done_of HT_.out zK) ?_
 try go_wp2
 go_ret
 exact ⟨ze,zv1 HB GE50⟩
end Go.Proofs.YtkjghablbeaioaaGreat.B
