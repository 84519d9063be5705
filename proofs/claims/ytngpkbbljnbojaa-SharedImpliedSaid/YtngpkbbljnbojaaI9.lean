import Derived.Test.YtngpkbbljnbojaaI0
import Derived.Test.YtngpkbbljnbojaaI2
import Derived.Test.YtngpkbbljnbojaaI3
import Derived.Test.YtngpkbbljnbojaaI4
import Derived.Test.YtngpkbbljnbojaaI7
import Derived.Test.YtngpkbbljnbojaaI8
namespace Go.Proofs.Ytngpkbbljnbojaa.I
open Go.RowKit Go.Proofs.YtngpkbbljnbojaaW.PrintWords Go.Proofs.YtngpkbbljnbojaaW.PrintLast Go.Proofs.YtngpkbbljnbojaaW.PrintMore
attribute [local go_sem] max2_int min2_int max_two min_two max_three min_three max_four min_four
set_option linter.unusedVariables false
set_option linter.unusedSimpArgs false
def solve_right.f:Nat→List (S34)→List (S116)→Int→Int→Int→Option (Bool)
 | 0,_,_,_,_,_=>none
 | k+1,l0,l1_0,a2,a3_0,a3_1=>if 0≤a2 then (if a2<(l1_0.length:Int) then (if ((rd_T116 l1_0 a2).f0)<0 then (if 0≤((rd_T116 l1_0 a2).f3) then (if ((rd_T116 l1_0 a2).f3)<(l0.length:Int) then ((solve_choices_fails.f k a3_0 a3_1 ((rd_T34 l0 ((rd_T116 l1_0 a2).f3)).f0) ((rd_T34 l0 ((rd_T116 l1_0 a2).f3)).f1)).bind fun t60=>(some t60)) else (none)) else (none)) else (if 0≤((rd_T116 l1_0 a2).f0) then (if (Go.bits .and .i64 (shr .i64 a3_0 ((rd_T116 l1_0 a2).f0)) 1)=0 then ((solve_choices_with.f a3_0 a3_1 ((rd_T116 l1_0 a2).f0) 0).bind fun bt52=>((solve_right.f k l0 l1_0 ((rd_T116 l1_0 a2).f1) bt52.1 bt52.2).bind fun t56=>(if t56=true then ((solve_choices_with.f a3_0 a3_1 ((rd_T116 l1_0 a2).f0) 1).bind fun bt49=>((solve_right.f k l0 l1_0 ((rd_T116 l1_0 a2).f2) bt49.1 bt49.2).bind fun t53=>(some t53))) else (some false)))) else (some false)) else (none))) else (none)) else (none)
theorem solve_right.mono_l:∀ k,(∀ y0 y1 y2 y3 y4,LeO (solve_right.f k y0 y1 y2 y3 y4) (solve_right.f (k+1) y0 y1 y2 y3 y4))
 | 0=>fun _ _ _ _ _ r h=>by simp [solve_right.f] at h
 | k+1=>by
  have ih0:=solve_right.mono_l k
  ·intro y0 y1 y2 y3 y4
   unfold solve_right.f
   repeat' first
   | (with_reducible exact ih0 _ _ _ _ _)
   | (with_reducible exact solve_choices_fails.mono _ _ _ _ _)
   | (with_reducible exact LeO.refl _)
   | (with_reducible exact LeO.none _)
   | (with_reducible refine LeO.ite ?_ ?_)
   | (with_reducible refine LeO.bind ?_ (fun _=>?_))
   | exact LeO.none _
   | refine LeO.ite ?_ ?_
   | refine LeO.bind ?_ (fun _=>?_)
theorem solve_right.mono:∀ a0 a1 a2 a3 a4 k,LeO (solve_right.f k a0 a1 a2 a3 a4) (solve_right.f (k+1) a0 a1 a2 a3 a4):=by
 intro a0 a1 a2 a3 a4 k;have ih0:=solve_right.mono_l k;exact ih0 a0 a1 a2 a3 a4
def solve_right.T3:Bool×List (List Nat×List Nat):=(true,[([],[]),([],[]),([],[]),([2],[2]),([1,3],[1,3]),([4],[4]),([0,5],[0,5]),([6,6,0,1,2,3,4,5,6],[6])])
def solve_right.B3:List Nat:=[0,0,0,4,14,30,63,127]
theorem solve_right.tab3:rtab .any (opsOf Try.f78 3)=solve_right.T3:=by kernel_rfl
theorem solve_right.bits3:waitsOk solve_right.T3.2 solve_right.B3=true:=by kernel_rfl
def solve_right.T4:Bool×List (List Nat×List Nat):=(true,[([],[]),([0],[0]),([],[]),([2],[2]),([1,3],[1,3]),([4],[4]),([5],[5]),([6],[6]),([7],[7]),([7],[7]),([7],[7]),([10,7],[7,10]),([7],[7]),([7],[7]),([13,7],[7,13]),([12,14,7,7],[7,12,14]),([8,9,11,15,15,7],[7,8,9,11,15]),([7,16],[7,16]),([17,16],[17]),([18],[18]),([18],[18]),([18],[18]),([21,18],[18,21]),([18],[18]),([18],[18]),([24,18],[18,24]),([23,25,18,18],[18,23,25]),([19,20,22,26,26,18],[18,19,20,22,26]),([18,27],[18,27]),([28,27,0,1,2,3,4,5,6,7,8,9,10,11,12,13,14,15,16,17,18,19,20,21,22,23,24,25,26,27,28],[28])])
def solve_right.B4:List Nat:=[0,1,0,4,15,31,63,127,255,255,255,1279,255,255,8447,28927,65535,131071,262143,524287,524287,524287,2621439,524287,524287,17301503,59244543,134217727,268435455,536870911]
theorem solve_right.tab4:rtab .any (opsOf Try.f78 4)=solve_right.T4:=by kernel_rfl
theorem solve_right.bits4:waitsOk solve_right.T4.2 solve_right.B4=true:=by kernel_rfl
set_option maxHeartbeats 8000000 in
set_option maxRecDepth 100000 in
theorem solve_right.calls (k:Nat):∀ (A0:Option Addr) (c0:Nat) (l0:List (S34)) (A1_0:Option Addr) (c1_0:Nat) (l1_0:List (S116)) (a2:Int) (a3_0:Int) (a3_1:Int) (r:Bool) (w:World) (hr0:Kd.C k34 w A0 l0.length l0) (hc0:l0.length≤c0) (hr1_0:Kd.C k116 w A1_0 l1_0.length l1_0) (hc1_0:l1_0.length≤c1_0) (h:solve_right.f k l0 l1_0 a2 a3_0 a3_1=some r),
  Calls Try.prog 78 #[.slice A0 l0.length c0,.agg #[.slice A1_0 l1_0.length c1_0],.int .i64 a2,.agg #[.int .i64 a3_0,.int .i64 a3_1]] w fun e w'=>e=.returned (.bool r)∧Below w.heap.size w w':=by
 induction k using Nat.strongRecOn with
 | _ k ih=>
 intro A0 c0 l0 A1_0 c1_0 l1_0 a2 a3_0 a3_1 r w hr0 hc0 hr1_0 hc1_0 h
 cases k with
 | zero=>exact absurd h (by simp [solve_right.f])
 | succ k=>
 simp only [solve_right.f] at h;have hu63:=Try.underlying63;have hu96:=Try.underlying96;have hu61:=Try.underlying61;have hu116:=Try.underlying116;have hu3:=Try.underlying3;have hu34:=Try.underlying34;have HR0:=zA hr0;have HC0:=zA hc0;clear hr0 hc0;have HR1_0:=zA hr1_0;have HC1_0:=zA hc1_0;clear hr1_0 hc1_0;have HB:=zA (Below.refl w.heap.size w);have H:(if 0≤a2 then (if a2<(l1_0.length:Int) then (if ((rd_T116 l1_0 a2).f0)<0 then (if 0≤((rd_T116 l1_0 a2).f3) then (if ((rd_T116 l1_0 a2).f3)<(l0.length:Int) then ((solve_choices_fails.f k a3_0 a3_1 ((rd_T34 l0 ((rd_T116 l1_0 a2).f3)).f0) ((rd_T34 l0 ((rd_T116 l1_0 a2).f3)).f1)).bind fun t60=>(some t60)) else (none)) else (none)) else (if 0≤((rd_T116 l1_0 a2).f0) then (if (Go.bits .and .i64 (shr .i64 a3_0 ((rd_T116 l1_0 a2).f0)) 1)=0 then ((solve_choices_with.f a3_0 a3_1 ((rd_T116 l1_0 a2).f0) 0).bind fun bt52=>((solve_right.f k l0 l1_0 ((rd_T116 l1_0 a2).f1) bt52.1 bt52.2).bind fun t56=>(if t56=true then ((solve_choices_with.f a3_0 a3_1 ((rd_T116 l1_0 a2).f0) 1).bind fun bt49=>((solve_right.f k l0 l1_0 ((rd_T116 l1_0 a2).f2) bt49.1 bt49.2).bind fun t53=>(some t53))) else (some false)))) else (some false)) else (none))) else (none)) else (none))=some r:=h;clear h
 by_cases c5:0≤a2
 ·rw [if_pos c5] at H;have c5b0:decide (0≤a2)=true:=decide_eq_true c5;clear c5
  by_cases c6:a2<(l1_0.length:Int)
  ·rw [if_pos c6] at H;have c6b0:decide (a2<(l1_0.length:Int))=true:=decide_eq_true c6;clear c6;have HC7:=zA H;clear H
   go_enter Try.func78,Try.ntmps78
   go_upto_if 17 with (first|((with_reducible refine gate_dst (N:=5) rfl ?_);refine box_event ?hg (N:=5) ?hd (cs:=#[.slice A1_0 l1_0.length c1_0]) (t:=63) ?hr ?_;(case hd=>rfl);(case hg=>rfl);(case hr=>first|(go_simp;done)|(go_simp;rfl));intro gb45 hg w8 hbox hb;have BK45:=zA (hbox);have GW45:=zA (zG hg (below_size zB):w.heap.size≤gb45);have GE45:=GW45;replace HB:=zA (below_step zB hb);clear hb hbox hg)|((with_reducible refine gate_dst (N:=7) rfl ?_);refine box_event ?hg (N:=7) ?hd (cs:=#[.int .i64 a3_0,.int .i64 a3_1]) (t:=96) ?hr ?_;(case hd=>rfl);(case hg=>rfl);(case hr=>first|(go_simp;done)|(go_simp;rfl));intro gb44 hg w9 hbox hb;have BK44:=zA (hbox);have GW44:=zA (zG hg (below_size zB):w.heap.size≤gb44);have GE44:=GW44;have NB45_44:=zA ((zl hg (zk BK45):gb45≠gb44));have NB44_45:=zA ((zg hg (zk BK45):gb44≠gb45));replace BK45:=zA (zb BK45 hb);replace HB:=zA (below_step zB hb);clear hb hbox hg;have hnb10:=NB45_44.out;have hnc10:=NB44_45.out;have hcz11_0:w9.cell? ⟨gb45,0,none⟩=some (.slice A1_0 l1_0.length c1_0):=(blk_cell BK45.out 0).trans rfl;have hfz11_0:=blk_frozen BK45.out 0;have p47:0≤(a2:Int):=of_decide_eq_true zh;have q47:a2<(l1_0.length:Int):=of_decide_eq_true zh;obtain ⟨ad47,e47,hx47_0,hx47_1,hx47_2,hx47_3⟩:=at_T116 HR1_0.out a2 p47 q47;cases e47;replace hx47_0:=(HB.out.cell (World.block_lt_of_cell? w _ hx47_0)).trans hx47_0;replace hx47_1:=(HB.out.cell (World.block_lt_of_cell? w _ hx47_1)).trans hx47_1;replace hx47_2:=(HB.out.cell (World.block_lt_of_cell? w _ hx47_2)).trans hx47_2;replace hx47_3:=(HB.out.cell (World.block_lt_of_cell? w _ hx47_3)).trans hx47_3;replace p47:=eq_true p47;replace q47:=eq_true q47)|((with_reducible refine gate_dst (N:=9) rfl ?_);refine box_event ?hg (N:=9) ?hd (cs:=#[.int .i64 0,.int .i64 0,.int .i64 0,.int .i64 0]) (t:=116) ?hr ?_;(case hd=>rfl);(case hg=>rfl);(case hr=>first|(go_simp;done)|(go_simp;rfl));intro gb43 hg w12 hbox hb;have BK43:=zA (hbox);have GW43:=zA (zG hg (below_size zB):w.heap.size≤gb43);have GE43:=GW43;have NB45_43:=zA ((zl hg (zk BK45):gb45≠gb43));have NB43_45:=zA ((zg hg (zk BK45):gb43≠gb45));have NB44_43:=zA ((zl hg (zk BK44):gb44≠gb43));have NB43_44:=zA ((zg hg (zk BK44):gb43≠gb44));replace BK45:=zA (zb BK45 hb);replace BK44:=zA (zb BK44 hb);replace HB:=zA (below_step zB hb);clear hb hbox hg;have hnb13:=NB43_45.out;have hnc13:=NB45_43.out;have hnb14:=NB43_44.out;have hnc14:=NB44_43.out;have hcz15_0:w12.cell? ⟨gb43,0,none⟩=some (.int .i64 0):=(blk_cell BK43.out 0).trans rfl;have hcz15_1:w12.cell? ⟨gb43,1,none⟩=some (.int .i64 0):=(blk_cell BK43.out 1).trans rfl;have hcz15_2:w12.cell? ⟨gb43,2,none⟩=some (.int .i64 0):=(blk_cell BK43.out 2).trans rfl;have hcz15_3:w12.cell? ⟨gb43,3,none⟩=some (.int .i64 0):=(blk_cell BK43.out 3).trans rfl;have hfz15_0:=blk_frozen BK43.out 0;have hfz15_1:=blk_frozen BK43.out 1;have hfz15_2:=blk_frozen BK43.out 2;have hfz15_3:=blk_frozen BK43.out 3))
   (try simp only [Act.put,zi,zs,zt]);have H:=HC7.out;clear HC7
   by_cases c16:((rd_T116 l1_0 a2).f0)<0
   ·rw [if_pos c16] at H;have c16b0:decide (((rd_T116 l1_0 a2).f0)<0)=true:=decide_eq_true c16;clear c16
    (first|rw [c16b0]|(simp only [i64_w,i32_w];rw [c16b0])|skip)
    by_cases c17:0≤((rd_T116 l1_0 a2).f3)
    ·rw [if_pos c17] at H;have c17b0:decide (0≤((rd_T116 l1_0 a2).f3))=true:=decide_eq_true c17;clear c17
     by_cases c18:((rd_T116 l1_0 a2).f3)<(l0.length:Int)
     ·rw [if_pos c18] at H;have c18b0:decide (((rd_T116 l1_0 a2).f3)<(l0.length:Int))=true:=decide_eq_true c18;clear c18;replace H:=Option.bind_eq_some_iff.mp H;obtain ⟨t60,A67,H⟩:=H;replace H:(some t60)=some r:=H;have A19:=zA A67;clear A67;obtain rfl:=Option.some.inj H
      try go_wp2
      have n0_:Aside0 (((((w12.setCell ⟨gb43,0,none⟩ (.int .i64 ((rd_T116 l1_0 a2).f0))).setCell ⟨gb43,1,none⟩ (.int .i64 ((rd_T116 l1_0 a2).f1))).setCell ⟨gb43,2,none⟩ (.int .i64 ((rd_T116 l1_0 a2).f2))).setCell ⟨gb43,3,none⟩ (.int .i64 ((rd_T116 l1_0 a2).f3))).heap[gb45]?=some (.cells #[.slice (some ad47) l1_0.length c1_0] 63 (0,0))):=⟨by refine zj ?_;refine blk_far ?_ NB45_43.out _;refine zj ?_;refine blk_far ?_ NB45_43.out _;refine zj ?_;refine blk_far ?_ NB45_43.out _;refine zj ?_;refine blk_far ?_ NB45_43.out _;refine zj ?_;exact BK45.out⟩
      have n1_:Aside0 (((((w12.setCell ⟨gb43,0,none⟩ (.int .i64 ((rd_T116 l1_0 a2).f0))).setCell ⟨gb43,1,none⟩ (.int .i64 ((rd_T116 l1_0 a2).f1))).setCell ⟨gb43,2,none⟩ (.int .i64 ((rd_T116 l1_0 a2).f2))).setCell ⟨gb43,3,none⟩ (.int .i64 ((rd_T116 l1_0 a2).f3))).heap[gb44]?=some (.cells #[.int .i64 a3_0,.int .i64 a3_1] 96 (0,0))):=⟨by refine zj ?_;refine blk_far ?_ NB44_43.out _;refine zj ?_;refine blk_far ?_ NB44_43.out _;refine zj ?_;refine blk_far ?_ NB44_43.out _;refine zj ?_;refine blk_far ?_ NB44_43.out _;refine zj ?_;exact BK44.out⟩
      have n2_:Aside0 (((((w12.setCell ⟨gb43,0,none⟩ (.int .i64 ((rd_T116 l1_0 a2).f0))).setCell ⟨gb43,1,none⟩ (.int .i64 ((rd_T116 l1_0 a2).f1))).setCell ⟨gb43,2,none⟩ (.int .i64 ((rd_T116 l1_0 a2).f2))).setCell ⟨gb43,3,none⟩ (.int .i64 ((rd_T116 l1_0 a2).f3))).heap[gb43]?=some (.cells #[.int .i64 ((rd_T116 l1_0 a2).f0),.int .i64 ((rd_T116 l1_0 a2).f1),.int .i64 ((rd_T116 l1_0 a2).f2),.int .i64 ((rd_T116 l1_0 a2).f3)] 116 (0,0))):=⟨by refine zj ?_;refine blk_put (cs:=#[.int .i64 ((rd_T116 l1_0 a2).f0),.int .i64 ((rd_T116 l1_0 a2).f1),.int .i64 ((rd_T116 l1_0 a2).f2),.int .i64 0]) ?_ 3 _ rfl;refine zj ?_;refine blk_put (cs:=#[.int .i64 ((rd_T116 l1_0 a2).f0),.int .i64 ((rd_T116 l1_0 a2).f1),.int .i64 0,.int .i64 0]) ?_ 2 _ rfl;refine zj ?_;refine blk_put (cs:=#[.int .i64 ((rd_T116 l1_0 a2).f0),.int .i64 0,.int .i64 0,.int .i64 0]) ?_ 1 _ rfl;refine zj ?_;refine blk_put (cs:=#[.int .i64 0,.int .i64 0,.int .i64 0,.int .i64 0]) ?_ 0 _ rfl;refine zj ?_;exact BK43.out⟩
      have n3_:Aside0 (Below w.heap.size w ((((w12.setCell ⟨gb43,0,none⟩ (.int .i64 ((rd_T116 l1_0 a2).f0))).setCell ⟨gb43,1,none⟩ (.int .i64 ((rd_T116 l1_0 a2).f1))).setCell ⟨gb43,2,none⟩ (.int .i64 ((rd_T116 l1_0 a2).f2))).setCell ⟨gb43,3,none⟩ (.int .i64 ((rd_T116 l1_0 a2).f3)))):=⟨zv3 HB GE45 GE44 GE43⟩
      (try clear BK45);(try clear BK44);(try clear BK43);(try clear HB)
      generalize ((((w12.setCell ⟨gb43,0,none⟩ (.int .i64 ((rd_T116 l1_0 a2).f0))).setCell ⟨gb43,1,none⟩ (.int .i64 ((rd_T116 l1_0 a2).f1))).setCell ⟨gb43,2,none⟩ (.int .i64 ((rd_T116 l1_0 a2).f2))).setCell ⟨gb43,3,none⟩ (.int .i64 ((rd_T116 l1_0 a2).f3)))=w20 at n0_ n1_ n2_ n3_ ⊢
      have BK45:=n0_;have BK44:=n1_;have BK43:=n2_;have HB:=n3_;clear n0_ n1_ n2_ n3_;replace BK45:=zA (blk_drew BK45.out);replace BK44:=zA (blk_drew BK44.out);replace BK43:=zA (blk_drew BK43.out);replace HB:=zA (below_drew1 HB.out);have p46:0≤(((rd_T116 l1_0 a2).f3):Int):=of_decide_eq_true zh;have q46:((rd_T116 l1_0 a2).f3)<(l0.length:Int):=of_decide_eq_true zh;obtain ⟨ad46,A46_0,c46_0,A46_1,c46_1,e46,hx46_0,hx46_1,hl46_0,hi46_0,hl46_1,hi46_1⟩:=at_T34 HR0.out ((rd_T116 l1_0 a2).f3) p46 q46;have hw46_1:=hx46_1;have hw46_0:=hx46_0
      cases e46
      replace hx46_0:=(HB.out.cell (World.block_lt_of_cell? w _ hx46_0)).trans hx46_0;replace hx46_1:=(HB.out.cell (World.block_lt_of_cell? w _ hx46_1)).trans hx46_1;have HR46_0:=zA hi46_0;have HC46_0:=zA hl46_0;clear hi46_0 hl46_0;have HR46_1:=zA hi46_1;have HC46_1:=zA hl46_1;clear hi46_1 hl46_1;replace p46:=eq_true p46;replace q46:=eq_true q46;refine start_ (n:=8) (S:=fun w'=>w'.cell? ⟨gb44,0,none⟩=some (.int .i64 a3_0)∧w'.cell? ⟨gb44,1,none⟩=some (.int .i64 a3_1)∧w'.cell? ⟨gb43,0,none⟩=some (.int .i64 ((rd_T116 l1_0 a2).f0))∧w'.cell? ⟨gb43,1,none⟩=some (.int .i64 ((rd_T116 l1_0 a2).f1))∧w'.cell? ⟨gb43,2,none⟩=some (.int .i64 ((rd_T116 l1_0 a2).f2))∧w'.cell? ⟨gb43,3,none⟩=some (.int .i64 ((rd_T116 l1_0 a2).f3))∧w'.cell? (ad46.add ((((rd_T116 l1_0 a2).f3)).toNat * 2))=some (.slice A46_0 ((rd_T34 l0 ((rd_T116 l1_0 a2).f3)).f0).length c46_0)∧w'.cell? ⟨(ad46.add ((((rd_T116 l1_0 a2).f3)).toNat * 2)).block,(ad46.add ((((rd_T116 l1_0 a2).f3)).toNat * 2)).off+1,none⟩=some (.slice A46_1 ((rd_T34 l0 ((rd_T116 l1_0 a2).f3)).f1).length c46_1)) (ds:=[]) #[false,false,false,false,false,false,false,false] zK rfl rfl ⟨(blk_cell BK44.out 0).trans rfl,(blk_cell BK44.out 1).trans rfl,(blk_cell BK43.out 0).trans rfl,(blk_cell BK43.out 1).trans rfl,(blk_cell BK43.out 2).trans rfl,(blk_cell BK43.out 3).trans rfl,((HB.out.cell (World.block_lt_of_cell? w _ hw46_0)).trans hw46_0),((HB.out.cell (World.block_lt_of_cell? w _ hw46_1)).trans hw46_1)⟩ (fun hHeld=>?_);refine with_tabW solve_right.tab3 solve_right.bits3 (fun HT_ HW_=>?_)
      generalize w20.drew=w21 at BK45 BK44 BK43 HB HR46_0 HR46_1 hx46_0 hx46_1 hHeld ⊢
      refine pure_ (i:=1) (N:=some 19) (v:=?_) (a':=?_) #[false,true,false,false,false,false,false,false] rfl rfl (any_of HT_.out zK) (fun _ _ _ h=>h) (Or.inl ⟨by rfl,?_⟩) ?_ ?_;rotate_left
      ·intro w'
       go_simp
       with_reducible rfl
      rotate_left
      ·simp only [Act.put,zi,zs,zt,i64_w,i32_w];rfl
      refine pure_ (i:=2) (N:=some 20) (v:=?_) (a':=?_) #[false,true,true,false,false,false,false,false] rfl rfl (any_of HT_.out zK) (fun _ _ _ h=>h) (Or.inl ⟨by rfl,?_⟩) ?_ ?_;rotate_left
      ·intro w'
       go_simp
       with_reducible rfl
      rotate_left
      ·simp only [Act.put,zi,zs,zt,i64_w,i32_w];rfl
      refine take_ (i:=0) (N:=some 18) (v:=?_) (a':=?_) #[true,true,true,false,false,false,false,false] rfl rfl (take_ofW HT_.out HW_.out zK) (fun _ _ _ h=>h) (Or.inl ⟨by rfl,?_⟩) hHeld ?_ ?_;rotate_left
      ·rintro w' ⟨s0,s1,s2,s3,s4,s5,s6,s7⟩
       go_simp
       with_reducible rfl
      rotate_left
      ·simp only [Act.put,zi,zs,zt,i64_w,i32_w];rfl
      refine take_ (i:=3) (N:=some 21) (v:=?_) (a':=?_) #[true,true,true,true,false,false,false,false] rfl rfl (take_ofW HT_.out HW_.out zK) (fun _ _ _ h=>h) (Or.inl ⟨by rfl,?_⟩) hHeld ?_ ?_;rotate_left
      ·rintro w' ⟨s0,s1,s2,s3,s4,s5,s6,s7⟩
       go_simp
       with_reducible rfl
      rotate_left
      ·simp only [Act.put,zi,zs,zt,i64_w,i32_w];rfl
      refine pure_ (i:=4) (N:=some 22) (v:=?_) (a':=?_) #[true,true,true,true,true,false,false,false] rfl rfl (any_of HT_.out zK) (fun _ _ _ h=>h) (Or.inl ⟨by rfl,?_⟩) ?_ ?_;rotate_left
      ·intro w'
       go_simp
       with_reducible rfl
      rotate_left
      ·simp only [Act.put,zi,zs,zt,i64_w,i32_w];rfl
      refine take_ (i:=5) (N:=some 23) (v:=?_) (a':=?_) #[true,true,true,true,true,true,false,false] rfl rfl (take_ofW HT_.out HW_.out zK) (fun _ _ _ h=>h) (Or.inl ⟨by rfl,?_⟩) hHeld ?_ ?_;rotate_left
      ·rintro w' ⟨s0,s1,s2,s3,s4,s5,s6,s7⟩
       go_simp
       with_reducible rfl
      rotate_left
      ·simp only [Act.put,zi,zs,zt,i64_w,i32_w];rfl
      refine one_ (i:=6) (N:=some 24) #[true,true,true,true,true,true,true,false] rfl rfl (one_of HT_.out zK) (by decide) (fun K hK=>?_);refine goes_ Try.func85 zK rfl #[.agg #[.int .i64 a3_0,.int .i64 a3_1],.agg #[.slice A46_0 ((rd_T34 l0 ((rd_T116 l1_0 a2).f3)).f0).length c46_0,.slice A46_1 ((rd_T34 l0 ((rd_T116 l1_0 a2).f3)).f1).length c46_1]] (by rfl) rfl rfl zM ?_
      with_reducible refine (solve_choices_fails.calls k a3_0 a3_1 _ _ ((rd_T34 l0 ((rd_T116 l1_0 a2).f3)).f0) _ _ ((rd_T34 l0 ((rd_T116 l1_0 a2).f3)).f1) t60 _ ?side1 ?side2 ?side3 ?side4 A19.out).mono ?_
      (case side1=>exact zC (Kd.C_below HR46_0.out HB.out));(case side2=>exact HC46_0.out);(case side3=>exact zC (Kd.C_below HR46_1.out HB.out));(case side4=>exact HC46_1.out);rintro e w22 ⟨rfl,hb⟩;refine ⟨_,rfl,?_⟩;replace BK45:=zA (zb BK45 hb);replace BK44:=zA (zb BK44 hb);replace BK43:=zA (zb BK43 hb);replace HB:=zA (below_step zB hb);(try clear hb);(try clear hb2);(try clear hk);(try clear hi);refine hK.out _ _ ⟨(blk_cell BK44.out 0).trans rfl,(blk_cell BK44.out 1).trans rfl,(blk_cell BK43.out 0).trans rfl,(blk_cell BK43.out 1).trans rfl,(blk_cell BK43.out 2).trans rfl,(blk_cell BK43.out 3).trans rfl,((HB.out.cell (World.block_lt_of_cell? w _ hw46_0)).trans hw46_0),((HB.out.cell (World.block_lt_of_cell? w _ hw46_1)).trans hw46_1)⟩ (fun hHeld=>?_);clear hK K;refine norm_ (a':=?_) ?_ ?_;rotate_left
      ·show Act.put _ (some 24) _=_
       simp only [Act.put,zi,zs,zt,i64_w,i32_w];rfl
      refine pure_ (i:=7) (N:=some 8) (v:=?_) (a':=?_) #[true,true,true,true,true,true,true,true] rfl rfl (any_of HT_.out zK) (fun _ _ _ h=>h) (Or.inl ⟨by rfl,?_⟩) ?_ ?_;rotate_left
      ·intro w'
       go_simp
       with_reducible rfl
      rotate_left
      ·simp only [Act.put,zi,zs,zt,i64_w,i32_w];rfl
      refine done_ (done_of HT_.out zK) ?_
      try go_wp2
      go_ret
      exact ⟨ze,zv3 HB GE45 GE44 GE43⟩
     ·rw [if_neg c18] at H;exact absurd H (by simp)
    ·rw [if_neg c17] at H;exact absurd H (by simp)
   ·rw [if_neg c16] at H;have c16b0:decide (((rd_T116 l1_0 a2).f0)<0)=false:=decide_eq_false c16;clear c16
    (first|rw [c16b0]|(simp only [i64_w,i32_w];rw [c16b0])|skip)
    by_cases c23:0≤((rd_T116 l1_0 a2).f0)
    ·rw [if_pos c23] at H;have c23b0:=eq_true c23;have c23b1:decide (0≤((rd_T116 l1_0 a2).f0))=true:=decide_eq_true c23;clear c23
     obtain ⟨ji24,hji24⟩:∃ j_:Int,(shr .i64 a3_0 ((rd_T116 l1_0 a2).f0))=j_:=⟨_,rfl⟩
     replace H:(if (Go.bits .and .i64 (ji24) 1)=0 then ((solve_choices_with.f a3_0 a3_1 ((rd_T116 l1_0 a2).f0) 0).bind fun bt52=>((solve_right.f k l0 l1_0 ((rd_T116 l1_0 a2).f1) bt52.1 bt52.2).bind fun t56=>(if t56=true then ((solve_choices_with.f a3_0 a3_1 ((rd_T116 l1_0 a2).f0) 1).bind fun bt49=>((solve_right.f k l0 l1_0 ((rd_T116 l1_0 a2).f2) bt49.1 bt49.2).bind fun t53=>(some t53))) else (some false)))) else (some false))=some r:=by first|(rw [hji24] at H;exact H)|(simp only [hji24] at H ⊢;exact H)
     have hji24_:(a3_0 / 2 ^ min ((rd_T116 l1_0 a2).f0).toNat 64)=ji24:=hji24;have hji24z:((rd_T116 l1_0 a2).f0)≤64→(a3_0 / 2 ^ ((rd_T116 l1_0 a2).f0).toNat)=ji24:=shr_small hji24
     by_cases c25:(Go.bits .and .i64 (ji24) 1)=0
     ·rw [if_pos c25] at H;have c25b0:((Go.bits .and .i64 (ji24) 1) == 0)=true:=beq_iff_eq.mpr c25;have c25b1:((Go.bits .and .i64 (ji24) 1) != 0)=false:=bne_eq_false_iff_eq.mpr c25;clear c25;replace H:=Option.bind_eq_some_iff.mp H;obtain ⟨⟨t52,t59⟩,A68,H⟩:=H;replace H:((solve_right.f k l0 l1_0 ((rd_T116 l1_0 a2).f1) t52 t59).bind fun t56=>(if t56=true then ((solve_choices_with.f a3_0 a3_1 ((rd_T116 l1_0 a2).f0) 1).bind fun bt49=>((solve_right.f k l0 l1_0 ((rd_T116 l1_0 a2).f2) bt49.1 bt49.2).bind fun t53=>(some t53))) else (some false)))=some r:=H;have A26:=zA A68;clear A68;replace H:=Option.bind_eq_some_iff.mp H;obtain ⟨t56,A69,H⟩:=H;replace H:(if t56=true then ((solve_choices_with.f a3_0 a3_1 ((rd_T116 l1_0 a2).f0) 1).bind fun bt49=>((solve_right.f k l0 l1_0 ((rd_T116 l1_0 a2).f2) bt49.1 bt49.2).bind fun t53=>(some t53))) else (some false))=some r:=H;have A27:=zA A69;clear A69
      by_cases c28:t56=true
      ·subst c28
       have H1:((solve_choices_with.f a3_0 a3_1 ((rd_T116 l1_0 a2).f0) 1).bind fun bt49=>((solve_right.f k l0 l1_0 ((rd_T116 l1_0 a2).f2) bt49.1 bt49.2).bind fun t53=>(some t53)))=some r:=by rw [if_pos rfl] at H;exact H
       clear H;have H:=H1;clear H1;replace H:=Option.bind_eq_some_iff.mp H;obtain ⟨⟨t49,t65⟩,A71,H⟩:=H;replace H:((solve_right.f k l0 l1_0 ((rd_T116 l1_0 a2).f2) t49 t65).bind fun t53=>(some t53))=some r:=H;have A29:=zA A71;clear A71;replace H:=Option.bind_eq_some_iff.mp H;obtain ⟨t53,A72,H⟩:=H;replace H:(some t53)=some r:=H;have A30:=zA A72;clear A72;obtain rfl:=Option.some.inj H
       try go_wp2
       have n0_:Aside0 (((((w12.setCell ⟨gb43,0,none⟩ (.int .i64 ((rd_T116 l1_0 a2).f0))).setCell ⟨gb43,1,none⟩ (.int .i64 ((rd_T116 l1_0 a2).f1))).setCell ⟨gb43,2,none⟩ (.int .i64 ((rd_T116 l1_0 a2).f2))).setCell ⟨gb43,3,none⟩ (.int .i64 ((rd_T116 l1_0 a2).f3))).heap[gb45]?=some (.cells #[.slice (some ad47) l1_0.length c1_0] 63 (0,0))):=⟨by refine zj ?_;refine blk_far ?_ NB45_43.out _;refine zj ?_;refine blk_far ?_ NB45_43.out _;refine zj ?_;refine blk_far ?_ NB45_43.out _;refine zj ?_;refine blk_far ?_ NB45_43.out _;refine zj ?_;exact BK45.out⟩
       have n1_:Aside0 (((((w12.setCell ⟨gb43,0,none⟩ (.int .i64 ((rd_T116 l1_0 a2).f0))).setCell ⟨gb43,1,none⟩ (.int .i64 ((rd_T116 l1_0 a2).f1))).setCell ⟨gb43,2,none⟩ (.int .i64 ((rd_T116 l1_0 a2).f2))).setCell ⟨gb43,3,none⟩ (.int .i64 ((rd_T116 l1_0 a2).f3))).heap[gb44]?=some (.cells #[.int .i64 a3_0,.int .i64 a3_1] 96 (0,0))):=⟨by refine zj ?_;refine blk_far ?_ NB44_43.out _;refine zj ?_;refine blk_far ?_ NB44_43.out _;refine zj ?_;refine blk_far ?_ NB44_43.out _;refine zj ?_;refine blk_far ?_ NB44_43.out _;refine zj ?_;exact BK44.out⟩
       have n2_:Aside0 (((((w12.setCell ⟨gb43,0,none⟩ (.int .i64 ((rd_T116 l1_0 a2).f0))).setCell ⟨gb43,1,none⟩ (.int .i64 ((rd_T116 l1_0 a2).f1))).setCell ⟨gb43,2,none⟩ (.int .i64 ((rd_T116 l1_0 a2).f2))).setCell ⟨gb43,3,none⟩ (.int .i64 ((rd_T116 l1_0 a2).f3))).heap[gb43]?=some (.cells #[.int .i64 ((rd_T116 l1_0 a2).f0),.int .i64 ((rd_T116 l1_0 a2).f1),.int .i64 ((rd_T116 l1_0 a2).f2),.int .i64 ((rd_T116 l1_0 a2).f3)] 116 (0,0))):=⟨by refine zj ?_;refine blk_put (cs:=#[.int .i64 ((rd_T116 l1_0 a2).f0),.int .i64 ((rd_T116 l1_0 a2).f1),.int .i64 ((rd_T116 l1_0 a2).f2),.int .i64 0]) ?_ 3 _ rfl;refine zj ?_;refine blk_put (cs:=#[.int .i64 ((rd_T116 l1_0 a2).f0),.int .i64 ((rd_T116 l1_0 a2).f1),.int .i64 0,.int .i64 0]) ?_ 2 _ rfl;refine zj ?_;refine blk_put (cs:=#[.int .i64 ((rd_T116 l1_0 a2).f0),.int .i64 0,.int .i64 0,.int .i64 0]) ?_ 1 _ rfl;refine zj ?_;refine blk_put (cs:=#[.int .i64 0,.int .i64 0,.int .i64 0,.int .i64 0]) ?_ 0 _ rfl;refine zj ?_;exact BK43.out⟩
       have n3_:Aside0 (Below w.heap.size w ((((w12.setCell ⟨gb43,0,none⟩ (.int .i64 ((rd_T116 l1_0 a2).f0))).setCell ⟨gb43,1,none⟩ (.int .i64 ((rd_T116 l1_0 a2).f1))).setCell ⟨gb43,2,none⟩ (.int .i64 ((rd_T116 l1_0 a2).f2))).setCell ⟨gb43,3,none⟩ (.int .i64 ((rd_T116 l1_0 a2).f3)))):=⟨zv3 HB GE45 GE44 GE43⟩
       (try clear BK45);(try clear BK44);(try clear BK43);(try clear HB)
       generalize ((((w12.setCell ⟨gb43,0,none⟩ (.int .i64 ((rd_T116 l1_0 a2).f0))).setCell ⟨gb43,1,none⟩ (.int .i64 ((rd_T116 l1_0 a2).f1))).setCell ⟨gb43,2,none⟩ (.int .i64 ((rd_T116 l1_0 a2).f2))).setCell ⟨gb43,3,none⟩ (.int .i64 ((rd_T116 l1_0 a2).f3)))=w31 at n0_ n1_ n2_ n3_ ⊢
       have BK45:=n0_;have BK44:=n1_;have BK43:=n2_;have HB:=n3_;clear n0_ n1_ n2_ n3_;replace BK45:=zA (blk_drew BK45.out);replace BK44:=zA (blk_drew BK44.out);replace BK43:=zA (blk_drew BK43.out);replace HB:=zA (below_drew1 HB.out);refine start_ (n:=30) (S:=fun w'=>w'.cell? ⟨gb44,0,none⟩=some (.int .i64 a3_0)∧w'.cell? ⟨gb44,1,none⟩=some (.int .i64 a3_1)∧w'.cell? ⟨gb43,0,none⟩=some (.int .i64 ((rd_T116 l1_0 a2).f0))∧w'.cell? ⟨gb43,1,none⟩=some (.int .i64 ((rd_T116 l1_0 a2).f1))∧w'.cell? ⟨gb43,2,none⟩=some (.int .i64 ((rd_T116 l1_0 a2).f2))∧w'.cell? ⟨gb43,3,none⟩=some (.int .i64 ((rd_T116 l1_0 a2).f3))∧w'.cell? ⟨gb45,0,none⟩=some (.slice (some ad47) l1_0.length c1_0)) (ds:=[]) #[false,false,false,false,false,false,false,false,false,false,false,false,false,false,false,false,false,false,false,false,false,false,false,false,false,false,false,false,false,false] zK rfl rfl ⟨(blk_cell BK44.out 0).trans rfl,(blk_cell BK44.out 1).trans rfl,(blk_cell BK43.out 0).trans rfl,(blk_cell BK43.out 1).trans rfl,(blk_cell BK43.out 2).trans rfl,(blk_cell BK43.out 3).trans rfl,(blk_cell BK45.out 0).trans rfl⟩ (fun hHeld=>?_);refine with_tabW solve_right.tab4 solve_right.bits4 (fun HT_ HW_=>?_)
       generalize w31.drew=w32 at BK45 BK44 BK43 HB hHeld ⊢
       refine pure_ (i:=0) (N:=some 25) (v:=?_) (a':=?_) #[true,false,false,false,false,false,false,false,false,false,false,false,false,false,false,false,false,false,false,false,false,false,false,false,false,false,false,false,false,false] rfl rfl (any_of HT_.out zK) (fun _ _ _ h=>h) (Or.inl ⟨by rfl,?_⟩) ?_ ?_;rotate_left
       ·intro w'
        go_simp
        with_reducible rfl
       rotate_left
       ·simp only [Act.put,zi,zs,zt,i64_w,i32_w];rfl
       refine pure_ (i:=2) (N:=some 27) (v:=?_) (a':=?_) #[true,false,true,false,false,false,false,false,false,false,false,false,false,false,false,false,false,false,false,false,false,false,false,false,false,false,false,false,false,false] rfl rfl (any_of HT_.out zK) (fun _ _ _ h=>h) (Or.inl ⟨by rfl,?_⟩) ?_ ?_;rotate_left
       ·intro w'
        go_simp
        with_reducible rfl
       rotate_left
       ·simp only [Act.put,zi,zs,zt,i64_w,i32_w];rfl
       refine take_ (i:=1) (N:=some 26) (v:=?_) (a':=?_) #[true,true,true,false,false,false,false,false,false,false,false,false,false,false,false,false,false,false,false,false,false,false,false,false,false,false,false,false,false,false] rfl rfl (take_ofW HT_.out HW_.out zK) (fun _ _ _ h=>h) (Or.inl ⟨by rfl,?_⟩) hHeld ?_ ?_;rotate_left
       ·rintro w' ⟨s0,s1,s2,s3,s4,s5,s6⟩
        go_simp
        with_reducible rfl
       rotate_left
       ·simp only [Act.put,zi,zs,zt,i64_w,i32_w];rfl
       refine take_ (i:=3) (N:=some 28) (v:=?_) (a':=?_) #[true,true,true,true,false,false,false,false,false,false,false,false,false,false,false,false,false,false,false,false,false,false,false,false,false,false,false,false,false,false] rfl rfl (take_ofW HT_.out HW_.out zK) (fun _ _ _ h=>h) (Or.inl ⟨by rfl,?_⟩) hHeld ?_ ?_;rotate_left
       ·rintro w' ⟨s0,s1,s2,s3,s4,s5,s6⟩
        go_simp
        with_reducible rfl
       rotate_left
       ·simp only [Act.put,zi,zs,zt,i64_w,i32_w];rfl
       refine pure_ (i:=4) (N:=some 29) (v:=?_) (a':=?_) #[true,true,true,true,true,false,false,false,false,false,false,false,false,false,false,false,false,false,false,false,false,false,false,false,false,false,false,false,false,false] rfl rfl (any_of HT_.out zK) (fun _ _ _ h=>h) (Or.inl ⟨by rfl,?_⟩) ?_ ?_;rotate_left
       ·intro w'
        go_simp
        with_reducible rfl
       rotate_left
       ·simp only [Act.put,zi,zs,zt,i64_w,i32_w];rfl
       refine pure_ (i:=5) (N:=some 30) (v:=?_) (a':=?_) #[true,true,true,true,true,true,false,false,false,false,false,false,false,false,false,false,false,false,false,false,false,false,false,false,false,false,false,false,false,false] rfl rfl (any_of HT_.out zK) (fun _ _ _ h=>h) (Or.inl ⟨by rfl,?_⟩) ?_ ?_;rotate_left
       ·intro w'
        go_simp
        with_reducible rfl
       rotate_left
       ·simp only [Act.put,zi,zs,zt,i64_w,i32_w];rfl
       refine pure_ (i:=6) (N:=some 31) (v:=?_) (a':=?_) #[true,true,true,true,true,true,true,false,false,false,false,false,false,false,false,false,false,false,false,false,false,false,false,false,false,false,false,false,false,false] rfl rfl (any_of HT_.out zK) (fun _ _ _ h=>h) (Or.inl ⟨by rfl,?_⟩) ?_ ?_;rotate_left
       ·intro w'
        go_simp
        with_reducible rfl
       rotate_left
       ·simp only [Act.put,zi,zs,zt,i64_w,i32_w];rfl
       refine pure_ (i:=7) (N:=some 32) (v:=?_) (a':=?_) #[true,true,true,true,true,true,true,true,false,false,false,false,false,false,false,false,false,false,false,false,false,false,false,false,false,false,false,false,false,false] rfl rfl (any_of HT_.out zK) (fun _ _ _ h=>h) (Or.inl ⟨by rfl,?_⟩) ?_ ?_;rotate_left
       ·intro w'
        go_simp
        with_reducible rfl
       rotate_left
       ·simp only [Act.put,zi,zs,zt,i64_w,i32_w];rfl
       refine pure_ (i:=8) (N:=some 33) (v:=?_) (a':=?_) #[true,true,true,true,true,true,true,true,true,false,false,false,false,false,false,false,false,false,false,false,false,false,false,false,false,false,false,false,false,false] rfl rfl (any_of HT_.out zK) (fun _ _ _ h=>h) (Or.inl ⟨by rfl,?_⟩) ?_ ?_;rotate_left
       ·intro w'
        go_simp
        with_reducible rfl
       rotate_left
       ·simp only [Act.put,zi,zs,zt,i64_w,i32_w];rfl
       refine pure_ (i:=10) (N:=some 35) (v:=?_) (a':=?_) #[true,true,true,true,true,true,true,true,true,false,true,false,false,false,false,false,false,false,false,false,false,false,false,false,false,false,false,false,false,false] rfl rfl (any_of HT_.out zK) (fun _ _ _ h=>h) (Or.inl ⟨by rfl,?_⟩) ?_ ?_;rotate_left
       ·intro w'
        go_simp
        with_reducible rfl
       rotate_left
       ·simp only [Act.put,zi,zs,zt,i64_w,i32_w];rfl
       refine pure_ (i:=13) (N:=some 38) (v:=?_) (a':=?_) #[true,true,true,true,true,true,true,true,true,false,true,false,false,true,false,false,false,false,false,false,false,false,false,false,false,false,false,false,false,false] rfl rfl (any_of HT_.out zK) (fun _ _ _ h=>h) (Or.inl ⟨by rfl,?_⟩) ?_ ?_;rotate_left
       ·intro w'
        go_simp
        with_reducible rfl
       rotate_left
       ·simp only [Act.put,zi,zs,zt,i64_w,i32_w];rfl
       refine take_ (i:=9) (N:=some 34) (v:=?_) (a':=?_) #[true,true,true,true,true,true,true,true,true,true,true,false,false,true,false,false,false,false,false,false,false,false,false,false,false,false,false,false,false,false] rfl rfl (take_ofW HT_.out HW_.out zK) (fun _ _ _ h=>h) (Or.inl ⟨by rfl,?_⟩) hHeld ?_ ?_;rotate_left
       ·rintro w' ⟨s0,s1,s2,s3,s4,s5,s6⟩
        go_simp
        with_reducible rfl
       rotate_left
       ·simp only [Act.put,zi,zs,zt,i64_w,i32_w];rfl
       refine take_ (i:=11) (N:=some 36) (v:=?_) (a':=?_) #[true,true,true,true,true,true,true,true,true,true,true,true,false,true,false,false,false,false,false,false,false,false,false,false,false,false,false,false,false,false] rfl rfl (take_ofW HT_.out HW_.out zK) (fun _ _ _ h=>h) (Or.inl ⟨by rfl,?_⟩) hHeld ?_ ?_;rotate_left
       ·rintro w' ⟨s0,s1,s2,s3,s4,s5,s6⟩
        go_simp
        with_reducible rfl
       rotate_left
       ·simp only [Act.put,zi,zs,zt,i64_w,i32_w];rfl
       refine take_ (i:=12) (N:=some 37) (v:=?_) (a':=?_) #[true,true,true,true,true,true,true,true,true,true,true,true,true,true,false,false,false,false,false,false,false,false,false,false,false,false,false,false,false,false] rfl rfl (take_ofW HT_.out HW_.out zK) (fun _ _ _ h=>h) (Or.inl ⟨by rfl,?_⟩) hHeld ?_ ?_;rotate_left
       ·rintro w' ⟨s0,s1,s2,s3,s4,s5,s6⟩
        go_simp
        with_reducible rfl
       rotate_left
       ·simp only [Act.put,zi,zs,zt,i64_w,i32_w];rfl
       refine take_ (i:=14) (N:=some 39) (v:=?_) (a':=?_) #[true,true,true,true,true,true,true,true,true,true,true,true,true,true,true,false,false,false,false,false,false,false,false,false,false,false,false,false,false,false] rfl rfl (take_ofW HT_.out HW_.out zK) (fun _ _ _ h=>h) (Or.inl ⟨by rfl,?_⟩) hHeld ?_ ?_;rotate_left
       ·rintro w' ⟨s0,s1,s2,s3,s4,s5,s6⟩
        go_simp
        with_reducible rfl
       rotate_left
       ·simp only [Act.put,zi,zs,zt,i64_w,i32_w];rfl
       refine one_ (i:=15) (N:=some 40) #[true,true,true,true,true,true,true,true,true,true,true,true,true,true,true,true,false,false,false,false,false,false,false,false,false,false,false,false,false,false] rfl rfl (one_of HT_.out zK) (by decide) (fun K hK=>?_);refine goes_ Try.func82 zK rfl #[.agg #[.int .i64 a3_0,.int .i64 a3_1],.int .i64 ((rd_T116 l1_0 a2).f0),.int .i64 0] (by rfl) rfl rfl zM ?_
       with_reducible refine (solve_choices_with.calls a3_0 a3_1 ((rd_T116 l1_0 a2).f0) 0 t52 t59 _ A26.out).mono ?_
       rintro e w33 ⟨rfl,hb⟩;refine ⟨_,rfl,?_⟩;replace BK45:=zA (zb BK45 hb);replace BK44:=zA (zb BK44 hb);replace BK43:=zA (zb BK43 hb);replace HB:=zA (below_step zB hb);(try clear hb);(try clear hb2);(try clear hk);(try clear hi);refine hK.out _ _ ⟨(blk_cell BK44.out 0).trans rfl,(blk_cell BK44.out 1).trans rfl,(blk_cell BK43.out 0).trans rfl,(blk_cell BK43.out 1).trans rfl,(blk_cell BK43.out 2).trans rfl,(blk_cell BK43.out 3).trans rfl,(blk_cell BK45.out 0).trans rfl⟩ (fun hHeld=>?_);clear hK K;refine norm_ (a':=?_) ?_ ?_;rotate_left
       ·show Act.put _ (some 40) _=_
        simp only [Act.put,zi,zs,zt,i64_w,i32_w];rfl
       refine one_ (i:=16) (N:=some 41) #[true,true,true,true,true,true,true,true,true,true,true,true,true,true,true,true,true,false,false,false,false,false,false,false,false,false,false,false,false,false] rfl rfl (one_of HT_.out zK) (by decide) (fun K hK=>?_);refine goes_ Try.func78 zK rfl #[.slice A0 l0.length c0,.agg #[.slice (some ad47) l1_0.length c1_0],.int .i64 ((rd_T116 l1_0 a2).f1),.agg #[.int .i64 t52,.int .i64 t59]] (by rfl) rfl rfl zM ?_
       with_reducible refine (ih k (by omega) _ _ l0 _ _ l1_0 ((rd_T116 l1_0 a2).f1) t52 t59 true _ ?side1 ?side2 ?side3 ?side4 A27.out).mono ?_
       (case side1=>exact zC (Kd.C_below HR0.out HB.out));(case side2=>exact HC0.out);(case side3=>exact zC (Kd.C_below HR1_0.out HB.out));(case side4=>exact HC1_0.out);rintro e w34 ⟨rfl,hb⟩;refine ⟨_,rfl,?_⟩;replace BK45:=zA (zb BK45 hb);replace BK44:=zA (zb BK44 hb);replace BK43:=zA (zb BK43 hb);replace HB:=zA (below_step zB hb);(try clear hb);(try clear hb2);(try clear hk);(try clear hi);refine hK.out _ _ ⟨(blk_cell BK44.out 0).trans rfl,(blk_cell BK44.out 1).trans rfl,(blk_cell BK43.out 0).trans rfl,(blk_cell BK43.out 1).trans rfl,(blk_cell BK43.out 2).trans rfl,(blk_cell BK43.out 3).trans rfl,(blk_cell BK45.out 0).trans rfl⟩ (fun hHeld=>?_);clear hK K;refine norm_ (a':=?_) ?_ ?_;rotate_left
       ·show Act.put _ (some 41) _=_
        simp only [Act.put,zi,zs,zt,i64_w,i32_w];rfl
       refine pure_ (i:=17) (N:=some 42) (v:=?_) (a':=?_) #[true,true,true,true,true,true,true,true,true,true,true,true,true,true,true,true,true,true,false,false,false,false,false,false,false,false,false,false,false,false] rfl rfl (any_of HT_.out zK) (fun _ _ _ h=>h) (Or.inl ⟨by rfl,?_⟩) ?_ ?_;rotate_left
       ·intro w'
        go_simp
        with_reducible rfl
       rotate_left
       ·simp only [Act.put,zi,zs,zt,i64_w,i32_w];rfl
       refine pure_ (i:=18) (N:=some 43) (v:=?_) (a':=?_) #[true,true,true,true,true,true,true,true,true,true,true,true,true,true,true,true,true,true,true,false,false,false,false,false,false,false,false,false,false,false] rfl rfl (any_of HT_.out zK) (fun _ _ _ h=>h) (Or.inl ⟨by rfl,?_⟩) ?_ ?_;rotate_left
       ·intro w'
        go_simp
        with_reducible rfl
       rotate_left
       ·simp only [Act.put,zi,zs,zt,i64_w,i32_w];rfl
       refine pure_ (i:=19) (N:=some 44) (v:=?_) (a':=?_) #[true,true,true,true,true,true,true,true,true,true,true,true,true,true,true,true,true,true,true,true,false,false,false,false,false,false,false,false,false,false] rfl rfl (any_of HT_.out zK) (fun _ _ _ h=>h) (Or.inl ⟨by rfl,?_⟩) ?_ ?_;rotate_left
       ·intro w'
        go_simp
        with_reducible rfl
       rotate_left
       ·simp only [Act.put,zi,zs,zt,i64_w,i32_w];rfl
       refine pure_ (i:=21) (N:=some 46) (v:=?_) (a':=?_) #[true,true,true,true,true,true,true,true,true,true,true,true,true,true,true,true,true,true,true,true,false,true,false,false,false,false,false,false,false,false] rfl rfl (any_of HT_.out zK) (fun _ _ _ h=>h) (Or.inl ⟨by rfl,?_⟩) ?_ ?_;rotate_left
       ·intro w'
        go_simp
        with_reducible rfl
       rotate_left
       ·simp only [Act.put,zi,zs,zt,i64_w,i32_w];rfl
       refine pure_ (i:=24) (N:=some 49) (v:=?_) (a':=?_) #[true,true,true,true,true,true,true,true,true,true,true,true,true,true,true,true,true,true,true,true,false,true,false,false,true,false,false,false,false,false] rfl rfl (any_of HT_.out zK) (fun _ _ _ h=>h) (Or.inl ⟨by rfl,?_⟩) ?_ ?_;rotate_left
       ·intro w'
        go_simp
        with_reducible rfl
       rotate_left
       ·simp only [Act.put,zi,zs,zt,i64_w,i32_w];rfl
       refine take_ (i:=20) (N:=some 45) (v:=?_) (a':=?_) #[true,true,true,true,true,true,true,true,true,true,true,true,true,true,true,true,true,true,true,true,true,true,false,false,true,false,false,false,false,false] rfl rfl (take_ofW HT_.out HW_.out zK) (fun _ _ _ h=>h) (Or.inl ⟨by rfl,?_⟩) hHeld ?_ ?_;rotate_left
       ·rintro w' ⟨s0,s1,s2,s3,s4,s5,s6⟩
        go_simp
        with_reducible rfl
       rotate_left
       ·simp only [Act.put,zi,zs,zt,i64_w,i32_w];rfl
       refine take_ (i:=22) (N:=some 47) (v:=?_) (a':=?_) #[true,true,true,true,true,true,true,true,true,true,true,true,true,true,true,true,true,true,true,true,true,true,true,false,true,false,false,false,false,false] rfl rfl (take_ofW HT_.out HW_.out zK) (fun _ _ _ h=>h) (Or.inl ⟨by rfl,?_⟩) hHeld ?_ ?_;rotate_left
       ·rintro w' ⟨s0,s1,s2,s3,s4,s5,s6⟩
        go_simp
        with_reducible rfl
       rotate_left
       ·simp only [Act.put,zi,zs,zt,i64_w,i32_w];rfl
       refine take_ (i:=23) (N:=some 48) (v:=?_) (a':=?_) #[true,true,true,true,true,true,true,true,true,true,true,true,true,true,true,true,true,true,true,true,true,true,true,true,true,false,false,false,false,false] rfl rfl (take_ofW HT_.out HW_.out zK) (fun _ _ _ h=>h) (Or.inl ⟨by rfl,?_⟩) hHeld ?_ ?_;rotate_left
       ·rintro w' ⟨s0,s1,s2,s3,s4,s5,s6⟩
        go_simp
        with_reducible rfl
       rotate_left
       ·simp only [Act.put,zi,zs,zt,i64_w,i32_w];rfl
       refine take_ (i:=25) (N:=some 50) (v:=?_) (a':=?_) #[true,true,true,true,true,true,true,true,true,true,true,true,true,true,true,true,true,true,true,true,true,true,true,true,true,true,false,false,false,false] rfl rfl (take_ofW HT_.out HW_.out zK) (fun _ _ _ h=>h) (Or.inl ⟨by rfl,?_⟩) hHeld ?_ ?_;rotate_left
       ·rintro w' ⟨s0,s1,s2,s3,s4,s5,s6⟩
        go_simp
        with_reducible rfl
       rotate_left
       ·simp only [Act.put,zi,zs,zt,i64_w,i32_w];rfl
       refine one_ (i:=26) (N:=some 51) #[true,true,true,true,true,true,true,true,true,true,true,true,true,true,true,true,true,true,true,true,true,true,true,true,true,true,true,false,false,false] rfl rfl (one_of HT_.out zK) (by decide) (fun K hK=>?_);refine goes_ Try.func82 zK rfl #[.agg #[.int .i64 a3_0,.int .i64 a3_1],.int .i64 ((rd_T116 l1_0 a2).f0),.int .i64 1] (by rfl) rfl rfl zM ?_
       with_reducible refine (solve_choices_with.calls a3_0 a3_1 ((rd_T116 l1_0 a2).f0) 1 t49 t65 _ A29.out).mono ?_
       rintro e w35 ⟨rfl,hb⟩;refine ⟨_,rfl,?_⟩;replace BK45:=zA (zb BK45 hb);replace BK44:=zA (zb BK44 hb);replace BK43:=zA (zb BK43 hb);replace HB:=zA (below_step zB hb);(try clear hb);(try clear hb2);(try clear hk);(try clear hi);refine hK.out _ _ ⟨(blk_cell BK44.out 0).trans rfl,(blk_cell BK44.out 1).trans rfl,(blk_cell BK43.out 0).trans rfl,(blk_cell BK43.out 1).trans rfl,(blk_cell BK43.out 2).trans rfl,(blk_cell BK43.out 3).trans rfl,(blk_cell BK45.out 0).trans rfl⟩ (fun hHeld=>?_);clear hK K;refine norm_ (a':=?_) ?_ ?_;rotate_left
       ·show Act.put _ (some 51) _=_
        simp only [Act.put,zi,zs,zt,i64_w,i32_w];rfl
       refine one_ (i:=27) (N:=some 52) #[true,true,true,true,true,true,true,true,true,true,true,true,true,true,true,true,true,true,true,true,true,true,true,true,true,true,true,true,false,false] rfl rfl (one_of HT_.out zK) (by decide) (fun K hK=>?_);refine goes_ Try.func78 zK rfl #[.slice A0 l0.length c0,.agg #[.slice (some ad47) l1_0.length c1_0],.int .i64 ((rd_T116 l1_0 a2).f2),.agg #[.int .i64 t49,.int .i64 t65]] (by rfl) rfl rfl zM ?_
       with_reducible refine (ih k (by omega) _ _ l0 _ _ l1_0 ((rd_T116 l1_0 a2).f2) t49 t65 t53 _ ?side1 ?side2 ?side3 ?side4 A30.out).mono ?_
       (case side1=>exact zC (Kd.C_below HR0.out HB.out));(case side2=>exact HC0.out);(case side3=>exact zC (Kd.C_below HR1_0.out HB.out));(case side4=>exact HC1_0.out);rintro e w36 ⟨rfl,hb⟩;refine ⟨_,rfl,?_⟩;replace BK45:=zA (zb BK45 hb);replace BK44:=zA (zb BK44 hb);replace BK43:=zA (zb BK43 hb);replace HB:=zA (below_step zB hb);(try clear hb);(try clear hb2);(try clear hk);(try clear hi);refine hK.out _ _ ⟨(blk_cell BK44.out 0).trans rfl,(blk_cell BK44.out 1).trans rfl,(blk_cell BK43.out 0).trans rfl,(blk_cell BK43.out 1).trans rfl,(blk_cell BK43.out 2).trans rfl,(blk_cell BK43.out 3).trans rfl,(blk_cell BK45.out 0).trans rfl⟩ (fun hHeld=>?_);clear hK K;refine norm_ (a':=?_) ?_ ?_;rotate_left
       ·show Act.put _ (some 52) _=_
        simp only [Act.put,zi,zs,zt,i64_w,i32_w];rfl
       refine pure_ (i:=28) (N:=some 53) (v:=?_) (a':=?_) #[true,true,true,true,true,true,true,true,true,true,true,true,true,true,true,true,true,true,true,true,true,true,true,true,true,true,true,true,true,false] rfl rfl (any_of HT_.out zK) (fun _ _ _ h=>h) (Or.inl ⟨by rfl,?_⟩) ?_ ?_;rotate_left
       ·intro w'
        go_simp
        with_reducible rfl
       rotate_left
       ·simp only [Act.put,zi,zs,zt,i64_w,i32_w];rfl
       refine pure_ (i:=29) (N:=some 8) (v:=?_) (a':=?_) #[true,true,true,true,true,true,true,true,true,true,true,true,true,true,true,true,true,true,true,true,true,true,true,true,true,true,true,true,true,true] rfl rfl (any_of HT_.out zK) (fun _ _ _ h=>h) (Or.inl ⟨by rfl,?_⟩) ?_ ?_;rotate_left
       ·intro w'
        go_simp
        with_reducible rfl
       rotate_left
       ·simp only [Act.put,zi,zs,zt,i64_w,i32_w];rfl
       refine done_ (done_of HT_.out zK) ?_
       try go_wp2
       go_ret
       exact ⟨by first|rfl|(simp [errW_none,errW_some] <;> rfl)|(simp only [← hji24];first|rfl|(simp [errW_none,errW_some] <;> rfl))|(simp [*,errW_none,errW_some] <;> rfl),zv3 HB GE45 GE44 GE43⟩
      ·replace c28:=Bool.eq_false_iff.mpr c28;subst c28
       have H1:(some false)=some r:=by rw [if_neg (show ¬ (false=true) by decide)] at H;exact H
       clear H;have H:=H1;clear H1;obtain rfl:=Option.some.inj H
       try go_wp2
       have n0_:Aside0 (((((w12.setCell ⟨gb43,0,none⟩ (.int .i64 ((rd_T116 l1_0 a2).f0))).setCell ⟨gb43,1,none⟩ (.int .i64 ((rd_T116 l1_0 a2).f1))).setCell ⟨gb43,2,none⟩ (.int .i64 ((rd_T116 l1_0 a2).f2))).setCell ⟨gb43,3,none⟩ (.int .i64 ((rd_T116 l1_0 a2).f3))).heap[gb45]?=some (.cells #[.slice (some ad47) l1_0.length c1_0] 63 (0,0))):=⟨by refine zj ?_;refine blk_far ?_ NB45_43.out _;refine zj ?_;refine blk_far ?_ NB45_43.out _;refine zj ?_;refine blk_far ?_ NB45_43.out _;refine zj ?_;refine blk_far ?_ NB45_43.out _;refine zj ?_;exact BK45.out⟩
       have n1_:Aside0 (((((w12.setCell ⟨gb43,0,none⟩ (.int .i64 ((rd_T116 l1_0 a2).f0))).setCell ⟨gb43,1,none⟩ (.int .i64 ((rd_T116 l1_0 a2).f1))).setCell ⟨gb43,2,none⟩ (.int .i64 ((rd_T116 l1_0 a2).f2))).setCell ⟨gb43,3,none⟩ (.int .i64 ((rd_T116 l1_0 a2).f3))).heap[gb44]?=some (.cells #[.int .i64 a3_0,.int .i64 a3_1] 96 (0,0))):=⟨by refine zj ?_;refine blk_far ?_ NB44_43.out _;refine zj ?_;refine blk_far ?_ NB44_43.out _;refine zj ?_;refine blk_far ?_ NB44_43.out _;refine zj ?_;refine blk_far ?_ NB44_43.out _;refine zj ?_;exact BK44.out⟩
       have n2_:Aside0 (((((w12.setCell ⟨gb43,0,none⟩ (.int .i64 ((rd_T116 l1_0 a2).f0))).setCell ⟨gb43,1,none⟩ (.int .i64 ((rd_T116 l1_0 a2).f1))).setCell ⟨gb43,2,none⟩ (.int .i64 ((rd_T116 l1_0 a2).f2))).setCell ⟨gb43,3,none⟩ (.int .i64 ((rd_T116 l1_0 a2).f3))).heap[gb43]?=some (.cells #[.int .i64 ((rd_T116 l1_0 a2).f0),.int .i64 ((rd_T116 l1_0 a2).f1),.int .i64 ((rd_T116 l1_0 a2).f2),.int .i64 ((rd_T116 l1_0 a2).f3)] 116 (0,0))):=⟨by refine zj ?_;refine blk_put (cs:=#[.int .i64 ((rd_T116 l1_0 a2).f0),.int .i64 ((rd_T116 l1_0 a2).f1),.int .i64 ((rd_T116 l1_0 a2).f2),.int .i64 0]) ?_ 3 _ rfl;refine zj ?_;refine blk_put (cs:=#[.int .i64 ((rd_T116 l1_0 a2).f0),.int .i64 ((rd_T116 l1_0 a2).f1),.int .i64 0,.int .i64 0]) ?_ 2 _ rfl;refine zj ?_;refine blk_put (cs:=#[.int .i64 ((rd_T116 l1_0 a2).f0),.int .i64 0,.int .i64 0,.int .i64 0]) ?_ 1 _ rfl;refine zj ?_;refine blk_put (cs:=#[.int .i64 0,.int .i64 0,.int .i64 0,.int .i64 0]) ?_ 0 _ rfl;refine zj ?_;exact BK43.out⟩
       have n3_:Aside0 (Below w.heap.size w ((((w12.setCell ⟨gb43,0,none⟩ (.int .i64 ((rd_T116 l1_0 a2).f0))).setCell ⟨gb43,1,none⟩ (.int .i64 ((rd_T116 l1_0 a2).f1))).setCell ⟨gb43,2,none⟩ (.int .i64 ((rd_T116 l1_0 a2).f2))).setCell ⟨gb43,3,none⟩ (.int .i64 ((rd_T116 l1_0 a2).f3)))):=⟨zv3 HB GE45 GE44 GE43⟩
       (try clear BK45);(try clear BK44);(try clear BK43);(try clear HB)
       generalize ((((w12.setCell ⟨gb43,0,none⟩ (.int .i64 ((rd_T116 l1_0 a2).f0))).setCell ⟨gb43,1,none⟩ (.int .i64 ((rd_T116 l1_0 a2).f1))).setCell ⟨gb43,2,none⟩ (.int .i64 ((rd_T116 l1_0 a2).f2))).setCell ⟨gb43,3,none⟩ (.int .i64 ((rd_T116 l1_0 a2).f3)))=w37 at n0_ n1_ n2_ n3_ ⊢
       have BK45:=n0_;have BK44:=n1_;have BK43:=n2_;have HB:=n3_;clear n0_ n1_ n2_ n3_;replace BK45:=zA (blk_drew BK45.out);replace BK44:=zA (blk_drew BK44.out);replace BK43:=zA (blk_drew BK43.out);replace HB:=zA (below_drew1 HB.out);refine start_ (n:=30) (S:=fun w'=>w'.cell? ⟨gb44,0,none⟩=some (.int .i64 a3_0)∧w'.cell? ⟨gb44,1,none⟩=some (.int .i64 a3_1)∧w'.cell? ⟨gb43,0,none⟩=some (.int .i64 ((rd_T116 l1_0 a2).f0))∧w'.cell? ⟨gb43,1,none⟩=some (.int .i64 ((rd_T116 l1_0 a2).f1))∧w'.cell? ⟨gb43,2,none⟩=some (.int .i64 ((rd_T116 l1_0 a2).f2))∧w'.cell? ⟨gb43,3,none⟩=some (.int .i64 ((rd_T116 l1_0 a2).f3))∧w'.cell? ⟨gb45,0,none⟩=some (.slice (some ad47) l1_0.length c1_0)) (ds:=[]) #[false,false,false,false,false,false,false,false,false,false,false,false,false,false,false,false,false,false,false,false,false,false,false,false,false,false,false,false,false,false] zK rfl rfl ⟨(blk_cell BK44.out 0).trans rfl,(blk_cell BK44.out 1).trans rfl,(blk_cell BK43.out 0).trans rfl,(blk_cell BK43.out 1).trans rfl,(blk_cell BK43.out 2).trans rfl,(blk_cell BK43.out 3).trans rfl,(blk_cell BK45.out 0).trans rfl⟩ (fun hHeld=>?_);refine with_tabW solve_right.tab4 solve_right.bits4 (fun HT_ HW_=>?_)
       generalize w37.drew=w38 at BK45 BK44 BK43 HB hHeld ⊢
       refine pure_ (i:=0) (N:=some 25) (v:=?_) (a':=?_) #[true,false,false,false,false,false,false,false,false,false,false,false,false,false,false,false,false,false,false,false,false,false,false,false,false,false,false,false,false,false] rfl rfl (any_of HT_.out zK) (fun _ _ _ h=>h) (Or.inl ⟨by rfl,?_⟩) ?_ ?_;rotate_left
       ·intro w'
        go_simp
        with_reducible rfl
       rotate_left
       ·simp only [Act.put,zi,zs,zt,i64_w,i32_w];rfl
       refine pure_ (i:=2) (N:=some 27) (v:=?_) (a':=?_) #[true,false,true,false,false,false,false,false,false,false,false,false,false,false,false,false,false,false,false,false,false,false,false,false,false,false,false,false,false,false] rfl rfl (any_of HT_.out zK) (fun _ _ _ h=>h) (Or.inl ⟨by rfl,?_⟩) ?_ ?_;rotate_left
       ·intro w'
        go_simp
        with_reducible rfl
       rotate_left
       ·simp only [Act.put,zi,zs,zt,i64_w,i32_w];rfl
       refine take_ (i:=1) (N:=some 26) (v:=?_) (a':=?_) #[true,true,true,false,false,false,false,false,false,false,false,false,false,false,false,false,false,false,false,false,false,false,false,false,false,false,false,false,false,false] rfl rfl (take_ofW HT_.out HW_.out zK) (fun _ _ _ h=>h) (Or.inl ⟨by rfl,?_⟩) hHeld ?_ ?_;rotate_left
       ·rintro w' ⟨s0,s1,s2,s3,s4,s5,s6⟩
        go_simp
        with_reducible rfl
       rotate_left
       ·simp only [Act.put,zi,zs,zt,i64_w,i32_w];rfl
       refine take_ (i:=3) (N:=some 28) (v:=?_) (a':=?_) #[true,true,true,true,false,false,false,false,false,false,false,false,false,false,false,false,false,false,false,false,false,false,false,false,false,false,false,false,false,false] rfl rfl (take_ofW HT_.out HW_.out zK) (fun _ _ _ h=>h) (Or.inl ⟨by rfl,?_⟩) hHeld ?_ ?_;rotate_left
       ·rintro w' ⟨s0,s1,s2,s3,s4,s5,s6⟩
        go_simp
        with_reducible rfl
       rotate_left
       ·simp only [Act.put,zi,zs,zt,i64_w,i32_w];rfl
       refine pure_ (i:=4) (N:=some 29) (v:=?_) (a':=?_) #[true,true,true,true,true,false,false,false,false,false,false,false,false,false,false,false,false,false,false,false,false,false,false,false,false,false,false,false,false,false] rfl rfl (any_of HT_.out zK) (fun _ _ _ h=>h) (Or.inl ⟨by rfl,?_⟩) ?_ ?_;rotate_left
       ·intro w'
        go_simp
        with_reducible rfl
       rotate_left
       ·simp only [Act.put,zi,zs,zt,i64_w,i32_w];rfl
       refine pure_ (i:=5) (N:=some 30) (v:=?_) (a':=?_) #[true,true,true,true,true,true,false,false,false,false,false,false,false,false,false,false,false,false,false,false,false,false,false,false,false,false,false,false,false,false] rfl rfl (any_of HT_.out zK) (fun _ _ _ h=>h) (Or.inl ⟨by rfl,?_⟩) ?_ ?_;rotate_left
       ·intro w'
        go_simp
        with_reducible rfl
       rotate_left
       ·simp only [Act.put,zi,zs,zt,i64_w,i32_w];rfl
       refine pure_ (i:=6) (N:=some 31) (v:=?_) (a':=?_) #[true,true,true,true,true,true,true,false,false,false,false,false,false,false,false,false,false,false,false,false,false,false,false,false,false,false,false,false,false,false] rfl rfl (any_of HT_.out zK) (fun _ _ _ h=>h) (Or.inl ⟨by rfl,?_⟩) ?_ ?_;rotate_left
       ·intro w'
        go_simp
        with_reducible rfl
       rotate_left
       ·simp only [Act.put,zi,zs,zt,i64_w,i32_w];rfl
       refine pure_ (i:=7) (N:=some 32) (v:=?_) (a':=?_) #[true,true,true,true,true,true,true,true,false,false,false,false,false,false,false,false,false,false,false,false,false,false,false,false,false,false,false,false,false,false] rfl rfl (any_of HT_.out zK) (fun _ _ _ h=>h) (Or.inl ⟨by rfl,?_⟩) ?_ ?_;rotate_left
       ·intro w'
        go_simp
        with_reducible rfl
       rotate_left
       ·simp only [Act.put,zi,zs,zt,i64_w,i32_w];rfl
       refine pure_ (i:=8) (N:=some 33) (v:=?_) (a':=?_) #[true,true,true,true,true,true,true,true,true,false,false,false,false,false,false,false,false,false,false,false,false,false,false,false,false,false,false,false,false,false] rfl rfl (any_of HT_.out zK) (fun _ _ _ h=>h) (Or.inl ⟨by rfl,?_⟩) ?_ ?_;rotate_left
       ·intro w'
        go_simp
        with_reducible rfl
       rotate_left
       ·simp only [Act.put,zi,zs,zt,i64_w,i32_w];rfl
       refine pure_ (i:=10) (N:=some 35) (v:=?_) (a':=?_) #[true,true,true,true,true,true,true,true,true,false,true,false,false,false,false,false,false,false,false,false,false,false,false,false,false,false,false,false,false,false] rfl rfl (any_of HT_.out zK) (fun _ _ _ h=>h) (Or.inl ⟨by rfl,?_⟩) ?_ ?_;rotate_left
       ·intro w'
        go_simp
        with_reducible rfl
       rotate_left
       ·simp only [Act.put,zi,zs,zt,i64_w,i32_w];rfl
       refine pure_ (i:=13) (N:=some 38) (v:=?_) (a':=?_) #[true,true,true,true,true,true,true,true,true,false,true,false,false,true,false,false,false,false,false,false,false,false,false,false,false,false,false,false,false,false] rfl rfl (any_of HT_.out zK) (fun _ _ _ h=>h) (Or.inl ⟨by rfl,?_⟩) ?_ ?_;rotate_left
       ·intro w'
        go_simp
        with_reducible rfl
       rotate_left
       ·simp only [Act.put,zi,zs,zt,i64_w,i32_w];rfl
       refine take_ (i:=9) (N:=some 34) (v:=?_) (a':=?_) #[true,true,true,true,true,true,true,true,true,true,true,false,false,true,false,false,false,false,false,false,false,false,false,false,false,false,false,false,false,false] rfl rfl (take_ofW HT_.out HW_.out zK) (fun _ _ _ h=>h) (Or.inl ⟨by rfl,?_⟩) hHeld ?_ ?_;rotate_left
       ·rintro w' ⟨s0,s1,s2,s3,s4,s5,s6⟩
        go_simp
        with_reducible rfl
       rotate_left
       ·simp only [Act.put,zi,zs,zt,i64_w,i32_w];rfl
       refine take_ (i:=11) (N:=some 36) (v:=?_) (a':=?_) #[true,true,true,true,true,true,true,true,true,true,true,true,false,true,false,false,false,false,false,false,false,false,false,false,false,false,false,false,false,false] rfl rfl (take_ofW HT_.out HW_.out zK) (fun _ _ _ h=>h) (Or.inl ⟨by rfl,?_⟩) hHeld ?_ ?_;rotate_left
       ·rintro w' ⟨s0,s1,s2,s3,s4,s5,s6⟩
        go_simp
        with_reducible rfl
       rotate_left
       ·simp only [Act.put,zi,zs,zt,i64_w,i32_w];rfl
       refine take_ (i:=12) (N:=some 37) (v:=?_) (a':=?_) #[true,true,true,true,true,true,true,true,true,true,true,true,true,true,false,false,false,false,false,false,false,false,false,false,false,false,false,false,false,false] rfl rfl (take_ofW HT_.out HW_.out zK) (fun _ _ _ h=>h) (Or.inl ⟨by rfl,?_⟩) hHeld ?_ ?_;rotate_left
       ·rintro w' ⟨s0,s1,s2,s3,s4,s5,s6⟩
        go_simp
        with_reducible rfl
       rotate_left
       ·simp only [Act.put,zi,zs,zt,i64_w,i32_w];rfl
       refine take_ (i:=14) (N:=some 39) (v:=?_) (a':=?_) #[true,true,true,true,true,true,true,true,true,true,true,true,true,true,true,false,false,false,false,false,false,false,false,false,false,false,false,false,false,false] rfl rfl (take_ofW HT_.out HW_.out zK) (fun _ _ _ h=>h) (Or.inl ⟨by rfl,?_⟩) hHeld ?_ ?_;rotate_left
       ·rintro w' ⟨s0,s1,s2,s3,s4,s5,s6⟩
        go_simp
        with_reducible rfl
       rotate_left
       ·simp only [Act.put,zi,zs,zt,i64_w,i32_w];rfl
       refine one_ (i:=15) (N:=some 40) #[true,true,true,true,true,true,true,true,true,true,true,true,true,true,true,true,false,false,false,false,false,false,false,false,false,false,false,false,false,false] rfl rfl (one_of HT_.out zK) (by decide) (fun K hK=>?_);refine goes_ Try.func82 zK rfl #[.agg #[.int .i64 a3_0,.int .i64 a3_1],.int .i64 ((rd_T116 l1_0 a2).f0),.int .i64 0] (by rfl) rfl rfl zM ?_
       with_reducible refine (solve_choices_with.calls a3_0 a3_1 ((rd_T116 l1_0 a2).f0) 0 t52 t59 _ A26.out).mono ?_
       rintro e w39 ⟨rfl,hb⟩;refine ⟨_,rfl,?_⟩;replace BK45:=zA (zb BK45 hb);replace BK44:=zA (zb BK44 hb);replace BK43:=zA (zb BK43 hb);replace HB:=zA (below_step zB hb);(try clear hb);(try clear hb2);(try clear hk);(try clear hi);refine hK.out _ _ ⟨(blk_cell BK44.out 0).trans rfl,(blk_cell BK44.out 1).trans rfl,(blk_cell BK43.out 0).trans rfl,(blk_cell BK43.out 1).trans rfl,(blk_cell BK43.out 2).trans rfl,(blk_cell BK43.out 3).trans rfl,(blk_cell BK45.out 0).trans rfl⟩ (fun hHeld=>?_);clear hK K;refine norm_ (a':=?_) ?_ ?_;rotate_left
       ·show Act.put _ (some 40) _=_
        simp only [Act.put,zi,zs,zt,i64_w,i32_w];rfl
       refine one_ (i:=16) (N:=some 41) #[true,true,true,true,true,true,true,true,true,true,true,true,true,true,true,true,true,false,false,false,false,false,false,false,false,false,false,false,false,false] rfl rfl (one_of HT_.out zK) (by decide) (fun K hK=>?_);refine goes_ Try.func78 zK rfl #[.slice A0 l0.length c0,.agg #[.slice (some ad47) l1_0.length c1_0],.int .i64 ((rd_T116 l1_0 a2).f1),.agg #[.int .i64 t52,.int .i64 t59]] (by rfl) rfl rfl zM ?_
       with_reducible refine (ih k (by omega) _ _ l0 _ _ l1_0 ((rd_T116 l1_0 a2).f1) t52 t59 false _ ?side1 ?side2 ?side3 ?side4 A27.out).mono ?_
       (case side1=>exact zC (Kd.C_below HR0.out HB.out));(case side2=>exact HC0.out);(case side3=>exact zC (Kd.C_below HR1_0.out HB.out));(case side4=>exact HC1_0.out);rintro e w40 ⟨rfl,hb⟩;refine ⟨_,rfl,?_⟩;replace BK45:=zA (zb BK45 hb);replace BK44:=zA (zb BK44 hb);replace BK43:=zA (zb BK43 hb);replace HB:=zA (below_step zB hb);(try clear hb);(try clear hb2);(try clear hk);(try clear hi);refine hK.out _ _ ⟨(blk_cell BK44.out 0).trans rfl,(blk_cell BK44.out 1).trans rfl,(blk_cell BK43.out 0).trans rfl,(blk_cell BK43.out 1).trans rfl,(blk_cell BK43.out 2).trans rfl,(blk_cell BK43.out 3).trans rfl,(blk_cell BK45.out 0).trans rfl⟩ (fun hHeld=>?_);clear hK K;refine norm_ (a':=?_) ?_ ?_;rotate_left
       ·show Act.put _ (some 41) _=_
        simp only [Act.put,zi,zs,zt,i64_w,i32_w];rfl
       refine pure_ (i:=17) (N:=some 42) (v:=?_) (a':=?_) #[true,true,true,true,true,true,true,true,true,true,true,true,true,true,true,true,true,true,false,false,false,false,false,false,false,false,false,false,false,false] rfl rfl (any_of HT_.out zK) (fun _ _ _ h=>h) (Or.inl ⟨by rfl,?_⟩) ?_ ?_;rotate_left
       ·intro w'
        go_simp
        with_reducible rfl
       rotate_left
       ·simp only [Act.put,zi,zs,zt,i64_w,i32_w];rfl
       refine pure_ (i:=18) (N:=some 43) (v:=?_) (a':=?_) #[true,true,true,true,true,true,true,true,true,true,true,true,true,true,true,true,true,true,true,false,false,false,false,false,false,false,false,false,false,false] rfl rfl (any_of HT_.out zK) (fun _ _ _ h=>h) (Or.inl ⟨by rfl,?_⟩) ?_ ?_;rotate_left
       ·intro w'
        go_simp
        with_reducible rfl
       rotate_left
       ·simp only [Act.put,zi,zs,zt,i64_w,i32_w];rfl
       refine pure_ (i:=19) (N:=some 44) (v:=undef) (a':=?_) #[true,true,true,true,true,true,true,true,true,true,true,true,true,true,true,true,true,true,true,true,false,false,false,false,false,false,false,false,false,false] rfl rfl (any_of HT_.out zK) (fun _ _ _ h=>h) (Or.inr ⟨by rfl,rfl⟩) ?_ ?_;rotate_left
       ·simp only [Act.put,zi,zs,zt,i64_w,i32_w];rfl
       refine pure_ (i:=20) (N:=some 45) (v:=undef) (a':=?_) #[true,true,true,true,true,true,true,true,true,true,true,true,true,true,true,true,true,true,true,true,true,false,false,false,false,false,false,false,false,false] rfl rfl (any_of HT_.out zK) (fun _ _ _ h=>h) (Or.inr ⟨by rfl,rfl⟩) ?_ ?_;rotate_left
       ·simp only [Act.put,zi,zs,zt,i64_w,i32_w];rfl
       refine pure_ (i:=21) (N:=some 46) (v:=undef) (a':=?_) #[true,true,true,true,true,true,true,true,true,true,true,true,true,true,true,true,true,true,true,true,true,true,false,false,false,false,false,false,false,false] rfl rfl (any_of HT_.out zK) (fun _ _ _ h=>h) (Or.inr ⟨by rfl,rfl⟩) ?_ ?_;rotate_left
       ·simp only [Act.put,zi,zs,zt,i64_w,i32_w];rfl
       refine pure_ (i:=22) (N:=some 47) (v:=undef) (a':=?_) #[true,true,true,true,true,true,true,true,true,true,true,true,true,true,true,true,true,true,true,true,true,true,true,false,false,false,false,false,false,false] rfl rfl (any_of HT_.out zK) (fun _ _ _ h=>h) (Or.inr ⟨by rfl,rfl⟩) ?_ ?_;rotate_left
       ·simp only [Act.put,zi,zs,zt,i64_w,i32_w];rfl
       refine pure_ (i:=23) (N:=some 48) (v:=undef) (a':=?_) #[true,true,true,true,true,true,true,true,true,true,true,true,true,true,true,true,true,true,true,true,true,true,true,true,false,false,false,false,false,false] rfl rfl (any_of HT_.out zK) (fun _ _ _ h=>h) (Or.inr ⟨by rfl,rfl⟩) ?_ ?_;rotate_left
       ·simp only [Act.put,zi,zs,zt,i64_w,i32_w];rfl
       refine pure_ (i:=24) (N:=some 49) (v:=undef) (a':=?_) #[true,true,true,true,true,true,true,true,true,true,true,true,true,true,true,true,true,true,true,true,true,true,true,true,true,false,false,false,false,false] rfl rfl (any_of HT_.out zK) (fun _ _ _ h=>h) (Or.inr ⟨by rfl,rfl⟩) ?_ ?_;rotate_left
       ·simp only [Act.put,zi,zs,zt,i64_w,i32_w];rfl
       refine pure_ (i:=25) (N:=some 50) (v:=undef) (a':=?_) #[true,true,true,true,true,true,true,true,true,true,true,true,true,true,true,true,true,true,true,true,true,true,true,true,true,true,false,false,false,false] rfl rfl (any_of HT_.out zK) (fun _ _ _ h=>h) (Or.inr ⟨by rfl,rfl⟩) ?_ ?_;rotate_left
       ·simp only [Act.put,zi,zs,zt,i64_w,i32_w];rfl
       refine pure_ (i:=26) (N:=some 51) (v:=undef) (a':=?_) #[true,true,true,true,true,true,true,true,true,true,true,true,true,true,true,true,true,true,true,true,true,true,true,true,true,true,true,false,false,false] rfl rfl (any_of HT_.out zK) (fun _ _ _ h=>h) (Or.inr ⟨by rfl,rfl⟩) ?_ ?_;rotate_left
       ·simp only [Act.put,zi,zs,zt,i64_w,i32_w];rfl
       refine pure_ (i:=27) (N:=some 52) (v:=undef) (a':=?_) #[true,true,true,true,true,true,true,true,true,true,true,true,true,true,true,true,true,true,true,true,true,true,true,true,true,true,true,true,false,false] rfl rfl (any_of HT_.out zK) (fun _ _ _ h=>h) (Or.inr ⟨by rfl,rfl⟩) ?_ ?_;rotate_left
       ·simp only [Act.put,zi,zs,zt,i64_w,i32_w];rfl
       refine pure_ (i:=28) (N:=some 53) (v:=?_) (a':=?_) #[true,true,true,true,true,true,true,true,true,true,true,true,true,true,true,true,true,true,true,true,true,true,true,true,true,true,true,true,true,false] rfl rfl (any_of HT_.out zK) (fun _ _ _ h=>h) (Or.inl ⟨by rfl,?_⟩) ?_ ?_;rotate_left
       ·intro w'
        go_simp
        with_reducible rfl
       rotate_left
       ·simp only [Act.put,zi,zs,zt,i64_w,i32_w];rfl
       refine pure_ (i:=29) (N:=some 8) (v:=?_) (a':=?_) #[true,true,true,true,true,true,true,true,true,true,true,true,true,true,true,true,true,true,true,true,true,true,true,true,true,true,true,true,true,true] rfl rfl (any_of HT_.out zK) (fun _ _ _ h=>h) (Or.inl ⟨by rfl,?_⟩) ?_ ?_;rotate_left
       ·intro w'
        go_simp
        with_reducible rfl
       rotate_left
       ·simp only [Act.put,zi,zs,zt,i64_w,i32_w];rfl
       refine done_ (done_of HT_.out zK) ?_
       try go_wp2
       go_ret
       exact ⟨by first|rfl|(simp [errW_none,errW_some] <;> rfl)|(simp only [← hji24];first|rfl|(simp [errW_none,errW_some] <;> rfl))|(simp [*,errW_none,errW_some] <;> rfl),zv3 HB GE45 GE44 GE43⟩
     ·rw [if_neg c25] at H;have c25b0:((Go.bits .and .i64 (ji24) 1) == 0)=false:=beq_eq_false_iff_ne.mpr c25;have c25b1:((Go.bits .and .i64 (ji24) 1) != 0)=true:=bne_iff_ne.mpr c25;obtain rfl:=Option.some.inj H
      try go_wp2
      have n0_:Aside0 (((((w12.setCell ⟨gb43,0,none⟩ (.int .i64 ((rd_T116 l1_0 a2).f0))).setCell ⟨gb43,1,none⟩ (.int .i64 ((rd_T116 l1_0 a2).f1))).setCell ⟨gb43,2,none⟩ (.int .i64 ((rd_T116 l1_0 a2).f2))).setCell ⟨gb43,3,none⟩ (.int .i64 ((rd_T116 l1_0 a2).f3))).heap[gb45]?=some (.cells #[.slice (some ad47) l1_0.length c1_0] 63 (0,0))):=⟨by refine zj ?_;refine blk_far ?_ NB45_43.out _;refine zj ?_;refine blk_far ?_ NB45_43.out _;refine zj ?_;refine blk_far ?_ NB45_43.out _;refine zj ?_;refine blk_far ?_ NB45_43.out _;refine zj ?_;exact BK45.out⟩
      have n1_:Aside0 (((((w12.setCell ⟨gb43,0,none⟩ (.int .i64 ((rd_T116 l1_0 a2).f0))).setCell ⟨gb43,1,none⟩ (.int .i64 ((rd_T116 l1_0 a2).f1))).setCell ⟨gb43,2,none⟩ (.int .i64 ((rd_T116 l1_0 a2).f2))).setCell ⟨gb43,3,none⟩ (.int .i64 ((rd_T116 l1_0 a2).f3))).heap[gb44]?=some (.cells #[.int .i64 a3_0,.int .i64 a3_1] 96 (0,0))):=⟨by refine zj ?_;refine blk_far ?_ NB44_43.out _;refine zj ?_;refine blk_far ?_ NB44_43.out _;refine zj ?_;refine blk_far ?_ NB44_43.out _;refine zj ?_;refine blk_far ?_ NB44_43.out _;refine zj ?_;exact BK44.out⟩
      have n2_:Aside0 (((((w12.setCell ⟨gb43,0,none⟩ (.int .i64 ((rd_T116 l1_0 a2).f0))).setCell ⟨gb43,1,none⟩ (.int .i64 ((rd_T116 l1_0 a2).f1))).setCell ⟨gb43,2,none⟩ (.int .i64 ((rd_T116 l1_0 a2).f2))).setCell ⟨gb43,3,none⟩ (.int .i64 ((rd_T116 l1_0 a2).f3))).heap[gb43]?=some (.cells #[.int .i64 ((rd_T116 l1_0 a2).f0),.int .i64 ((rd_T116 l1_0 a2).f1),.int .i64 ((rd_T116 l1_0 a2).f2),.int .i64 ((rd_T116 l1_0 a2).f3)] 116 (0,0))):=⟨by refine zj ?_;refine blk_put (cs:=#[.int .i64 ((rd_T116 l1_0 a2).f0),.int .i64 ((rd_T116 l1_0 a2).f1),.int .i64 ((rd_T116 l1_0 a2).f2),.int .i64 0]) ?_ 3 _ rfl;refine zj ?_;refine blk_put (cs:=#[.int .i64 ((rd_T116 l1_0 a2).f0),.int .i64 ((rd_T116 l1_0 a2).f1),.int .i64 0,.int .i64 0]) ?_ 2 _ rfl;refine zj ?_;refine blk_put (cs:=#[.int .i64 ((rd_T116 l1_0 a2).f0),.int .i64 0,.int .i64 0,.int .i64 0]) ?_ 1 _ rfl;refine zj ?_;refine blk_put (cs:=#[.int .i64 0,.int .i64 0,.int .i64 0,.int .i64 0]) ?_ 0 _ rfl;refine zj ?_;exact BK43.out⟩
      have n3_:Aside0 (Below w.heap.size w ((((w12.setCell ⟨gb43,0,none⟩ (.int .i64 ((rd_T116 l1_0 a2).f0))).setCell ⟨gb43,1,none⟩ (.int .i64 ((rd_T116 l1_0 a2).f1))).setCell ⟨gb43,2,none⟩ (.int .i64 ((rd_T116 l1_0 a2).f2))).setCell ⟨gb43,3,none⟩ (.int .i64 ((rd_T116 l1_0 a2).f3)))):=⟨zv3 HB GE45 GE44 GE43⟩
      (try clear BK45);(try clear BK44);(try clear BK43);(try clear HB)
      generalize ((((w12.setCell ⟨gb43,0,none⟩ (.int .i64 ((rd_T116 l1_0 a2).f0))).setCell ⟨gb43,1,none⟩ (.int .i64 ((rd_T116 l1_0 a2).f1))).setCell ⟨gb43,2,none⟩ (.int .i64 ((rd_T116 l1_0 a2).f2))).setCell ⟨gb43,3,none⟩ (.int .i64 ((rd_T116 l1_0 a2).f3)))=w41 at n0_ n1_ n2_ n3_ ⊢
      have BK45:=n0_;have BK44:=n1_;have BK43:=n2_;have HB:=n3_;clear n0_ n1_ n2_ n3_;replace BK45:=zA (blk_drew BK45.out);replace BK44:=zA (blk_drew BK44.out);replace BK43:=zA (blk_drew BK43.out);replace HB:=zA (below_drew1 HB.out);refine start_ (n:=30) (S:=fun w'=>w'.cell? ⟨gb44,0,none⟩=some (.int .i64 a3_0)∧w'.cell? ⟨gb44,1,none⟩=some (.int .i64 a3_1)∧w'.cell? ⟨gb43,0,none⟩=some (.int .i64 ((rd_T116 l1_0 a2).f0))∧w'.cell? ⟨gb43,1,none⟩=some (.int .i64 ((rd_T116 l1_0 a2).f1))∧w'.cell? ⟨gb43,2,none⟩=some (.int .i64 ((rd_T116 l1_0 a2).f2))∧w'.cell? ⟨gb43,3,none⟩=some (.int .i64 ((rd_T116 l1_0 a2).f3))) (ds:=[]) #[false,false,false,false,false,false,false,false,false,false,false,false,false,false,false,false,false,false,false,false,false,false,false,false,false,false,false,false,false,false] zK rfl rfl ⟨(blk_cell BK44.out 0).trans rfl,(blk_cell BK44.out 1).trans rfl,(blk_cell BK43.out 0).trans rfl,(blk_cell BK43.out 1).trans rfl,(blk_cell BK43.out 2).trans rfl,(blk_cell BK43.out 3).trans rfl⟩ (fun hHeld=>?_);refine with_tabW solve_right.tab4 solve_right.bits4 (fun HT_ HW_=>?_)
      generalize w41.drew=w42 at BK45 BK44 BK43 HB hHeld ⊢
      refine pure_ (i:=0) (N:=some 25) (v:=?_) (a':=?_) #[true,false,false,false,false,false,false,false,false,false,false,false,false,false,false,false,false,false,false,false,false,false,false,false,false,false,false,false,false,false] rfl rfl (any_of HT_.out zK) (fun _ _ _ h=>h) (Or.inl ⟨by rfl,?_⟩) ?_ ?_;rotate_left
      ·intro w'
       go_simp
       with_reducible rfl
      rotate_left
      ·simp only [Act.put,zi,zs,zt,i64_w,i32_w];rfl
      refine pure_ (i:=2) (N:=some 27) (v:=?_) (a':=?_) #[true,false,true,false,false,false,false,false,false,false,false,false,false,false,false,false,false,false,false,false,false,false,false,false,false,false,false,false,false,false] rfl rfl (any_of HT_.out zK) (fun _ _ _ h=>h) (Or.inl ⟨by rfl,?_⟩) ?_ ?_;rotate_left
      ·intro w'
       go_simp
       with_reducible rfl
      rotate_left
      ·simp only [Act.put,zi,zs,zt,i64_w,i32_w];rfl
      refine take_ (i:=1) (N:=some 26) (v:=?_) (a':=?_) #[true,true,true,false,false,false,false,false,false,false,false,false,false,false,false,false,false,false,false,false,false,false,false,false,false,false,false,false,false,false] rfl rfl (take_ofW HT_.out HW_.out zK) (fun _ _ _ h=>h) (Or.inl ⟨by rfl,?_⟩) hHeld ?_ ?_;rotate_left
      ·rintro w' ⟨s0,s1,s2,s3,s4,s5⟩
       go_simp
       with_reducible rfl
      rotate_left
      ·simp only [Act.put,zi,zs,zt,i64_w,i32_w];rfl
      refine take_ (i:=3) (N:=some 28) (v:=?_) (a':=?_) #[true,true,true,true,false,false,false,false,false,false,false,false,false,false,false,false,false,false,false,false,false,false,false,false,false,false,false,false,false,false] rfl rfl (take_ofW HT_.out HW_.out zK) (fun _ _ _ h=>h) (Or.inl ⟨by rfl,?_⟩) hHeld ?_ ?_;rotate_left
      ·rintro w' ⟨s0,s1,s2,s3,s4,s5⟩
       go_simp
       with_reducible rfl
      rotate_left
      ·simp only [Act.put,zi,zs,zt,i64_w,i32_w];rfl
      refine pure_ (i:=4) (N:=some 29) (v:=?_) (a':=?_) #[true,true,true,true,true,false,false,false,false,false,false,false,false,false,false,false,false,false,false,false,false,false,false,false,false,false,false,false,false,false] rfl rfl (any_of HT_.out zK) (fun _ _ _ h=>h) (Or.inl ⟨by rfl,?_⟩) ?_ ?_;rotate_left
      ·intro w'
       go_simp
       with_reducible rfl
      rotate_left
      ·simp only [Act.put,zi,zs,zt,i64_w,i32_w];rfl
      refine pure_ (i:=5) (N:=some 30) (v:=?_) (a':=?_) #[true,true,true,true,true,true,false,false,false,false,false,false,false,false,false,false,false,false,false,false,false,false,false,false,false,false,false,false,false,false] rfl rfl (any_of HT_.out zK) (fun _ _ _ h=>h) (Or.inl ⟨by rfl,?_⟩) ?_ ?_;rotate_left
      ·intro w'
       go_simp
       with_reducible rfl
      rotate_left
      ·simp only [Act.put,zi,zs,zt,i64_w,i32_w];rfl
      refine pure_ (i:=6) (N:=some 31) (v:=?_) (a':=?_) #[true,true,true,true,true,true,true,false,false,false,false,false,false,false,false,false,false,false,false,false,false,false,false,false,false,false,false,false,false,false] rfl rfl (any_of HT_.out zK) (fun _ _ _ h=>h) (Or.inl ⟨by rfl,?_⟩) ?_ ?_;rotate_left
      ·intro w'
       go_simp
       with_reducible rfl
      rotate_left
      ·simp only [Act.put,zi,zs,zt,i64_w,i32_w];rfl
      refine pure_ (i:=7) (N:=some 32) (v:=?_) (a':=?_) #[true,true,true,true,true,true,true,true,false,false,false,false,false,false,false,false,false,false,false,false,false,false,false,false,false,false,false,false,false,false] rfl rfl (any_of HT_.out zK) (fun _ _ _ h=>h) (Or.inl ⟨by rfl,?_⟩) ?_ ?_;rotate_left
      ·intro w'
       go_simp
       with_reducible rfl
      rotate_left
      ·simp only [Act.put,zi,zs,zt,i64_w,i32_w];rfl
      refine pure_ (i:=8) (N:=some 33) (v:=undef) (a':=?_) #[true,true,true,true,true,true,true,true,true,false,false,false,false,false,false,false,false,false,false,false,false,false,false,false,false,false,false,false,false,false] rfl rfl (any_of HT_.out zK) (fun _ _ _ h=>h) (Or.inr ⟨by rfl,rfl⟩) ?_ ?_;rotate_left
      ·simp only [Act.put,zi,zs,zt,i64_w,i32_w];rfl
      refine pure_ (i:=9) (N:=some 34) (v:=undef) (a':=?_) #[true,true,true,true,true,true,true,true,true,true,false,false,false,false,false,false,false,false,false,false,false,false,false,false,false,false,false,false,false,false] rfl rfl (any_of HT_.out zK) (fun _ _ _ h=>h) (Or.inr ⟨by rfl,rfl⟩) ?_ ?_;rotate_left
      ·simp only [Act.put,zi,zs,zt,i64_w,i32_w];rfl
      refine pure_ (i:=10) (N:=some 35) (v:=undef) (a':=?_) #[true,true,true,true,true,true,true,true,true,true,true,false,false,false,false,false,false,false,false,false,false,false,false,false,false,false,false,false,false,false] rfl rfl (any_of HT_.out zK) (fun _ _ _ h=>h) (Or.inr ⟨by rfl,rfl⟩) ?_ ?_;rotate_left
      ·simp only [Act.put,zi,zs,zt,i64_w,i32_w];rfl
      refine pure_ (i:=11) (N:=some 36) (v:=undef) (a':=?_) #[true,true,true,true,true,true,true,true,true,true,true,true,false,false,false,false,false,false,false,false,false,false,false,false,false,false,false,false,false,false] rfl rfl (any_of HT_.out zK) (fun _ _ _ h=>h) (Or.inr ⟨by rfl,rfl⟩) ?_ ?_;rotate_left
      ·simp only [Act.put,zi,zs,zt,i64_w,i32_w];rfl
      refine pure_ (i:=12) (N:=some 37) (v:=undef) (a':=?_) #[true,true,true,true,true,true,true,true,true,true,true,true,true,false,false,false,false,false,false,false,false,false,false,false,false,false,false,false,false,false] rfl rfl (any_of HT_.out zK) (fun _ _ _ h=>h) (Or.inr ⟨by rfl,rfl⟩) ?_ ?_;rotate_left
      ·simp only [Act.put,zi,zs,zt,i64_w,i32_w];rfl
      refine pure_ (i:=13) (N:=some 38) (v:=undef) (a':=?_) #[true,true,true,true,true,true,true,true,true,true,true,true,true,true,false,false,false,false,false,false,false,false,false,false,false,false,false,false,false,false] rfl rfl (any_of HT_.out zK) (fun _ _ _ h=>h) (Or.inr ⟨by rfl,rfl⟩) ?_ ?_;rotate_left
      ·simp only [Act.put,zi,zs,zt,i64_w,i32_w];rfl
      refine pure_ (i:=14) (N:=some 39) (v:=undef) (a':=?_) #[true,true,true,true,true,true,true,true,true,true,true,true,true,true,true,false,false,false,false,false,false,false,false,false,false,false,false,false,false,false] rfl rfl (any_of HT_.out zK) (fun _ _ _ h=>h) (Or.inr ⟨by rfl,rfl⟩) ?_ ?_;rotate_left
      ·simp only [Act.put,zi,zs,zt,i64_w,i32_w];rfl
      refine pure_ (i:=15) (N:=some 40) (v:=undef) (a':=?_) #[true,true,true,true,true,true,true,true,true,true,true,true,true,true,true,true,false,false,false,false,false,false,false,false,false,false,false,false,false,false] rfl rfl (any_of HT_.out zK) (fun _ _ _ h=>h) (Or.inr ⟨by rfl,rfl⟩) ?_ ?_;rotate_left
      ·simp only [Act.put,zi,zs,zt,i64_w,i32_w];rfl
      refine pure_ (i:=16) (N:=some 41) (v:=undef) (a':=?_) #[true,true,true,true,true,true,true,true,true,true,true,true,true,true,true,true,true,false,false,false,false,false,false,false,false,false,false,false,false,false] rfl rfl (any_of HT_.out zK) (fun _ _ _ h=>h) (Or.inr ⟨by rfl,rfl⟩) ?_ ?_;rotate_left
      ·simp only [Act.put,zi,zs,zt,i64_w,i32_w];rfl
      refine pure_ (i:=17) (N:=some 42) (v:=?_) (a':=?_) #[true,true,true,true,true,true,true,true,true,true,true,true,true,true,true,true,true,true,false,false,false,false,false,false,false,false,false,false,false,false] rfl rfl (any_of HT_.out zK) (fun _ _ _ h=>h) (Or.inl ⟨by rfl,?_⟩) ?_ ?_;rotate_left
      ·intro w'
       go_simp
       with_reducible rfl
      rotate_left
      ·simp only [Act.put,zi,zs,zt,i64_w,i32_w];rfl
      refine pure_ (i:=18) (N:=some 43) (v:=?_) (a':=?_) #[true,true,true,true,true,true,true,true,true,true,true,true,true,true,true,true,true,true,true,false,false,false,false,false,false,false,false,false,false,false] rfl rfl (any_of HT_.out zK) (fun _ _ _ h=>h) (Or.inl ⟨by rfl,?_⟩) ?_ ?_;rotate_left
      ·intro w'
       go_simp
       with_reducible rfl
      rotate_left
      ·simp only [Act.put,zi,zs,zt,i64_w,i32_w];rfl
      refine pure_ (i:=19) (N:=some 44) (v:=undef) (a':=?_) #[true,true,true,true,true,true,true,true,true,true,true,true,true,true,true,true,true,true,true,true,false,false,false,false,false,false,false,false,false,false] rfl rfl (any_of HT_.out zK) (fun _ _ _ h=>h) (Or.inr ⟨by rfl,rfl⟩) ?_ ?_;rotate_left
      ·simp only [Act.put,zi,zs,zt,i64_w,i32_w];rfl
      refine pure_ (i:=20) (N:=some 45) (v:=undef) (a':=?_) #[true,true,true,true,true,true,true,true,true,true,true,true,true,true,true,true,true,true,true,true,true,false,false,false,false,false,false,false,false,false] rfl rfl (any_of HT_.out zK) (fun _ _ _ h=>h) (Or.inr ⟨by rfl,rfl⟩) ?_ ?_;rotate_left
      ·simp only [Act.put,zi,zs,zt,i64_w,i32_w];rfl
      refine pure_ (i:=21) (N:=some 46) (v:=undef) (a':=?_) #[true,true,true,true,true,true,true,true,true,true,true,true,true,true,true,true,true,true,true,true,true,true,false,false,false,false,false,false,false,false] rfl rfl (any_of HT_.out zK) (fun _ _ _ h=>h) (Or.inr ⟨by rfl,rfl⟩) ?_ ?_;rotate_left
      ·simp only [Act.put,zi,zs,zt,i64_w,i32_w];rfl
      refine pure_ (i:=22) (N:=some 47) (v:=undef) (a':=?_) #[true,true,true,true,true,true,true,true,true,true,true,true,true,true,true,true,true,true,true,true,true,true,true,false,false,false,false,false,false,false] rfl rfl (any_of HT_.out zK) (fun _ _ _ h=>h) (Or.inr ⟨by rfl,rfl⟩) ?_ ?_;rotate_left
      ·simp only [Act.put,zi,zs,zt,i64_w,i32_w];rfl
      refine pure_ (i:=23) (N:=some 48) (v:=undef) (a':=?_) #[true,true,true,true,true,true,true,true,true,true,true,true,true,true,true,true,true,true,true,true,true,true,true,true,false,false,false,false,false,false] rfl rfl (any_of HT_.out zK) (fun _ _ _ h=>h) (Or.inr ⟨by rfl,rfl⟩) ?_ ?_;rotate_left
      ·simp only [Act.put,zi,zs,zt,i64_w,i32_w];rfl
      refine pure_ (i:=24) (N:=some 49) (v:=undef) (a':=?_) #[true,true,true,true,true,true,true,true,true,true,true,true,true,true,true,true,true,true,true,true,true,true,true,true,true,false,false,false,false,false] rfl rfl (any_of HT_.out zK) (fun _ _ _ h=>h) (Or.inr ⟨by rfl,rfl⟩) ?_ ?_;rotate_left
      ·simp only [Act.put,zi,zs,zt,i64_w,i32_w];rfl
      refine pure_ (i:=25) (N:=some 50) (v:=undef) (a':=?_) #[true,true,true,true,true,true,true,true,true,true,true,true,true,true,true,true,true,true,true,true,true,true,true,true,true,true,false,false,false,false] rfl rfl (any_of HT_.out zK) (fun _ _ _ h=>h) (Or.inr ⟨by rfl,rfl⟩) ?_ ?_;rotate_left
      ·simp only [Act.put,zi,zs,zt,i64_w,i32_w];rfl
      refine pure_ (i:=26) (N:=some 51) (v:=undef) (a':=?_) #[true,true,true,true,true,true,true,true,true,true,true,true,true,true,true,true,true,true,true,true,true,true,true,true,true,true,true,false,false,false] rfl rfl (any_of HT_.out zK) (fun _ _ _ h=>h) (Or.inr ⟨by rfl,rfl⟩) ?_ ?_;rotate_left
      ·simp only [Act.put,zi,zs,zt,i64_w,i32_w];rfl
      refine pure_ (i:=27) (N:=some 52) (v:=undef) (a':=?_) #[true,true,true,true,true,true,true,true,true,true,true,true,true,true,true,true,true,true,true,true,true,true,true,true,true,true,true,true,false,false] rfl rfl (any_of HT_.out zK) (fun _ _ _ h=>h) (Or.inr ⟨by rfl,rfl⟩) ?_ ?_;rotate_left
      ·simp only [Act.put,zi,zs,zt,i64_w,i32_w];rfl
      refine pure_ (i:=28) (N:=some 53) (v:=?_) (a':=?_) #[true,true,true,true,true,true,true,true,true,true,true,true,true,true,true,true,true,true,true,true,true,true,true,true,true,true,true,true,true,false] rfl rfl (any_of HT_.out zK) (fun _ _ _ h=>h) (Or.inl ⟨by rfl,?_⟩) ?_ ?_;rotate_left
      ·intro w'
       go_simp
       with_reducible rfl
      rotate_left
      ·simp only [Act.put,zi,zs,zt,i64_w,i32_w];rfl
      refine pure_ (i:=29) (N:=some 8) (v:=?_) (a':=?_) #[true,true,true,true,true,true,true,true,true,true,true,true,true,true,true,true,true,true,true,true,true,true,true,true,true,true,true,true,true,true] rfl rfl (any_of HT_.out zK) (fun _ _ _ h=>h) (Or.inl ⟨by rfl,?_⟩) ?_ ?_;rotate_left
      ·intro w'
       go_simp
       with_reducible rfl
      rotate_left
      ·simp only [Act.put,zi,zs,zt,i64_w,i32_w];rfl
      refine done_ (done_of HT_.out zK) ?_
      try go_wp2
      go_ret
      exact ⟨by first|rfl|(simp [errW_none,errW_some] <;> rfl)|(simp only [← hji24];first|rfl|(simp [errW_none,errW_some] <;> rfl))|(simp [*,errW_none,errW_some] <;> rfl),zv3 HB GE45 GE44 GE43⟩
    ·rw [if_neg c23] at H;exact absurd H (by simp)
  ·rw [if_neg c6] at H;exact absurd H (by simp)
 ·rw [if_neg c5] at H;exact absurd H (by simp)
def solve_Check.f (k:Nat) (l0:List (S34)) (l1_0:List (S116)):Option (Bool):=(solve_valid.f k l0).bind fun t54=>(if t54=0 then ((solve_shape.f k l0 l1_0).bind fun t58=>(if t58=true then ((solve_right.f k l0 l1_0 0 0 0).bind fun t55=>(some t55)) else (some false))) else (some false))
theorem solve_Check.mono:∀ a0 a1 k,LeO (solve_Check.f k a0 a1) (solve_Check.f (k+1) a0 a1):=by
 intro a0 a1 k
 unfold solve_Check.f
 repeat' first
   | (with_reducible exact solve_right.mono _ _ _ _ _ _)
   | (with_reducible exact solve_shape.mono _ _ _)
   | (with_reducible exact solve_valid.mono _ _)
   | (with_reducible exact LeO.refl _)
   | (with_reducible exact LeO.none _)
   | (with_reducible refine LeO.ite ?_ ?_)
   | (with_reducible refine LeO.bind ?_ (fun _=>?_))
   | exact LeO.none _
   | refine LeO.ite ?_ ?_
   | refine LeO.bind ?_ (fun _=>?_)
set_option maxHeartbeats 8000000 in
set_option maxRecDepth 100000 in
theorem solve_Check.calls (k:Nat) (A0:Option Addr) (c0:Nat) (l0:List (S34)) (A1_0:Option Addr) (c1_0:Nat) (l1_0:List (S116)) (r:Bool) (w:World) (hr0:Kd.C k34 w A0 l0.length l0) (hc0:l0.length≤c0) (hr1_0:Kd.C k116 w A1_0 l1_0.length l1_0) (hc1_0:l1_0.length≤c1_0) (h:solve_Check.f k l0 l1_0=some r) :
  Calls Try.prog 66 #[.slice A0 l0.length c0,.agg #[.slice A1_0 l1_0.length c1_0]] w fun e w'=>e=.returned (.bool r)∧Below w.heap.size w w':=by
 have hu63:=Try.underlying63;have hu96:=Try.underlying96;have HR0:=zA hr0;have HC0:=zA hc0;clear hr0 hc0;have HR1_0:=zA hr1_0;have HC1_0:=zA hc1_0;clear hr1_0 hc1_0;have HB:=zA (Below.refl w.heap.size w);have H:((solve_valid.f k l0).bind fun t54=>(if t54=0 then ((solve_shape.f k l0 l1_0).bind fun t58=>(if t58=true then ((solve_right.f k l0 l1_0 0 0 0).bind fun t55=>(some t55)) else (some false))) else (some false)))=some r:=h;clear h;have HC3:=zA H;clear H
 go_enter Try.func66,Try.ntmps66
 go_upto_region 1 with (first|((with_reducible refine gate_dst (N:=3) rfl ?_);refine box_event ?hg (N:=3) ?hd (cs:=#[.slice A1_0 l1_0.length c1_0]) (t:=63) ?hr ?_;(case hd=>rfl);(case hg=>rfl);(case hr=>first|(go_simp;done)|(go_simp;rfl));intro gb48 hg w4 hbox hb;have BK48:=zA (hbox);have GW48:=zA (zG hg (below_size zB):w.heap.size≤gb48);have GE48:=GW48;replace HB:=zA (below_step zB hb);clear hb hbox hg))
 (try simp only [Act.put,zi,zs,zt]);have H:=HC3.out;clear HC3;replace H:=Option.bind_eq_some_iff.mp H;obtain ⟨t54,A50,H⟩:=H;replace H:(if t54=0 then ((solve_shape.f k l0 l1_0).bind fun t58=>(if t58=true then ((solve_right.f k l0 l1_0 0 0 0).bind fun t55=>(some t55)) else (some false))) else (some false))=some r:=H;have A5:=zA A50;clear A50
 by_cases c6:t54=0
 ·rw [if_pos c6] at H;have c6b0:(t54 == 0)=true:=beq_iff_eq.mpr c6;have c6b1:(t54 != 0)=false:=bne_eq_false_iff_eq.mpr c6;clear c6
  (first|rw [c6b0]|(simp only [i64_w,i32_w];rw [c6b0])|skip)
  (try rw [c6b1]);replace H:=Option.bind_eq_some_iff.mp H;obtain ⟨t58,A70,H⟩:=H;replace H:(if t58=true then ((solve_right.f k l0 l1_0 0 0 0).bind fun t55=>(some t55)) else (some false))=some r:=H;have A7:=zA A70;clear A70
  by_cases c8:t58=true
  ·subst c8
   have H1:((solve_right.f k l0 l1_0 0 0 0).bind fun t55=>(some t55))=some r:=by rw [if_pos rfl] at H;exact H
   clear H;have H:=H1;clear H1;replace H:=Option.bind_eq_some_iff.mp H;obtain ⟨t55,A90,H⟩:=H;replace H:(some t55)=some r:=H;have A9:=zA A90;clear A90;obtain rfl:=Option.some.inj H
   go_wp2_with (first|((with_reducible refine gate_callee (f:=50) rfl ?_);refine goesL_ (some 6) rfl rfl Try.func50 zK rfl #[.slice A0 l0.length c0] rfl zM ?_;(with_reducible refine (solve_valid.calls k _ _ l0 t54 _ ?side1 ?side2 A5.out).mono ?_);(case side1=>exact zC (Kd.C_below HR0.out HB.out));(case side2=>exact HC0.out);rintro e w10 ⟨rfl,hb⟩;refine ⟨_,rfl,?_⟩;replace BK48:=zA (zb BK48 hb);replace HB:=zA (below_step zB hb);(try clear hb);(try clear hb2);(try clear hk);(try clear hi);have hcz11_0:w10.cell? ⟨gb48,0,none⟩=some (.slice A1_0 l1_0.length c1_0):=(blk_cell BK48.out 0).trans rfl;have hfz11_0:=blk_frozen BK48.out 0)|(go_at_call 77;(with_reducible refine (solve_shape.calls k _ _ l0 _ _ l1_0 true _ ?side1 ?side2 ?side3 ?side4 A7.out).mono ?_);(case side1=>exact zC (Kd.C_below HR0.out HB.out));(case side2=>exact HC0.out);(case side3=>exact zC (Kd.C_below HR1_0.out HB.out));(case side4=>exact HC1_0.out);rintro e w12 ⟨rfl,hb⟩;replace BK48:=zA (zb BK48 hb);replace HB:=zA (below_step zB hb);(try clear hb);(try clear hb2);(try clear hk);(try clear hi);have hcz13_0:w12.cell? ⟨gb48,0,none⟩=some (.slice A1_0 l1_0.length c1_0):=(blk_cell BK48.out 0).trans rfl;have hfz13_0:=blk_frozen BK48.out 0)|(go_at_call 78;(with_reducible refine (solve_right.calls k _ _ l0 _ _ l1_0 0 0 0 t55 _ ?side1 ?side2 ?side3 ?side4 A9.out).mono ?_);(case side1=>exact zC (Kd.C_below HR0.out HB.out));(case side2=>exact HC0.out);(case side3=>exact zC (Kd.C_below HR1_0.out HB.out));(case side4=>exact HC1_0.out);rintro e w14 ⟨rfl,hb⟩;replace BK48:=zA (zb BK48 hb);replace HB:=zA (below_step zB hb);(try clear hb);(try clear hb2);(try clear hk);(try clear hi)))
   go_ret
   exact ⟨ze,zv1 HB GE48⟩
  ·replace c8:=Bool.eq_false_iff.mpr c8;subst c8
   have H1:(some false)=some r:=by rw [if_neg (show ¬ (false=true) by decide)] at H;exact H
   clear H;have H:=H1;clear H1;obtain rfl:=Option.some.inj H
   go_wp2_with (first|((with_reducible refine gate_callee (f:=50) rfl ?_);refine goesL_ (some 6) rfl rfl Try.func50 zK rfl #[.slice A0 l0.length c0] rfl zM ?_;(with_reducible refine (solve_valid.calls k _ _ l0 t54 _ ?side1 ?side2 A5.out).mono ?_);(case side1=>exact zC (Kd.C_below HR0.out HB.out));(case side2=>exact HC0.out);rintro e w15 ⟨rfl,hb⟩;refine ⟨_,rfl,?_⟩;replace BK48:=zA (zb BK48 hb);replace HB:=zA (below_step zB hb);(try clear hb);(try clear hb2);(try clear hk);(try clear hi);have hcz16_0:w15.cell? ⟨gb48,0,none⟩=some (.slice A1_0 l1_0.length c1_0):=(blk_cell BK48.out 0).trans rfl;have hfz16_0:=blk_frozen BK48.out 0)|(go_at_call 77;(with_reducible refine (solve_shape.calls k _ _ l0 _ _ l1_0 false _ ?side1 ?side2 ?side3 ?side4 A7.out).mono ?_);(case side1=>exact zC (Kd.C_below HR0.out HB.out));(case side2=>exact HC0.out);(case side3=>exact zC (Kd.C_below HR1_0.out HB.out));(case side4=>exact HC1_0.out);rintro e w17 ⟨rfl,hb⟩;replace BK48:=zA (zb BK48 hb);replace HB:=zA (below_step zB hb);(try clear hb);(try clear hb2);(try clear hk);(try clear hi)))
   go_ret
   exact ⟨ze,zv1 HB GE48⟩
 ·rw [if_neg c6] at H;have c6b0:(t54 == 0)=false:=beq_eq_false_iff_ne.mpr c6;have c6b1:(t54 != 0)=true:=bne_iff_ne.mpr c6
  (first|rw [c6b0]|(simp only [i64_w,i32_w];rw [c6b0])|skip)
  (try rw [c6b1]);obtain rfl:=Option.some.inj H
  go_wp2_with (first|((with_reducible refine gate_callee (f:=50) rfl ?_);refine goesL_ (some 6) rfl rfl Try.func50 zK rfl #[.slice A0 l0.length c0] rfl zM ?_;(with_reducible refine (solve_valid.calls k _ _ l0 t54 _ ?side1 ?side2 A5.out).mono ?_);(case side1=>exact zC (Kd.C_below HR0.out HB.out));(case side2=>exact HC0.out);rintro e w18 ⟨rfl,hb⟩;refine ⟨_,rfl,?_⟩;replace BK48:=zA (zb BK48 hb);replace HB:=zA (below_step zB hb);(try clear hb);(try clear hb2);(try clear hk);(try clear hi)))
  go_ret
  exact ⟨ze,zv1 HB GE48⟩
def shared_right_1_v1.f (k:Nat) (a0:Int) (a1:Int) (l2_0:List (S34)) (a3_0:Int) (a3_1:Int) (a3_2:Int) (a3_3:Int) (a3_4:Int) (l3_5:List (S116)):Option (Bool):=(solve_Holds.f k l2_0 a0).bind fun t62=>(if t62=true then (if 0≤a3_0 then (some ((Go.bits .and .i64 (shr .i64 a0 a3_0) 1) == a1)) else (none)) else (some false))
theorem shared_right_1_v1.mono:∀ a0 a1 a2 a3 a4 a5 a6 a7 a8 k,LeO (shared_right_1_v1.f k a0 a1 a2 a3 a4 a5 a6 a7 a8) (shared_right_1_v1.f (k+1) a0 a1 a2 a3 a4 a5 a6 a7 a8):=by
 intro a0 a1 a2 a3 a4 a5 a6 a7 a8 k
 unfold shared_right_1_v1.f
 repeat' first
   | (with_reducible exact solve_Holds.mono _ _ _)
   | (with_reducible exact LeO.refl _)
   | (with_reducible exact LeO.none _)
   | (with_reducible refine LeO.ite ?_ ?_)
   | (with_reducible refine LeO.bind ?_ (fun _=>?_))
   | exact LeO.none _
   | refine LeO.ite ?_ ?_
   | refine LeO.bind ?_ (fun _=>?_)
set_option maxHeartbeats 8000000 in
set_option maxRecDepth 100000 in
theorem shared_right_1_v1.calls (k:Nat) (a0:Int) (a1:Int) (gp2_0:Nat) (A2_0:Option Addr) (c2_0:Nat) (l2_0:List (S34)) (gp3_0:Nat) (a3_0:Int) (a3_1:Int) (a3_2:Int) (a3_3:Int) (a3_4:Int) (A3_5:Option Addr) (c3_5:Nat) (l3_5:List (S116)) (r:Bool) (w:World) (hr2_0:Kd.C k34 w A2_0 l2_0.length l2_0) (hc2_0:l2_0.length≤c2_0) (hb_gp2_0:w.heap[gp2_0]?=some (.cells #[.slice A2_0 l2_0.length c2_0] 22 (0,0))) (hr3_5:Kd.C k116 w A3_5 l3_5.length l3_5) (hc3_5:l3_5.length≤c3_5) (hb_gp3_0:w.heap[gp3_0]?=some (.cells #[.int .i64 a3_0,.int .i64 a3_1,.int .i64 a3_2,.int .i64 a3_3,.int .i64 a3_4,.slice A3_5 l3_5.length c3_5] 65 (0,0))) (h:shared_right_1_v1.f k a0 a1 l2_0 a3_0 a3_1 a3_2 a3_3 a3_4 l3_5=some r) :
  Calls Try.prog 63 #[.int .i64 a0,.int .i64 a1,.pointer (some ⟨gp2_0,0,none⟩),.pointer (some ⟨gp3_0,0,none⟩)] w fun e w'=>e=.returned (.bool r)∧Below w.heap.size w w':=by
 have hu22:=Try.underlying22;have hu3:=Try.underlying3;have HR2_0:=zA hr2_0;have HC2_0:=zA hc2_0;clear hr2_0 hc2_0;have HR3_5:=zA hr3_5;have HC3_5:=zA hc3_5;clear hr3_5 hc3_5;have BK57:=zA hb_gp2_0;clear hb_gp2_0;have BK51:=zA hb_gp3_0;clear hb_gp3_0;have HB:=zA (Below.refl w.heap.size w);have H:((solve_Holds.f k l2_0 a0).bind fun t62=>(if t62=true then (if 0≤a3_0 then (some ((Go.bits .and .i64 (shr .i64 a0 a3_0) 1) == a1)) else (none)) else (some false)))=some r:=h;clear h;replace H:=Option.bind_eq_some_iff.mp H;obtain ⟨t62,A50,H⟩:=H;replace H:(if t62=true then (if 0≤a3_0 then (some ((Go.bits .and .i64 (shr .i64 a0 a3_0) 1) == a1)) else (none)) else (some false))=some r:=H;have A5:=zA A50;clear A50
 by_cases c6:t62=true
 ·subst c6
  have H1:(if 0≤a3_0 then (some ((Go.bits .and .i64 (shr .i64 a0 a3_0) 1) == a1)) else (none))=some r:=by rw [if_pos rfl] at H;exact H
  clear H;have H:=H1;clear H1
  by_cases c7:0≤a3_0
  ·rw [if_pos c7] at H;have c7b0:=eq_true c7;have c7b1:decide (0≤a3_0)=true:=decide_eq_true c7;clear c7
   obtain ⟨ji8,hji8⟩:∃ j_:Int,(shr .i64 a0 a3_0)=j_:=⟨_,rfl⟩
   replace H:(some ((Go.bits .and .i64 (ji8) 1) == a1))=some r:=by first|(rw [hji8] at H;exact H)|(simp only [hji8] at H ⊢;exact H)
   (try rw [hji8] at A5);have hji8_:(a0 / 2 ^ min a3_0.toNat 64)=ji8:=hji8;have hji8z:a3_0≤64→(a0 / 2 ^ a3_0.toNat)=ji8:=shr_small hji8;obtain rfl:=Option.some.inj H;have hcz9_0:w.cell? ⟨gp2_0,0,none⟩=some (.slice A2_0 l2_0.length c2_0):=(blk_cell BK57.out 0).trans rfl;have hfz9_0:=blk_frozen BK57.out 0
   go_enter Try.func63,Try.ntmps63
   go_wp2_with (first|((with_reducible refine gate_callee (f:=64) rfl ?_);refine goesL_ (some 9) rfl rfl Try.func64 zK rfl #[.slice A2_0 l2_0.length c2_0,.int .i64 a0] rfl zM ?_;(with_reducible refine (solve_Holds.calls k _ _ l2_0 a0 true _ ?side1 ?side2 A5.out).mono ?_);(case side1=>repeat (first|exact HR2_0.out|(with_reducible refine Kd.C_alloc ?_ _)|(with_reducible refine Kd.C_drewN ?_ _)|(with_reducible refine Kd.C_drew ?_)));(case side2=>exact HC2_0.out);rintro e w10 ⟨rfl,hb⟩;refine ⟨_,rfl,?_⟩;replace BK57:=zA (zb BK57 hb);replace BK51:=zA (zb BK51 hb);replace HB:=zA (below_step zB hb);(try clear hb);(try clear hb2);(try clear hk);(try clear hi);have hcz11_0:w10.cell? ⟨gp3_0,0,none⟩=some (.int .i64 a3_0):=(blk_cell BK51.out 0).trans rfl;have hcz11_1:w10.cell? ⟨gp3_0,1,none⟩=some (.int .i64 a3_1):=(blk_cell BK51.out 1).trans rfl;have hcz11_2:w10.cell? ⟨gp3_0,2,none⟩=some (.int .i64 a3_2):=(blk_cell BK51.out 2).trans rfl;have hcz11_3:w10.cell? ⟨gp3_0,3,none⟩=some (.int .i64 a3_3):=(blk_cell BK51.out 3).trans rfl;have hcz11_4:w10.cell? ⟨gp3_0,4,none⟩=some (.int .i64 a3_4):=(blk_cell BK51.out 4).trans rfl;have hcz11_5:w10.cell? ⟨gp3_0,5,none⟩=some (.slice A3_5 l3_5.length c3_5):=(blk_cell BK51.out 5).trans rfl;have hfz11_0:=blk_frozen BK51.out 0;have hfz11_1:=blk_frozen BK51.out 1;have hfz11_2:=blk_frozen BK51.out 2;have hfz11_3:=blk_frozen BK51.out 3;have hfz11_4:=blk_frozen BK51.out 4;have hfz11_5:=blk_frozen BK51.out 5))
   go_ret
   exact ⟨by first|rfl|(simp [errW_none,errW_some] <;> rfl)|(simp only [← hji8];first|rfl|(simp [errW_none,errW_some] <;> rfl))|(simp [*,errW_none,errW_some] <;> rfl),zv0 HB⟩
  ·rw [if_neg c7] at H;exact absurd H (by simp)
 ·replace c6:=Bool.eq_false_iff.mpr c6;subst c6
  have H1:(some false)=some r:=by rw [if_neg (show ¬ (false=true) by decide)] at H;exact H
  clear H;have H:=H1;clear H1;obtain rfl:=Option.some.inj H;have hcz12_0:w.cell? ⟨gp2_0,0,none⟩=some (.slice A2_0 l2_0.length c2_0):=(blk_cell BK57.out 0).trans rfl;have hfz12_0:=blk_frozen BK57.out 0
  go_enter Try.func63,Try.ntmps63
  go_wp2_with (first|((with_reducible refine gate_callee (f:=64) rfl ?_);refine goesL_ (some 9) rfl rfl Try.func64 zK rfl #[.slice A2_0 l2_0.length c2_0,.int .i64 a0] rfl zM ?_;(with_reducible refine (solve_Holds.calls k _ _ l2_0 a0 false _ ?side1 ?side2 A5.out).mono ?_);(case side1=>repeat (first|exact HR2_0.out|(with_reducible refine Kd.C_alloc ?_ _)|(with_reducible refine Kd.C_drewN ?_ _)|(with_reducible refine Kd.C_drew ?_)));(case side2=>exact HC2_0.out);rintro e w13 ⟨rfl,hb⟩;refine ⟨_,rfl,?_⟩;replace BK57:=zA (zb BK57 hb);replace BK51:=zA (zb BK51 hb);replace HB:=zA (below_step zB hb);(try clear hb);(try clear hb2);(try clear hk);(try clear hi)))
  go_ret
  exact ⟨ze,zv0 HB⟩
end Go.Proofs.Ytngpkbbljnbojaa.I
