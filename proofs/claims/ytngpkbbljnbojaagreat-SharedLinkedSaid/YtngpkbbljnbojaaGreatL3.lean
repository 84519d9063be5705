import Derived.Test.YtngpkbbljnbojaaGreatL0
import Derived.Test.YtngpkbbljnbojaaGreatL2
namespace Go.Proofs.YtngpkbbljnbojaaGreat.L
open Go.RowKit Go.Proofs.YtngpkbbljnbojaaGreatW.PrintWords Go.Proofs.YtngpkbbljnbojaaGreatW.PrintLast Go.Proofs.YtngpkbbljnbojaaGreatW.PrintMore
attribute [local go_sem] max2_int min2_int max_two min_two max_three min_three max_four min_four Tryz.underlying108 Tryz.underlying3 Tryz.underlying43 Tryz.underlying63
set_option linter.unusedVariables false
set_option linter.unusedSimpArgs false
def solve_choices_fails.f (k:Nat) (a0_0:Int) (a0_1:Int) (l1_0:List Int) (l1_1:List Int):Option (Bool):=(solve_row.f k l1_0 l1_1 a0_0).bind fun t25=>((solve_row.f k l1_0 l1_1 a0_1).bind fun t26=>((slices_ContainsFunc_int_int_solve_choices_fails_1.f k l1_1 t25 t26).bind fun t27=>(some (!t27))))
theorem solve_choices_fails.mono:∀ a0 a1 a2 a3 k,LeO (solve_choices_fails.f k a0 a1 a2 a3) (solve_choices_fails.f (k+1) a0 a1 a2 a3):=by
 intro a0 a1 a2 a3 k
 unfold solve_choices_fails.f
 repeat' first
   | (with_reducible exact slices_ContainsFunc_int_int_solve_choices_fails_1.mono _ _ _ _)
   | (with_reducible exact solve_row.mono _ _ _ _)
   | (with_reducible exact LeO.refl _)
   | (with_reducible exact LeO.none _)
   | (with_reducible refine LeO.ite ?_ ?_)
   | (with_reducible refine LeO.bind ?_ (fun _=>?_))
   | exact LeO.none _
   | refine LeO.ite ?_ ?_
   | refine LeO.bind ?_ (fun _=>?_)
def solve_choices_fails.T1:Bool×List (List Nat×List Nat):=(true,[([],[]),([],[]),([1],[1]),([0,2],[0,2]),([],[]),([],[]),([5],[5]),([4,6,3],[4,6]),([],[]),([],[]),([8,3,7,0,1,2,3,8,9],[3,8]),([9,7,10,0,1,2,3,4,5,6,7,8,9,10],[7,9])])
def solve_choices_fails.B1:List Nat:=[0,0,2,7,0,0,32,127,0,0,1023,2047]
theorem solve_choices_fails.tab1:rtab .any (opsOf Tryz.f125 1)=solve_choices_fails.T1:=by kernel_rfl
theorem solve_choices_fails.bits1:waitsOk solve_choices_fails.T1.2 solve_choices_fails.B1=true:=by kernel_rfl
set_option maxHeartbeats 8000000 in
set_option maxRecDepth 100000 in
theorem solve_choices_fails.calls (k:Nat) (a0_0:Int) (a0_1:Int) (A1_0:Option Addr) (c1_0:Nat) (l1_0:List Int) (A1_1:Option Addr) (c1_1:Nat) (l1_1:List Int) (r:Bool) (w:World) (hr1_0:Kd.C (Kd.int .i64) w A1_0 l1_0.length l1_0) (hc1_0:l1_0.length≤c1_0) (hr1_1:Kd.C (Kd.int .i64) w A1_1 l1_1.length l1_1) (hc1_1:l1_1.length≤c1_1) (h:solve_choices_fails.f k a0_0 a0_1 l1_0 l1_1=some r) :
  Calls Tryz.prog 125 #[.agg #[.int .i64 a0_0,.int .i64 a0_1],.agg #[.slice A1_0 l1_0.length c1_0,.slice A1_1 l1_1.length c1_1]] w fun e w'=>e=.returned (.bool r)∧Below w.heap.size w w':=by
 have HR1_0:=zA hr1_0;have HC1_0:=zA hc1_0;clear hr1_0 hc1_0;have HR1_1:=zA hr1_1;have HC1_1:=zA hc1_1;clear hr1_1 hc1_1;have HB:=zA (Below.refl w.heap.size w);have H:((solve_row.f k l1_0 l1_1 a0_0).bind fun t25=>((solve_row.f k l1_0 l1_1 a0_1).bind fun t26=>((slices_ContainsFunc_int_int_solve_choices_fails_1.f k l1_1 t25 t26).bind fun t27=>(some (!t27)))))=some r:=h;clear h;obtain ⟨t25,A3,H⟩:=zo H;obtain ⟨t26,A4,H⟩:=zo H;obtain ⟨t27,A5,H⟩:=zo H;obtain rfl:=Option.some.inj H
 go_enter Tryz.func125,Tryz.ntmps125
 try go_wp2_with (first|((with_reducible refine gd 2 rfl ?_);refine zx #[.int .i64 a0_0,.int .i64 a0_1] 108 ?_;intro gb22 hg w6 BK22 hb GW22 HB1;have GE22:=GW22;clear HB hb hg;have HB:=HB1;clear HB1)|((with_reducible refine gd 3 rfl ?_);refine zx #[.slice A1_0 l1_0.length c1_0,.slice A1_1 l1_1.length c1_1] 63 ?_;intro gb21 hg w7 BK21 hb GW21 HB1;have GE21:=GW21;have NB22_21:=zL hg BK22;have NB21_22:=zLs NB22_21;replace BK22:=zw BK22 hb;clear HB hb hg;have HB:=HB1;clear HB1))
 replace BK22:=zA (blk_drew BK22.out);replace BK21:=zA (blk_drew BK21.out);replace HB:=zA (below_drew1 HB.out);refine start_ (n:=12) (S:=fun w'=>w'.cell? ⟨gb21,0,none⟩=some (.slice A1_0 l1_0.length c1_0)∧w'.cell? ⟨gb21,1,none⟩=some (.slice A1_1 l1_1.length c1_1)∧w'.cell? ⟨gb22,0,none⟩=some (.int .i64 a0_0)∧w'.cell? ⟨gb22,1,none⟩=some (.int .i64 a0_1)) (ds:=[]) (bz 12 0) zK rfl rfl ⟨zc0 BK21,zc1 BK21,zc0 BK22,zc1 BK22⟩ (fun hHeld=>?_);refine with_tabW solve_choices_fails.tab1 solve_choices_fails.bits1 (fun HT_ HW_=>?_)
 generalize w7.drew=w8 at BK22 BK21 HB hHeld ⊢
 refine zP 1 8 (bz 12 2) HT_ ?_;refine zP 5 12 (bz 12 34) HT_ ?_;refine zQ 0 7 (bz 12 35) HT_ HW_ hHeld ?_;refine zQ 2 9 (bz 12 39) HT_ HW_ hHeld ?_;refine zQ 4 11 (bz 12 55) HT_ HW_ hHeld ?_;refine zQ 6 13 (bz 12 119) HT_ HW_ hHeld ?_;refine join_ (σ:=Nat×Nat) 2 (bz 12 1023) (fun s_=>[(10,.int .i64 t25),(14,.int .i64 t26),(5,.pointer (some ⟨s_.1,0,none⟩)),(6,.pointer (some ⟨s_.2,0,none⟩))]) (fun s_ w'=>(w'.cell? ⟨gb21,0,none⟩=some (.slice A1_0 l1_0.length c1_0)∧w'.cell? ⟨gb21,1,none⟩=some (.slice A1_1 l1_1.length c1_1)∧w'.cell? ⟨gb22,0,none⟩=some (.int .i64 a0_0)∧w'.cell? ⟨gb22,1,none⟩=some (.int .i64 a0_1))∧(w'.heap[gb22]?=some (.cells #[.int .i64 a0_0,.int .i64 a0_1] 108 (0,0)))∧(w'.heap[gb21]?=some (.cells #[.slice A1_0 l1_0.length c1_0,.slice A1_1 l1_1.length c1_1] 63 (0,0)))∧(w'.heap[s_.1]?=some (.cells #[.int .i64 0] 3 (0,0)))∧(w'.heap[s_.2]?=some (.cells #[.int .i64 0] 3 (0,0)))∧(w.heap.size≤s_.1)∧(w.heap.size≤s_.1)∧(gb22≠s_.1)∧(s_.1≠gb22)∧(gb21≠s_.1)∧(s_.1≠gb21)∧(s_.2≠s_.1)∧(s_.1≠s_.2)∧(w.heap.size≤s_.2)∧(w.heap.size≤s_.2)∧(gb22≠s_.2)∧(s_.2≠gb22)∧(gb21≠s_.2)∧(s_.2≠gb21)∧(Below w.heap.size w w')) ?_ ?_;rotate_left
 ·intro hJ3_7_8_9;refine join_ (σ:=Nat) 3 (bz 12 511) (fun s_=>[(10,.int .i64 t25),(14,.int .i64 t26),(5,.pointer (some ⟨s_,0,none⟩))]) (fun s_ w'=>(w'.cell? ⟨gb21,0,none⟩=some (.slice A1_0 l1_0.length c1_0)∧w'.cell? ⟨gb21,1,none⟩=some (.slice A1_1 l1_1.length c1_1)∧w'.cell? ⟨gb22,0,none⟩=some (.int .i64 a0_0)∧w'.cell? ⟨gb22,1,none⟩=some (.int .i64 a0_1))∧(w'.heap[gb22]?=some (.cells #[.int .i64 a0_0,.int .i64 a0_1] 108 (0,0)))∧(w'.heap[gb21]?=some (.cells #[.slice A1_0 l1_0.length c1_0,.slice A1_1 l1_1.length c1_1] 63 (0,0)))∧(w'.heap[s_]?=some (.cells #[.int .i64 0] 3 (0,0)))∧(w.heap.size≤s_)∧(w.heap.size≤s_)∧(gb22≠s_)∧(s_≠gb22)∧(gb21≠s_)∧(s_≠gb21)∧(Below w.heap.size w w')) ?_ ?_;rotate_left
  ·intro hJ3_7_8;refine join_ (σ:=Nat) 3 (bz 12 767) (fun s_=>[(10,.int .i64 t25),(14,.int .i64 t26),(6,.pointer (some ⟨s_,0,none⟩))]) (fun s_ w'=>(w'.cell? ⟨gb21,0,none⟩=some (.slice A1_0 l1_0.length c1_0)∧w'.cell? ⟨gb21,1,none⟩=some (.slice A1_1 l1_1.length c1_1)∧w'.cell? ⟨gb22,0,none⟩=some (.int .i64 a0_0)∧w'.cell? ⟨gb22,1,none⟩=some (.int .i64 a0_1))∧(w'.heap[gb22]?=some (.cells #[.int .i64 a0_0,.int .i64 a0_1] 108 (0,0)))∧(w'.heap[gb21]?=some (.cells #[.slice A1_0 l1_0.length c1_0,.slice A1_1 l1_1.length c1_1] 63 (0,0)))∧(w'.heap[s_]?=some (.cells #[.int .i64 0] 3 (0,0)))∧(w.heap.size≤s_)∧(w.heap.size≤s_)∧(gb22≠s_)∧(s_≠gb22)∧(gb21≠s_)∧(s_≠gb21)∧(Below w.heap.size w w')) ?_ ?_;rotate_left
   ·intro hJ3_7_9;refine join_ (σ:=Nat×Nat) 3 (bz 12 895) (fun s_=>[(10,.int .i64 t25),(5,.pointer (some ⟨s_.1,0,none⟩)),(6,.pointer (some ⟨s_.2,0,none⟩))]) (fun s_ w'=>(w'.cell? ⟨gb21,0,none⟩=some (.slice A1_0 l1_0.length c1_0)∧w'.cell? ⟨gb21,1,none⟩=some (.slice A1_1 l1_1.length c1_1)∧w'.cell? ⟨gb22,0,none⟩=some (.int .i64 a0_0)∧w'.cell? ⟨gb22,1,none⟩=some (.int .i64 a0_1))∧(w'.heap[gb22]?=some (.cells #[.int .i64 a0_0,.int .i64 a0_1] 108 (0,0)))∧(w'.heap[gb21]?=some (.cells #[.slice A1_0 l1_0.length c1_0,.slice A1_1 l1_1.length c1_1] 63 (0,0)))∧(w'.heap[s_.1]?=some (.cells #[.int .i64 0] 3 (0,0)))∧(w'.heap[s_.2]?=some (.cells #[.int .i64 0] 3 (0,0)))∧(w.heap.size≤s_.1)∧(w.heap.size≤s_.1)∧(gb22≠s_.1)∧(s_.1≠gb22)∧(gb21≠s_.1)∧(s_.1≠gb21)∧(s_.2≠s_.1)∧(s_.1≠s_.2)∧(w.heap.size≤s_.2)∧(w.heap.size≤s_.2)∧(gb22≠s_.2)∧(s_.2≠gb22)∧(gb21≠s_.2)∧(s_.2≠gb21)∧(Below w.heap.size w w')) ?_ ?_;rotate_left
    ·intro hJ3_8_9;refine join_ (σ:=Unit) 4 (bz 12 255) (fun s_=>[(10,.int .i64 t25),(14,.int .i64 t26)]) (fun s_ w'=>(w'.cell? ⟨gb21,0,none⟩=some (.slice A1_0 l1_0.length c1_0)∧w'.cell? ⟨gb21,1,none⟩=some (.slice A1_1 l1_1.length c1_1)∧w'.cell? ⟨gb22,0,none⟩=some (.int .i64 a0_0)∧w'.cell? ⟨gb22,1,none⟩=some (.int .i64 a0_1))∧(w'.heap[gb22]?=some (.cells #[.int .i64 a0_0,.int .i64 a0_1] 108 (0,0)))∧(w'.heap[gb21]?=some (.cells #[.slice A1_0 l1_0.length c1_0,.slice A1_1 l1_1.length c1_1] 63 (0,0)))∧(Below w.heap.size w w')) ?_ ?_;rotate_left
     ·intro hJ3_7;refine join_ (σ:=Nat) 4 (bz 12 383) (fun s_=>[(10,.int .i64 t25),(5,.pointer (some ⟨s_,0,none⟩))]) (fun s_ w'=>(w'.cell? ⟨gb21,0,none⟩=some (.slice A1_0 l1_0.length c1_0)∧w'.cell? ⟨gb21,1,none⟩=some (.slice A1_1 l1_1.length c1_1)∧w'.cell? ⟨gb22,0,none⟩=some (.int .i64 a0_0)∧w'.cell? ⟨gb22,1,none⟩=some (.int .i64 a0_1))∧(w'.heap[gb22]?=some (.cells #[.int .i64 a0_0,.int .i64 a0_1] 108 (0,0)))∧(w'.heap[gb21]?=some (.cells #[.slice A1_0 l1_0.length c1_0,.slice A1_1 l1_1.length c1_1] 63 (0,0)))∧(w'.heap[s_]?=some (.cells #[.int .i64 0] 3 (0,0)))∧(w.heap.size≤s_)∧(w.heap.size≤s_)∧(gb22≠s_)∧(s_≠gb22)∧(gb21≠s_)∧(s_≠gb21)∧(Below w.heap.size w w')) ?_ ?_;rotate_left
      ·intro hJ3_8;refine join_ (σ:=Nat) 4 (bz 12 639) (fun s_=>[(10,.int .i64 t25),(6,.pointer (some ⟨s_,0,none⟩))]) (fun s_ w'=>(w'.cell? ⟨gb21,0,none⟩=some (.slice A1_0 l1_0.length c1_0)∧w'.cell? ⟨gb21,1,none⟩=some (.slice A1_1 l1_1.length c1_1)∧w'.cell? ⟨gb22,0,none⟩=some (.int .i64 a0_0)∧w'.cell? ⟨gb22,1,none⟩=some (.int .i64 a0_1))∧(w'.heap[gb22]?=some (.cells #[.int .i64 a0_0,.int .i64 a0_1] 108 (0,0)))∧(w'.heap[gb21]?=some (.cells #[.slice A1_0 l1_0.length c1_0,.slice A1_1 l1_1.length c1_1] 63 (0,0)))∧(w'.heap[s_]?=some (.cells #[.int .i64 0] 3 (0,0)))∧(w.heap.size≤s_)∧(w.heap.size≤s_)∧(gb22≠s_)∧(s_≠gb22)∧(gb21≠s_)∧(s_≠gb21)∧(Below w.heap.size w w')) ?_ ?_;rotate_left
       ·intro hJ3_9;refine join_ (σ:=Nat×Nat) 4 (bz 12 887) (fun s_=>[(5,.pointer (some ⟨s_.1,0,none⟩)),(6,.pointer (some ⟨s_.2,0,none⟩))]) (fun s_ w'=>(w'.cell? ⟨gb21,0,none⟩=some (.slice A1_0 l1_0.length c1_0)∧w'.cell? ⟨gb21,1,none⟩=some (.slice A1_1 l1_1.length c1_1)∧w'.cell? ⟨gb22,0,none⟩=some (.int .i64 a0_0)∧w'.cell? ⟨gb22,1,none⟩=some (.int .i64 a0_1))∧(w'.heap[gb22]?=some (.cells #[.int .i64 a0_0,.int .i64 a0_1] 108 (0,0)))∧(w'.heap[gb21]?=some (.cells #[.slice A1_0 l1_0.length c1_0,.slice A1_1 l1_1.length c1_1] 63 (0,0)))∧(w'.heap[s_.1]?=some (.cells #[.int .i64 0] 3 (0,0)))∧(w'.heap[s_.2]?=some (.cells #[.int .i64 0] 3 (0,0)))∧(w.heap.size≤s_.1)∧(w.heap.size≤s_.1)∧(gb22≠s_.1)∧(s_.1≠gb22)∧(gb21≠s_.1)∧(s_.1≠gb21)∧(s_.2≠s_.1)∧(s_.1≠s_.2)∧(w.heap.size≤s_.2)∧(w.heap.size≤s_.2)∧(gb22≠s_.2)∧(s_.2≠gb22)∧(gb21≠s_.2)∧(s_.2≠gb21)∧(Below w.heap.size w w')) ?_ ?_;rotate_left
        ·intro hJ8_9;refine join_ (σ:=Unit) 5 (bz 12 127) (fun s_=>[(10,.int .i64 t25)]) (fun s_ w'=>(w'.cell? ⟨gb21,0,none⟩=some (.slice A1_0 l1_0.length c1_0)∧w'.cell? ⟨gb21,1,none⟩=some (.slice A1_1 l1_1.length c1_1)∧w'.cell? ⟨gb22,0,none⟩=some (.int .i64 a0_0)∧w'.cell? ⟨gb22,1,none⟩=some (.int .i64 a0_1))∧(w'.heap[gb22]?=some (.cells #[.int .i64 a0_0,.int .i64 a0_1] 108 (0,0)))∧(w'.heap[gb21]?=some (.cells #[.slice A1_0 l1_0.length c1_0,.slice A1_1 l1_1.length c1_1] 63 (0,0)))∧(Below w.heap.size w w')) ?_ ?_;rotate_left
         ·intro hJ3;refine join_ (σ:=Nat) 5 (bz 12 375) (fun s_=>[(5,.pointer (some ⟨s_,0,none⟩))]) (fun s_ w'=>(w'.cell? ⟨gb21,0,none⟩=some (.slice A1_0 l1_0.length c1_0)∧w'.cell? ⟨gb21,1,none⟩=some (.slice A1_1 l1_1.length c1_1)∧w'.cell? ⟨gb22,0,none⟩=some (.int .i64 a0_0)∧w'.cell? ⟨gb22,1,none⟩=some (.int .i64 a0_1))∧(w'.heap[gb22]?=some (.cells #[.int .i64 a0_0,.int .i64 a0_1] 108 (0,0)))∧(w'.heap[gb21]?=some (.cells #[.slice A1_0 l1_0.length c1_0,.slice A1_1 l1_1.length c1_1] 63 (0,0)))∧(w'.heap[s_]?=some (.cells #[.int .i64 0] 3 (0,0)))∧(w.heap.size≤s_)∧(w.heap.size≤s_)∧(gb22≠s_)∧(s_≠gb22)∧(gb21≠s_)∧(s_≠gb21)∧(Below w.heap.size w w')) ?_ ?_;rotate_left
          ·intro hJ8;refine join_ (σ:=Nat) 5 (bz 12 631) (fun s_=>[(6,.pointer (some ⟨s_,0,none⟩))]) (fun s_ w'=>(w'.cell? ⟨gb21,0,none⟩=some (.slice A1_0 l1_0.length c1_0)∧w'.cell? ⟨gb21,1,none⟩=some (.slice A1_1 l1_1.length c1_1)∧w'.cell? ⟨gb22,0,none⟩=some (.int .i64 a0_0)∧w'.cell? ⟨gb22,1,none⟩=some (.int .i64 a0_1))∧(w'.heap[gb22]?=some (.cells #[.int .i64 a0_0,.int .i64 a0_1] 108 (0,0)))∧(w'.heap[gb21]?=some (.cells #[.slice A1_0 l1_0.length c1_0,.slice A1_1 l1_1.length c1_1] 63 (0,0)))∧(w'.heap[s_]?=some (.cells #[.int .i64 0] 3 (0,0)))∧(w.heap.size≤s_)∧(w.heap.size≤s_)∧(gb22≠s_)∧(s_≠gb22)∧(gb21≠s_)∧(s_≠gb21)∧(Below w.heap.size w w')) ?_ ?_;rotate_left
           ·intro hJ9;refine three_ (i:=3) (j:=8) (k:=9) (Ni:=some 10) (Nj:=some 5) (Nk:=some 6) (bz 12 127) (bz 12 375) (bz 12 631) rfl rfl rfl rfl rfl rfl (three_of HT_.out zK) (by decide) (by decide) (by decide) (fun K hK=>?_) (fun K hK=>?_) (fun K hK=>?_)
            ·skip;refine goes_ Tryz.func107 zK rfl #[.agg #[.slice A1_0 l1_0.length c1_0,.slice A1_1 l1_1.length c1_1],.int .i64 a0_0] (by rfl) rfl rfl zM ?_
             with_reducible refine (solve_row.calls k _ _ l1_0 _ _ l1_1 a0_0 t25 _ ?side1 ?side2 ?side3 ?side4 A3.out).mono ?_
             (case side1=>exact zC (Kd.C_below HR1_0.out HB.out));(case side2=>exact HC1_0.out);(case side3=>exact zC (Kd.C_below HR1_1.out HB.out));(case side4=>exact HC1_1.out);rintro e w9 ⟨rfl,hb⟩;refine ⟨_,rfl,?_⟩;replace BK22:=zw BK22 hb;replace BK21:=zw BK21 hb;replace HB:=zu hb;(try clear hb);(try clear hb2);(try clear hk);(try clear hi);refine hK.out _ _ ⟨zc0 BK21,zc1 BK21,zc0 BK22,zc1 BK22⟩ (fun hHeld=>?_);clear hK K;refine norm_ (a':=?_) ?_ ?_;rotate_left
             ·show Act.put _ (some 10) _=_
              simp only [Act.put,zi,zs,zt,i64_w,i32_w];rfl
             exact norm_ (by first|(simp only [putAll,Act.put,zi,zs,zt];done)|(simp only [putAll,Act.put,zi,zs,zt];rfl)) (hJ3 () _ ⟨hHeld,(zk BK22),(zk BK21),zB⟩)
            ·skip;refine box_step ?hg (N:=5) ?hd (cs:=#[.int .i64 0]) (t:=3) ?hr ?_;(case hd=>rfl);(case hg=>rfl);(case hr=>first|(go_simp;done)|(go_simp;rfl));intro gb23 hg w9 hbox hb;have BK23:=zA (hbox);have GW23:=zA ((zG hg (below_size zB):w.heap.size≤gb23));have GE23:=zA ((zG hg (below_size zB):w.heap.size≤gb23));have NB22_23:=zA ((zl hg (zk BK22):gb22≠gb23));have NB23_22:=zA ((zg hg (zk BK22):gb23≠gb22));have NB21_23:=zA ((zl hg (zk BK21):gb21≠gb23));have NB23_21:=zA ((zg hg (zk BK21):gb23≠gb21));replace BK22:=zw BK22 hb;replace BK21:=zw BK21 hb;replace HB:=zu hb;clear hb hbox hg;refine hK.out _ _ ⟨zc0 BK21,zc1 BK21,zc0 BK22,zc1 BK22⟩ (fun hHeld=>?_);clear hK K;refine norm_ (a':=?_) ?_ ?_;rotate_left
             ·show Act.put _ (some 5) _=_
              simp only [Act.put,zi,zs,zt,i64_w,i32_w];rfl
             exact norm_ (by first|(simp only [putAll,Act.put,zi,zs,zt];done)|(simp only [putAll,Act.put,zi,zs,zt];rfl)) (hJ8 (gb23) _ ⟨hHeld,(zk BK22),(zk BK21),(zk BK23),GW23.out,GE23.out,NB22_23.out,NB23_22.out,NB21_23.out,NB23_21.out,zB⟩)
            ·skip;refine box_step ?hg (N:=6) ?hd (cs:=#[.int .i64 0]) (t:=3) ?hr ?_;(case hd=>rfl);(case hg=>rfl);(case hr=>first|(go_simp;done)|(go_simp;rfl));intro gb24 hg w9 hbox hb;have BK24:=zA (hbox);have GW24:=zA ((zG hg (below_size zB):w.heap.size≤gb24));have GE24:=zA ((zG hg (below_size zB):w.heap.size≤gb24));have NB22_24:=zA ((zl hg (zk BK22):gb22≠gb24));have NB24_22:=zA ((zg hg (zk BK22):gb24≠gb22));have NB21_24:=zA ((zl hg (zk BK21):gb21≠gb24));have NB24_21:=zA ((zg hg (zk BK21):gb24≠gb21));replace BK22:=zw BK22 hb;replace BK21:=zw BK21 hb;replace HB:=zu hb;clear hb hbox hg;refine hK.out _ _ ⟨zc0 BK21,zc1 BK21,zc0 BK22,zc1 BK22⟩ (fun hHeld=>?_);clear hK K;refine norm_ (a':=?_) ?_ ?_;rotate_left
             ·show Act.put _ (some 6) _=_
              simp only [Act.put,zi,zs,zt,i64_w,i32_w];rfl
             exact norm_ (by first|(simp only [putAll,Act.put,zi,zs,zt];done)|(simp only [putAll,Act.put,zi,zs,zt];rfl)) (hJ9 (gb24) _ ⟨hHeld,(zk BK22),(zk BK21),(zk BK24),GW24.out,GE24.out,NB22_24.out,NB24_22.out,NB21_24.out,NB24_21.out,zB⟩)
           ·skip;rintro gb24 w10 ⟨hS_,h0_,h1_,h2_,h3_,h4_,h5_,h6_,h7_,h8_,h9_⟩
            have BK24:Aside0 (w10.heap[gb24]?=some (.cells #[.int .i64 0] 3 (0,0))):=⟨h2_⟩
            have GW24:Aside0 (w.heap.size≤gb24):=⟨h3_⟩
            have GE24:Aside0 (w.heap.size≤gb24):=⟨h4_⟩
            have NB22_24:Aside0 (gb22≠gb24):=⟨h5_⟩
            have NB24_22:Aside0 (gb24≠gb22):=⟨h6_⟩
            have NB21_24:Aside0 (gb21≠gb24):=⟨h7_⟩
            have NB24_21:Aside0 (gb24≠gb21):=⟨h8_⟩
            replace BK22:Aside0 (w10.heap[gb22]?=some (.cells #[.int .i64 a0_0,.int .i64 a0_1] 108 (0,0))):=⟨h0_⟩
            replace BK21:Aside0 (w10.heap[gb21]?=some (.cells #[.slice A1_0 l1_0.length c1_0,.slice A1_1 l1_1.length c1_1] 63 (0,0))):=⟨h1_⟩
            replace HB:Aside0 (Below w.heap.size w w10):=⟨h9_⟩
            clear h0_ h1_ h2_ h3_ h4_ h5_ h6_ h7_ h8_ h9_;have hHeld:w10.cell? ⟨gb21,0,none⟩=some (.slice A1_0 l1_0.length c1_0)∧w10.cell? ⟨gb21,1,none⟩=some (.slice A1_1 l1_1.length c1_1)∧w10.cell? ⟨gb22,0,none⟩=some (.int .i64 a0_0)∧w10.cell? ⟨gb22,1,none⟩=some (.int .i64 a0_1):=hS_;refine norm_ (a':=?_) ?_ ?_;rotate_left
            ·simp only [putAll,Act.put,zi,zs,zt];rfl
            refine two_ (i:=3) (j:=8) (Ni:=some 10) (Nj:=some 5) (bz 12 639) (bz 12 887) rfl rfl rfl rfl (two_of HT_.out zK) (by decide) (by decide) (fun K hK=>?_) (fun K hK=>?_)
            ·skip;refine goes_ Tryz.func107 zK rfl #[.agg #[.slice A1_0 l1_0.length c1_0,.slice A1_1 l1_1.length c1_1],.int .i64 a0_0] (by rfl) rfl rfl zM ?_
             with_reducible refine (solve_row.calls k _ _ l1_0 _ _ l1_1 a0_0 t25 _ ?side1 ?side2 ?side3 ?side4 A3.out).mono ?_
             (case side1=>exact zC (Kd.C_below HR1_0.out HB.out));(case side2=>exact HC1_0.out);(case side3=>exact zC (Kd.C_below HR1_1.out HB.out));(case side4=>exact HC1_1.out);rintro e w11 ⟨rfl,hb⟩;refine ⟨_,rfl,?_⟩;replace BK22:=zw BK22 hb;replace BK21:=zw BK21 hb;replace BK24:=zw BK24 hb;replace HB:=zu hb;(try clear hb);(try clear hb2);(try clear hk);(try clear hi);refine hK.out _ _ ⟨zc0 BK21,zc1 BK21,zc0 BK22,zc1 BK22⟩ (fun hHeld=>?_);clear hK K;refine norm_ (a':=?_) ?_ ?_;rotate_left
             ·show Act.put _ (some 10) _=_
              simp only [Act.put,zi,zs,zt,i64_w,i32_w];rfl
             exact norm_ (by first|(simp only [putAll,Act.put,zi,zs,zt];done)|(simp only [putAll,Act.put,zi,zs,zt];rfl)) (hJ3_9 (gb24) _ ⟨hHeld,(zk BK22),(zk BK21),(zk BK24),GW24.out,GE24.out,NB22_24.out,NB24_22.out,NB21_24.out,NB24_21.out,zB⟩)
            ·skip;refine box_step ?hg (N:=5) ?hd (cs:=#[.int .i64 0]) (t:=3) ?hr ?_;(case hd=>rfl);(case hg=>rfl);(case hr=>first|(go_simp;done)|(go_simp;rfl));intro gb23 hg w11 hbox hb;have BK23:=zA (hbox);have GW23:=zA ((zG hg (below_size zB):w.heap.size≤gb23));have GE23:=zA ((zG hg (below_size zB):w.heap.size≤gb23));have NB22_23:=zA ((zl hg (zk BK22):gb22≠gb23));have NB23_22:=zA ((zg hg (zk BK22):gb23≠gb22));have NB21_23:=zA ((zl hg (zk BK21):gb21≠gb23));have NB23_21:=zA ((zg hg (zk BK21):gb23≠gb21));have NB24_23:=zA ((zl hg (zk BK24):gb24≠gb23));have NB23_24:=zA ((zg hg (zk BK24):gb23≠gb24));replace BK22:=zw BK22 hb;replace BK21:=zw BK21 hb;replace BK24:=zw BK24 hb;replace HB:=zu hb;clear hb hbox hg;refine hK.out _ _ ⟨zc0 BK21,zc1 BK21,zc0 BK22,zc1 BK22⟩ (fun hHeld=>?_);clear hK K;refine norm_ (a':=?_) ?_ ?_;rotate_left
             ·show Act.put _ (some 5) _=_
              simp only [Act.put,zi,zs,zt,i64_w,i32_w];rfl
             exact norm_ (by first|(simp only [putAll,Act.put,zi,zs,zt];done)|(simp only [putAll,Act.put,zi,zs,zt];rfl)) (hJ8_9 (gb23,gb24) _ ⟨hHeld,(zk BK22),(zk BK21),(zk BK23),(zk BK24),GW23.out,GE23.out,NB22_23.out,NB23_22.out,NB21_23.out,NB23_21.out,NB24_23.out,NB23_24.out,GW24.out,GE24.out,NB22_24.out,NB24_22.out,NB21_24.out,NB24_21.out,zB⟩)
          ·skip;rintro gb23 w10 ⟨hS_,h0_,h1_,h2_,h3_,h4_,h5_,h6_,h7_,h8_,h9_⟩
           have BK23:Aside0 (w10.heap[gb23]?=some (.cells #[.int .i64 0] 3 (0,0))):=⟨h2_⟩
           have GW23:Aside0 (w.heap.size≤gb23):=⟨h3_⟩
           have GE23:Aside0 (w.heap.size≤gb23):=⟨h4_⟩
           have NB22_23:Aside0 (gb22≠gb23):=⟨h5_⟩
           have NB23_22:Aside0 (gb23≠gb22):=⟨h6_⟩
           have NB21_23:Aside0 (gb21≠gb23):=⟨h7_⟩
           have NB23_21:Aside0 (gb23≠gb21):=⟨h8_⟩
           replace BK22:Aside0 (w10.heap[gb22]?=some (.cells #[.int .i64 a0_0,.int .i64 a0_1] 108 (0,0))):=⟨h0_⟩
           replace BK21:Aside0 (w10.heap[gb21]?=some (.cells #[.slice A1_0 l1_0.length c1_0,.slice A1_1 l1_1.length c1_1] 63 (0,0))):=⟨h1_⟩
           replace HB:Aside0 (Below w.heap.size w w10):=⟨h9_⟩
           clear h0_ h1_ h2_ h3_ h4_ h5_ h6_ h7_ h8_ h9_;have hHeld:w10.cell? ⟨gb21,0,none⟩=some (.slice A1_0 l1_0.length c1_0)∧w10.cell? ⟨gb21,1,none⟩=some (.slice A1_1 l1_1.length c1_1)∧w10.cell? ⟨gb22,0,none⟩=some (.int .i64 a0_0)∧w10.cell? ⟨gb22,1,none⟩=some (.int .i64 a0_1):=hS_;refine norm_ (a':=?_) ?_ ?_;rotate_left
           ·simp only [putAll,Act.put,zi,zs,zt];rfl
           refine two_ (i:=3) (j:=9) (Ni:=some 10) (Nj:=some 6) (bz 12 383) (bz 12 887) rfl rfl rfl rfl (two_of HT_.out zK) (by decide) (by decide) (fun K hK=>?_) (fun K hK=>?_)
           ·skip;refine goes_ Tryz.func107 zK rfl #[.agg #[.slice A1_0 l1_0.length c1_0,.slice A1_1 l1_1.length c1_1],.int .i64 a0_0] (by rfl) rfl rfl zM ?_
            with_reducible refine (solve_row.calls k _ _ l1_0 _ _ l1_1 a0_0 t25 _ ?side1 ?side2 ?side3 ?side4 A3.out).mono ?_
            (case side1=>exact zC (Kd.C_below HR1_0.out HB.out));(case side2=>exact HC1_0.out);(case side3=>exact zC (Kd.C_below HR1_1.out HB.out));(case side4=>exact HC1_1.out);rintro e w11 ⟨rfl,hb⟩;refine ⟨_,rfl,?_⟩;replace BK22:=zw BK22 hb;replace BK21:=zw BK21 hb;replace BK23:=zw BK23 hb;replace HB:=zu hb;(try clear hb);(try clear hb2);(try clear hk);(try clear hi);refine hK.out _ _ ⟨zc0 BK21,zc1 BK21,zc0 BK22,zc1 BK22⟩ (fun hHeld=>?_);clear hK K;refine norm_ (a':=?_) ?_ ?_;rotate_left
            ·show Act.put _ (some 10) _=_
             simp only [Act.put,zi,zs,zt,i64_w,i32_w];rfl
            exact norm_ (by first|(simp only [putAll,Act.put,zi,zs,zt];done)|(simp only [putAll,Act.put,zi,zs,zt];rfl)) (hJ3_8 (gb23) _ ⟨hHeld,(zk BK22),(zk BK21),(zk BK23),GW23.out,GE23.out,NB22_23.out,NB23_22.out,NB21_23.out,NB23_21.out,zB⟩)
           ·skip;refine box_step ?hg (N:=6) ?hd (cs:=#[.int .i64 0]) (t:=3) ?hr ?_;(case hd=>rfl);(case hg=>rfl);(case hr=>first|(go_simp;done)|(go_simp;rfl));intro gb24 hg w11 hbox hb;have BK24:=zA (hbox);have GW24:=zA ((zG hg (below_size zB):w.heap.size≤gb24));have GE24:=zA ((zG hg (below_size zB):w.heap.size≤gb24));have NB22_24:=zA ((zl hg (zk BK22):gb22≠gb24));have NB24_22:=zA ((zg hg (zk BK22):gb24≠gb22));have NB21_24:=zA ((zl hg (zk BK21):gb21≠gb24));have NB24_21:=zA ((zg hg (zk BK21):gb24≠gb21));have NB23_24:=zA ((zl hg (zk BK23):gb23≠gb24));have NB24_23:=zA ((zg hg (zk BK23):gb24≠gb23));replace BK22:=zw BK22 hb;replace BK21:=zw BK21 hb;replace BK23:=zw BK23 hb;replace HB:=zu hb;clear hb hbox hg;refine hK.out _ _ ⟨zc0 BK21,zc1 BK21,zc0 BK22,zc1 BK22⟩ (fun hHeld=>?_);clear hK K;refine norm_ (a':=?_) ?_ ?_;rotate_left
            ·show Act.put _ (some 6) _=_
             simp only [Act.put,zi,zs,zt,i64_w,i32_w];rfl
            exact norm_ (by first|(simp only [putAll,Act.put,zi,zs,zt];done)|(simp only [putAll,Act.put,zi,zs,zt];rfl)) (hJ8_9 (gb23,gb24) _ ⟨hHeld,(zk BK22),(zk BK21),(zk BK23),(zk BK24),GW23.out,GE23.out,NB22_23.out,NB23_22.out,NB21_23.out,NB23_21.out,NB24_23.out,NB23_24.out,GW24.out,GE24.out,NB22_24.out,NB24_22.out,NB21_24.out,NB24_21.out,zB⟩)
         ·skip;rintro _ w10 ⟨hS_,h0_,h1_,h2_⟩
          replace BK22:Aside0 (w10.heap[gb22]?=some (.cells #[.int .i64 a0_0,.int .i64 a0_1] 108 (0,0))):=⟨h0_⟩
          replace BK21:Aside0 (w10.heap[gb21]?=some (.cells #[.slice A1_0 l1_0.length c1_0,.slice A1_1 l1_1.length c1_1] 63 (0,0))):=⟨h1_⟩
          replace HB:Aside0 (Below w.heap.size w w10):=⟨h2_⟩
          clear h0_ h1_ h2_;have hHeld:w10.cell? ⟨gb21,0,none⟩=some (.slice A1_0 l1_0.length c1_0)∧w10.cell? ⟨gb21,1,none⟩=some (.slice A1_1 l1_1.length c1_1)∧w10.cell? ⟨gb22,0,none⟩=some (.int .i64 a0_0)∧w10.cell? ⟨gb22,1,none⟩=some (.int .i64 a0_1):=hS_;refine norm_ (a':=?_) ?_ ?_;rotate_left
          ·simp only [putAll,Act.put,zi,zs,zt];rfl
          refine three_ (i:=7) (j:=8) (k:=9) (Ni:=some 14) (Nj:=some 5) (Nk:=some 6) (bz 12 255) (bz 12 383) (bz 12 639) rfl rfl rfl rfl rfl rfl (three_of HT_.out zK) (by decide) (by decide) (by decide) (fun K hK=>?_) (fun K hK=>?_) (fun K hK=>?_)
          ·skip;refine goes_ Tryz.func107 zK rfl #[.agg #[.slice A1_0 l1_0.length c1_0,.slice A1_1 l1_1.length c1_1],.int .i64 a0_1] (by rfl) rfl rfl zM ?_
           with_reducible refine (solve_row.calls k _ _ l1_0 _ _ l1_1 a0_1 t26 _ ?side1 ?side2 ?side3 ?side4 A4.out).mono ?_
           (case side1=>exact zC (Kd.C_below HR1_0.out HB.out));(case side2=>exact HC1_0.out);(case side3=>exact zC (Kd.C_below HR1_1.out HB.out));(case side4=>exact HC1_1.out);rintro e w11 ⟨rfl,hb⟩;refine ⟨_,rfl,?_⟩;replace BK22:=zw BK22 hb;replace BK21:=zw BK21 hb;replace HB:=zu hb;(try clear hb);(try clear hb2);(try clear hk);(try clear hi);refine hK.out _ _ ⟨zc0 BK21,zc1 BK21,zc0 BK22,zc1 BK22⟩ (fun hHeld=>?_);clear hK K;refine norm_ (a':=?_) ?_ ?_;rotate_left
           ·show Act.put _ (some 14) _=_
            simp only [Act.put,zi,zs,zt,i64_w,i32_w];rfl
           exact norm_ (by first|(simp only [putAll,Act.put,zi,zs,zt];done)|(simp only [putAll,Act.put,zi,zs,zt];rfl)) (hJ3_7 () _ ⟨hHeld,(zk BK22),(zk BK21),zB⟩)
          ·skip;refine box_step ?hg (N:=5) ?hd (cs:=#[.int .i64 0]) (t:=3) ?hr ?_;(case hd=>rfl);(case hg=>rfl);(case hr=>first|(go_simp;done)|(go_simp;rfl));intro gb23 hg w11 hbox hb;have BK23:=zA (hbox);have GW23:=zA ((zG hg (below_size zB):w.heap.size≤gb23));have GE23:=zA ((zG hg (below_size zB):w.heap.size≤gb23));have NB22_23:=zA ((zl hg (zk BK22):gb22≠gb23));have NB23_22:=zA ((zg hg (zk BK22):gb23≠gb22));have NB21_23:=zA ((zl hg (zk BK21):gb21≠gb23));have NB23_21:=zA ((zg hg (zk BK21):gb23≠gb21));replace BK22:=zw BK22 hb;replace BK21:=zw BK21 hb;replace HB:=zu hb;clear hb hbox hg;refine hK.out _ _ ⟨zc0 BK21,zc1 BK21,zc0 BK22,zc1 BK22⟩ (fun hHeld=>?_);clear hK K;refine norm_ (a':=?_) ?_ ?_;rotate_left
           ·show Act.put _ (some 5) _=_
            simp only [Act.put,zi,zs,zt,i64_w,i32_w];rfl
           exact norm_ (by first|(simp only [putAll,Act.put,zi,zs,zt];done)|(simp only [putAll,Act.put,zi,zs,zt];rfl)) (hJ3_8 (gb23) _ ⟨hHeld,(zk BK22),(zk BK21),(zk BK23),GW23.out,GE23.out,NB22_23.out,NB23_22.out,NB21_23.out,NB23_21.out,zB⟩)
          ·skip;refine box_step ?hg (N:=6) ?hd (cs:=#[.int .i64 0]) (t:=3) ?hr ?_;(case hd=>rfl);(case hg=>rfl);(case hr=>first|(go_simp;done)|(go_simp;rfl));intro gb24 hg w11 hbox hb;have BK24:=zA (hbox);have GW24:=zA ((zG hg (below_size zB):w.heap.size≤gb24));have GE24:=zA ((zG hg (below_size zB):w.heap.size≤gb24));have NB22_24:=zA ((zl hg (zk BK22):gb22≠gb24));have NB24_22:=zA ((zg hg (zk BK22):gb24≠gb22));have NB21_24:=zA ((zl hg (zk BK21):gb21≠gb24));have NB24_21:=zA ((zg hg (zk BK21):gb24≠gb21));replace BK22:=zw BK22 hb;replace BK21:=zw BK21 hb;replace HB:=zu hb;clear hb hbox hg;refine hK.out _ _ ⟨zc0 BK21,zc1 BK21,zc0 BK22,zc1 BK22⟩ (fun hHeld=>?_);clear hK K;refine norm_ (a':=?_) ?_ ?_;rotate_left
           ·show Act.put _ (some 6) _=_
            simp only [Act.put,zi,zs,zt,i64_w,i32_w];rfl
           exact norm_ (by first|(simp only [putAll,Act.put,zi,zs,zt];done)|(simp only [putAll,Act.put,zi,zs,zt];rfl)) (hJ3_9 (gb24) _ ⟨hHeld,(zk BK22),(zk BK21),(zk BK24),GW24.out,GE24.out,NB22_24.out,NB24_22.out,NB21_24.out,NB24_21.out,zB⟩)
        ·skip;rintro ⟨gb23,gb24⟩ w11 ⟨hS_,h0_,h1_,h2_,h3_,h4_,h5_,h6_,h7_,h8_,h9_,h10_,h11_,h12_,h13_,h14_,h15_,h16_,h17_,h18_⟩
         have BK23:Aside0 (w11.heap[gb23]?=some (.cells #[.int .i64 0] 3 (0,0))):=⟨h2_⟩
         have BK24:Aside0 (w11.heap[gb24]?=some (.cells #[.int .i64 0] 3 (0,0))):=⟨h3_⟩
         have GW23:Aside0 (w.heap.size≤gb23):=⟨h4_⟩
         have GE23:Aside0 (w.heap.size≤gb23):=⟨h5_⟩
         have NB22_23:Aside0 (gb22≠gb23):=⟨h6_⟩
         have NB23_22:Aside0 (gb23≠gb22):=⟨h7_⟩
         have NB21_23:Aside0 (gb21≠gb23):=⟨h8_⟩
         have NB23_21:Aside0 (gb23≠gb21):=⟨h9_⟩
         have NB24_23:Aside0 (gb24≠gb23):=⟨h10_⟩
         have NB23_24:Aside0 (gb23≠gb24):=⟨h11_⟩
         have GW24:Aside0 (w.heap.size≤gb24):=⟨h12_⟩
         have GE24:Aside0 (w.heap.size≤gb24):=⟨h13_⟩
         have NB22_24:Aside0 (gb22≠gb24):=⟨h14_⟩
         have NB24_22:Aside0 (gb24≠gb22):=⟨h15_⟩
         have NB21_24:Aside0 (gb21≠gb24):=⟨h16_⟩
         have NB24_21:Aside0 (gb24≠gb21):=⟨h17_⟩
         replace BK22:Aside0 (w11.heap[gb22]?=some (.cells #[.int .i64 a0_0,.int .i64 a0_1] 108 (0,0))):=⟨h0_⟩
         replace BK21:Aside0 (w11.heap[gb21]?=some (.cells #[.slice A1_0 l1_0.length c1_0,.slice A1_1 l1_1.length c1_1] 63 (0,0))):=⟨h1_⟩
         replace HB:Aside0 (Below w.heap.size w w11):=⟨h18_⟩
         clear h0_ h1_ h2_ h3_ h4_ h5_ h6_ h7_ h8_ h9_ h10_ h11_ h12_ h13_ h14_ h15_ h16_ h17_ h18_;have hHeld:w11.cell? ⟨gb21,0,none⟩=some (.slice A1_0 l1_0.length c1_0)∧w11.cell? ⟨gb21,1,none⟩=some (.slice A1_1 l1_1.length c1_1)∧w11.cell? ⟨gb22,0,none⟩=some (.int .i64 a0_0)∧w11.cell? ⟨gb22,1,none⟩=some (.int .i64 a0_1):=hS_;refine norm_ (a':=?_) ?_ ?_;rotate_left
         ·simp only [putAll,Act.put,zi,zs,zt];rfl
         refine one_ (i:=3) (N:=some 10) (bz 12 895) rfl rfl (one_of HT_.out zK) (by decide) (fun K hK=>?_);refine goes_ Tryz.func107 zK rfl #[.agg #[.slice A1_0 l1_0.length c1_0,.slice A1_1 l1_1.length c1_1],.int .i64 a0_0] (by rfl) rfl rfl zM ?_
         with_reducible refine (solve_row.calls k _ _ l1_0 _ _ l1_1 a0_0 t25 _ ?side1 ?side2 ?side3 ?side4 A3.out).mono ?_
         (case side1=>exact zC (Kd.C_below HR1_0.out HB.out));(case side2=>exact HC1_0.out);(case side3=>exact zC (Kd.C_below HR1_1.out HB.out));(case side4=>exact HC1_1.out);rintro e w12 ⟨rfl,hb⟩;refine ⟨_,rfl,?_⟩;replace BK22:=zw BK22 hb;replace BK21:=zw BK21 hb;replace BK23:=zw BK23 hb;replace BK24:=zw BK24 hb;replace HB:=zu hb;(try clear hb);(try clear hb2);(try clear hk);(try clear hi);refine hK.out _ _ ⟨zc0 BK21,zc1 BK21,zc0 BK22,zc1 BK22⟩ (fun hHeld=>?_);clear hK K;refine norm_ (a':=?_) ?_ ?_;rotate_left
         ·show Act.put _ (some 10) _=_
          simp only [Act.put,zi,zs,zt,i64_w,i32_w];rfl
         exact norm_ (by first|(simp only [putAll,Act.put,zi,zs,zt];done)|(simp only [putAll,Act.put,zi,zs,zt];rfl)) (hJ3_8_9 (gb23,gb24) _ ⟨hHeld,(zk BK22),(zk BK21),(zk BK23),(zk BK24),GW23.out,GE23.out,NB22_23.out,NB23_22.out,NB21_23.out,NB23_21.out,NB24_23.out,NB23_24.out,GW24.out,GE24.out,NB22_24.out,NB24_22.out,NB21_24.out,NB24_21.out,zB⟩)
       ·skip;rintro gb24 w11 ⟨hS_,h0_,h1_,h2_,h3_,h4_,h5_,h6_,h7_,h8_,h9_⟩
        have BK24:Aside0 (w11.heap[gb24]?=some (.cells #[.int .i64 0] 3 (0,0))):=⟨h2_⟩
        have GW24:Aside0 (w.heap.size≤gb24):=⟨h3_⟩
        have GE24:Aside0 (w.heap.size≤gb24):=⟨h4_⟩
        have NB22_24:Aside0 (gb22≠gb24):=⟨h5_⟩
        have NB24_22:Aside0 (gb24≠gb22):=⟨h6_⟩
        have NB21_24:Aside0 (gb21≠gb24):=⟨h7_⟩
        have NB24_21:Aside0 (gb24≠gb21):=⟨h8_⟩
        replace BK22:Aside0 (w11.heap[gb22]?=some (.cells #[.int .i64 a0_0,.int .i64 a0_1] 108 (0,0))):=⟨h0_⟩
        replace BK21:Aside0 (w11.heap[gb21]?=some (.cells #[.slice A1_0 l1_0.length c1_0,.slice A1_1 l1_1.length c1_1] 63 (0,0))):=⟨h1_⟩
        replace HB:Aside0 (Below w.heap.size w w11):=⟨h9_⟩
        clear h0_ h1_ h2_ h3_ h4_ h5_ h6_ h7_ h8_ h9_;have hHeld:w11.cell? ⟨gb21,0,none⟩=some (.slice A1_0 l1_0.length c1_0)∧w11.cell? ⟨gb21,1,none⟩=some (.slice A1_1 l1_1.length c1_1)∧w11.cell? ⟨gb22,0,none⟩=some (.int .i64 a0_0)∧w11.cell? ⟨gb22,1,none⟩=some (.int .i64 a0_1):=hS_;refine norm_ (a':=?_) ?_ ?_;rotate_left
        ·simp only [putAll,Act.put,zi,zs,zt];rfl
        refine two_ (i:=7) (j:=8) (Ni:=some 14) (Nj:=some 5) (bz 12 767) (bz 12 895) rfl rfl rfl rfl (two_of HT_.out zK) (by decide) (by decide) (fun K hK=>?_) (fun K hK=>?_)
        ·skip;refine goes_ Tryz.func107 zK rfl #[.agg #[.slice A1_0 l1_0.length c1_0,.slice A1_1 l1_1.length c1_1],.int .i64 a0_1] (by rfl) rfl rfl zM ?_
         with_reducible refine (solve_row.calls k _ _ l1_0 _ _ l1_1 a0_1 t26 _ ?side1 ?side2 ?side3 ?side4 A4.out).mono ?_
         (case side1=>exact zC (Kd.C_below HR1_0.out HB.out));(case side2=>exact HC1_0.out);(case side3=>exact zC (Kd.C_below HR1_1.out HB.out));(case side4=>exact HC1_1.out);rintro e w12 ⟨rfl,hb⟩;refine ⟨_,rfl,?_⟩;replace BK22:=zw BK22 hb;replace BK21:=zw BK21 hb;replace BK24:=zw BK24 hb;replace HB:=zu hb;(try clear hb);(try clear hb2);(try clear hk);(try clear hi);refine hK.out _ _ ⟨zc0 BK21,zc1 BK21,zc0 BK22,zc1 BK22⟩ (fun hHeld=>?_);clear hK K;refine norm_ (a':=?_) ?_ ?_;rotate_left
         ·show Act.put _ (some 14) _=_
          simp only [Act.put,zi,zs,zt,i64_w,i32_w];rfl
         exact norm_ (by first|(simp only [putAll,Act.put,zi,zs,zt];done)|(simp only [putAll,Act.put,zi,zs,zt];rfl)) (hJ3_7_9 (gb24) _ ⟨hHeld,(zk BK22),(zk BK21),(zk BK24),GW24.out,GE24.out,NB22_24.out,NB24_22.out,NB21_24.out,NB24_21.out,zB⟩)
        ·skip;refine box_step ?hg (N:=5) ?hd (cs:=#[.int .i64 0]) (t:=3) ?hr ?_;(case hd=>rfl);(case hg=>rfl);(case hr=>first|(go_simp;done)|(go_simp;rfl));intro gb23 hg w12 hbox hb;have BK23:=zA (hbox);have GW23:=zA ((zG hg (below_size zB):w.heap.size≤gb23));have GE23:=zA ((zG hg (below_size zB):w.heap.size≤gb23));have NB22_23:=zA ((zl hg (zk BK22):gb22≠gb23));have NB23_22:=zA ((zg hg (zk BK22):gb23≠gb22));have NB21_23:=zA ((zl hg (zk BK21):gb21≠gb23));have NB23_21:=zA ((zg hg (zk BK21):gb23≠gb21));have NB24_23:=zA ((zl hg (zk BK24):gb24≠gb23));have NB23_24:=zA ((zg hg (zk BK24):gb23≠gb24));replace BK22:=zw BK22 hb;replace BK21:=zw BK21 hb;replace BK24:=zw BK24 hb;replace HB:=zu hb;clear hb hbox hg;refine hK.out _ _ ⟨zc0 BK21,zc1 BK21,zc0 BK22,zc1 BK22⟩ (fun hHeld=>?_);clear hK K;refine norm_ (a':=?_) ?_ ?_;rotate_left
         ·show Act.put _ (some 5) _=_
          simp only [Act.put,zi,zs,zt,i64_w,i32_w];rfl
         exact norm_ (by first|(simp only [putAll,Act.put,zi,zs,zt];done)|(simp only [putAll,Act.put,zi,zs,zt];rfl)) (hJ3_8_9 (gb23,gb24) _ ⟨hHeld,(zk BK22),(zk BK21),(zk BK23),(zk BK24),GW23.out,GE23.out,NB22_23.out,NB23_22.out,NB21_23.out,NB23_21.out,NB24_23.out,NB23_24.out,GW24.out,GE24.out,NB22_24.out,NB24_22.out,NB21_24.out,NB24_21.out,zB⟩)
      ·skip;rintro gb23 w11 ⟨hS_,h0_,h1_,h2_,h3_,h4_,h5_,h6_,h7_,h8_,h9_⟩
       have BK23:Aside0 (w11.heap[gb23]?=some (.cells #[.int .i64 0] 3 (0,0))):=⟨h2_⟩
       have GW23:Aside0 (w.heap.size≤gb23):=⟨h3_⟩
       have GE23:Aside0 (w.heap.size≤gb23):=⟨h4_⟩
       have NB22_23:Aside0 (gb22≠gb23):=⟨h5_⟩
       have NB23_22:Aside0 (gb23≠gb22):=⟨h6_⟩
       have NB21_23:Aside0 (gb21≠gb23):=⟨h7_⟩
       have NB23_21:Aside0 (gb23≠gb21):=⟨h8_⟩
       replace BK22:Aside0 (w11.heap[gb22]?=some (.cells #[.int .i64 a0_0,.int .i64 a0_1] 108 (0,0))):=⟨h0_⟩
       replace BK21:Aside0 (w11.heap[gb21]?=some (.cells #[.slice A1_0 l1_0.length c1_0,.slice A1_1 l1_1.length c1_1] 63 (0,0))):=⟨h1_⟩
       replace HB:Aside0 (Below w.heap.size w w11):=⟨h9_⟩
       clear h0_ h1_ h2_ h3_ h4_ h5_ h6_ h7_ h8_ h9_;have hHeld:w11.cell? ⟨gb21,0,none⟩=some (.slice A1_0 l1_0.length c1_0)∧w11.cell? ⟨gb21,1,none⟩=some (.slice A1_1 l1_1.length c1_1)∧w11.cell? ⟨gb22,0,none⟩=some (.int .i64 a0_0)∧w11.cell? ⟨gb22,1,none⟩=some (.int .i64 a0_1):=hS_;refine norm_ (a':=?_) ?_ ?_;rotate_left
       ·simp only [putAll,Act.put,zi,zs,zt];rfl
       refine two_ (i:=7) (j:=9) (Ni:=some 14) (Nj:=some 6) (bz 12 511) (bz 12 895) rfl rfl rfl rfl (two_of HT_.out zK) (by decide) (by decide) (fun K hK=>?_) (fun K hK=>?_)
       ·skip;refine goes_ Tryz.func107 zK rfl #[.agg #[.slice A1_0 l1_0.length c1_0,.slice A1_1 l1_1.length c1_1],.int .i64 a0_1] (by rfl) rfl rfl zM ?_
        with_reducible refine (solve_row.calls k _ _ l1_0 _ _ l1_1 a0_1 t26 _ ?side1 ?side2 ?side3 ?side4 A4.out).mono ?_
        (case side1=>exact zC (Kd.C_below HR1_0.out HB.out));(case side2=>exact HC1_0.out);(case side3=>exact zC (Kd.C_below HR1_1.out HB.out));(case side4=>exact HC1_1.out);rintro e w12 ⟨rfl,hb⟩;refine ⟨_,rfl,?_⟩;replace BK22:=zw BK22 hb;replace BK21:=zw BK21 hb;replace BK23:=zw BK23 hb;replace HB:=zu hb;(try clear hb);(try clear hb2);(try clear hk);(try clear hi);refine hK.out _ _ ⟨zc0 BK21,zc1 BK21,zc0 BK22,zc1 BK22⟩ (fun hHeld=>?_);clear hK K;refine norm_ (a':=?_) ?_ ?_;rotate_left
        ·show Act.put _ (some 14) _=_
         simp only [Act.put,zi,zs,zt,i64_w,i32_w];rfl
        exact norm_ (by first|(simp only [putAll,Act.put,zi,zs,zt];done)|(simp only [putAll,Act.put,zi,zs,zt];rfl)) (hJ3_7_8 (gb23) _ ⟨hHeld,(zk BK22),(zk BK21),(zk BK23),GW23.out,GE23.out,NB22_23.out,NB23_22.out,NB21_23.out,NB23_21.out,zB⟩)
       ·skip;refine box_step ?hg (N:=6) ?hd (cs:=#[.int .i64 0]) (t:=3) ?hr ?_;(case hd=>rfl);(case hg=>rfl);(case hr=>first|(go_simp;done)|(go_simp;rfl));intro gb24 hg w12 hbox hb;have BK24:=zA (hbox);have GW24:=zA ((zG hg (below_size zB):w.heap.size≤gb24));have GE24:=zA ((zG hg (below_size zB):w.heap.size≤gb24));have NB22_24:=zA ((zl hg (zk BK22):gb22≠gb24));have NB24_22:=zA ((zg hg (zk BK22):gb24≠gb22));have NB21_24:=zA ((zl hg (zk BK21):gb21≠gb24));have NB24_21:=zA ((zg hg (zk BK21):gb24≠gb21));have NB23_24:=zA ((zl hg (zk BK23):gb23≠gb24));have NB24_23:=zA ((zg hg (zk BK23):gb24≠gb23));replace BK22:=zw BK22 hb;replace BK21:=zw BK21 hb;replace BK23:=zw BK23 hb;replace HB:=zu hb;clear hb hbox hg;refine hK.out _ _ ⟨zc0 BK21,zc1 BK21,zc0 BK22,zc1 BK22⟩ (fun hHeld=>?_);clear hK K;refine norm_ (a':=?_) ?_ ?_;rotate_left
        ·show Act.put _ (some 6) _=_
         simp only [Act.put,zi,zs,zt,i64_w,i32_w];rfl
        exact norm_ (by first|(simp only [putAll,Act.put,zi,zs,zt];done)|(simp only [putAll,Act.put,zi,zs,zt];rfl)) (hJ3_8_9 (gb23,gb24) _ ⟨hHeld,(zk BK22),(zk BK21),(zk BK23),(zk BK24),GW23.out,GE23.out,NB22_23.out,NB23_22.out,NB21_23.out,NB23_21.out,NB24_23.out,NB23_24.out,GW24.out,GE24.out,NB22_24.out,NB24_22.out,NB21_24.out,NB24_21.out,zB⟩)
     ·skip;rintro _ w11 ⟨hS_,h0_,h1_,h2_⟩
      replace BK22:Aside0 (w11.heap[gb22]?=some (.cells #[.int .i64 a0_0,.int .i64 a0_1] 108 (0,0))):=⟨h0_⟩
      replace BK21:Aside0 (w11.heap[gb21]?=some (.cells #[.slice A1_0 l1_0.length c1_0,.slice A1_1 l1_1.length c1_1] 63 (0,0))):=⟨h1_⟩
      replace HB:Aside0 (Below w.heap.size w w11):=⟨h2_⟩
      clear h0_ h1_ h2_;have hHeld:w11.cell? ⟨gb21,0,none⟩=some (.slice A1_0 l1_0.length c1_0)∧w11.cell? ⟨gb21,1,none⟩=some (.slice A1_1 l1_1.length c1_1)∧w11.cell? ⟨gb22,0,none⟩=some (.int .i64 a0_0)∧w11.cell? ⟨gb22,1,none⟩=some (.int .i64 a0_1):=hS_;refine norm_ (a':=?_) ?_ ?_;rotate_left
      ·simp only [putAll,Act.put,zi,zs,zt];rfl
      refine two_ (i:=8) (j:=9) (Ni:=some 5) (Nj:=some 6) (bz 12 511) (bz 12 767) rfl rfl rfl rfl (two_of HT_.out zK) (by decide) (by decide) (fun K hK=>?_) (fun K hK=>?_)
      ·skip;refine box_step ?hg (N:=5) ?hd (cs:=#[.int .i64 0]) (t:=3) ?hr ?_;(case hd=>rfl);(case hg=>rfl);(case hr=>first|(go_simp;done)|(go_simp;rfl));intro gb23 hg w12 hbox hb;have BK23:=zA (hbox);have GW23:=zA ((zG hg (below_size zB):w.heap.size≤gb23));have GE23:=zA ((zG hg (below_size zB):w.heap.size≤gb23));have NB22_23:=zA ((zl hg (zk BK22):gb22≠gb23));have NB23_22:=zA ((zg hg (zk BK22):gb23≠gb22));have NB21_23:=zA ((zl hg (zk BK21):gb21≠gb23));have NB23_21:=zA ((zg hg (zk BK21):gb23≠gb21));replace BK22:=zw BK22 hb;replace BK21:=zw BK21 hb;replace HB:=zu hb;clear hb hbox hg;refine hK.out _ _ ⟨zc0 BK21,zc1 BK21,zc0 BK22,zc1 BK22⟩ (fun hHeld=>?_);clear hK K;refine norm_ (a':=?_) ?_ ?_;rotate_left
       ·show Act.put _ (some 5) _=_
        simp only [Act.put,zi,zs,zt,i64_w,i32_w];rfl
       exact norm_ (by first|(simp only [putAll,Act.put,zi,zs,zt];done)|(simp only [putAll,Act.put,zi,zs,zt];rfl)) (hJ3_7_8 (gb23) _ ⟨hHeld,(zk BK22),(zk BK21),(zk BK23),GW23.out,GE23.out,NB22_23.out,NB23_22.out,NB21_23.out,NB23_21.out,zB⟩)
      ·skip;refine box_step ?hg (N:=6) ?hd (cs:=#[.int .i64 0]) (t:=3) ?hr ?_;(case hd=>rfl);(case hg=>rfl);(case hr=>first|(go_simp;done)|(go_simp;rfl));intro gb24 hg w12 hbox hb;have BK24:=zA (hbox);have GW24:=zA ((zG hg (below_size zB):w.heap.size≤gb24));have GE24:=zA ((zG hg (below_size zB):w.heap.size≤gb24));have NB22_24:=zA ((zl hg (zk BK22):gb22≠gb24));have NB24_22:=zA ((zg hg (zk BK22):gb24≠gb22));have NB21_24:=zA ((zl hg (zk BK21):gb21≠gb24));have NB24_21:=zA ((zg hg (zk BK21):gb24≠gb21));replace BK22:=zw BK22 hb;replace BK21:=zw BK21 hb;replace HB:=zu hb;clear hb hbox hg;refine hK.out _ _ ⟨zc0 BK21,zc1 BK21,zc0 BK22,zc1 BK22⟩ (fun hHeld=>?_);clear hK K;refine norm_ (a':=?_) ?_ ?_;rotate_left
       ·show Act.put _ (some 6) _=_
        simp only [Act.put,zi,zs,zt,i64_w,i32_w];rfl
       exact norm_ (by first|(simp only [putAll,Act.put,zi,zs,zt];done)|(simp only [putAll,Act.put,zi,zs,zt];rfl)) (hJ3_7_9 (gb24) _ ⟨hHeld,(zk BK22),(zk BK21),(zk BK24),GW24.out,GE24.out,NB22_24.out,NB24_22.out,NB21_24.out,NB24_21.out,zB⟩)
    ·skip;rintro ⟨gb23,gb24⟩ w12 ⟨hS_,h0_,h1_,h2_,h3_,h4_,h5_,h6_,h7_,h8_,h9_,h10_,h11_,h12_,h13_,h14_,h15_,h16_,h17_,h18_⟩
     have BK23:Aside0 (w12.heap[gb23]?=some (.cells #[.int .i64 0] 3 (0,0))):=⟨h2_⟩
     have BK24:Aside0 (w12.heap[gb24]?=some (.cells #[.int .i64 0] 3 (0,0))):=⟨h3_⟩
     have GW23:Aside0 (w.heap.size≤gb23):=⟨h4_⟩
     have GE23:Aside0 (w.heap.size≤gb23):=⟨h5_⟩
     have NB22_23:Aside0 (gb22≠gb23):=⟨h6_⟩
     have NB23_22:Aside0 (gb23≠gb22):=⟨h7_⟩
     have NB21_23:Aside0 (gb21≠gb23):=⟨h8_⟩
     have NB23_21:Aside0 (gb23≠gb21):=⟨h9_⟩
     have NB24_23:Aside0 (gb24≠gb23):=⟨h10_⟩
     have NB23_24:Aside0 (gb23≠gb24):=⟨h11_⟩
     have GW24:Aside0 (w.heap.size≤gb24):=⟨h12_⟩
     have GE24:Aside0 (w.heap.size≤gb24):=⟨h13_⟩
     have NB22_24:Aside0 (gb22≠gb24):=⟨h14_⟩
     have NB24_22:Aside0 (gb24≠gb22):=⟨h15_⟩
     have NB21_24:Aside0 (gb21≠gb24):=⟨h16_⟩
     have NB24_21:Aside0 (gb24≠gb21):=⟨h17_⟩
     replace BK22:Aside0 (w12.heap[gb22]?=some (.cells #[.int .i64 a0_0,.int .i64 a0_1] 108 (0,0))):=⟨h0_⟩
     replace BK21:Aside0 (w12.heap[gb21]?=some (.cells #[.slice A1_0 l1_0.length c1_0,.slice A1_1 l1_1.length c1_1] 63 (0,0))):=⟨h1_⟩
     replace HB:Aside0 (Below w.heap.size w w12):=⟨h18_⟩
     clear h0_ h1_ h2_ h3_ h4_ h5_ h6_ h7_ h8_ h9_ h10_ h11_ h12_ h13_ h14_ h15_ h16_ h17_ h18_;have hHeld:w12.cell? ⟨gb21,0,none⟩=some (.slice A1_0 l1_0.length c1_0)∧w12.cell? ⟨gb21,1,none⟩=some (.slice A1_1 l1_1.length c1_1)∧w12.cell? ⟨gb22,0,none⟩=some (.int .i64 a0_0)∧w12.cell? ⟨gb22,1,none⟩=some (.int .i64 a0_1):=hS_;refine norm_ (a':=?_) ?_ ?_;rotate_left
     ·simp only [putAll,Act.put,zi,zs,zt];rfl
     refine one_ (i:=7) (N:=some 14) (bz 12 1023) rfl rfl (one_of HT_.out zK) (by decide) (fun K hK=>?_);refine goes_ Tryz.func107 zK rfl #[.agg #[.slice A1_0 l1_0.length c1_0,.slice A1_1 l1_1.length c1_1],.int .i64 a0_1] (by rfl) rfl rfl zM ?_
     with_reducible refine (solve_row.calls k _ _ l1_0 _ _ l1_1 a0_1 t26 _ ?side1 ?side2 ?side3 ?side4 A4.out).mono ?_
     (case side1=>exact zC (Kd.C_below HR1_0.out HB.out));(case side2=>exact HC1_0.out);(case side3=>exact zC (Kd.C_below HR1_1.out HB.out));(case side4=>exact HC1_1.out);rintro e w13 ⟨rfl,hb⟩;refine ⟨_,rfl,?_⟩;replace BK22:=zw BK22 hb;replace BK21:=zw BK21 hb;replace BK23:=zw BK23 hb;replace BK24:=zw BK24 hb;replace HB:=zu hb;(try clear hb);(try clear hb2);(try clear hk);(try clear hi);refine hK.out _ _ ⟨zc0 BK21,zc1 BK21,zc0 BK22,zc1 BK22⟩ (fun hHeld=>?_);clear hK K;refine norm_ (a':=?_) ?_ ?_;rotate_left
     ·show Act.put _ (some 14) _=_
      simp only [Act.put,zi,zs,zt,i64_w,i32_w];rfl
     exact norm_ (by first|(simp only [putAll,Act.put,zi,zs,zt];done)|(simp only [putAll,Act.put,zi,zs,zt];rfl)) (hJ3_7_8_9 (gb23,gb24) _ ⟨hHeld,(zk BK22),(zk BK21),(zk BK23),(zk BK24),GW23.out,GE23.out,NB22_23.out,NB23_22.out,NB21_23.out,NB23_21.out,NB24_23.out,NB23_24.out,GW24.out,GE24.out,NB22_24.out,NB24_22.out,NB21_24.out,NB24_21.out,zB⟩)
   ·skip;rintro gb24 w12 ⟨hS_,h0_,h1_,h2_,h3_,h4_,h5_,h6_,h7_,h8_,h9_⟩
    have BK24:Aside0 (w12.heap[gb24]?=some (.cells #[.int .i64 0] 3 (0,0))):=⟨h2_⟩
    have GW24:Aside0 (w.heap.size≤gb24):=⟨h3_⟩
    have GE24:Aside0 (w.heap.size≤gb24):=⟨h4_⟩
    have NB22_24:Aside0 (gb22≠gb24):=⟨h5_⟩
    have NB24_22:Aside0 (gb24≠gb22):=⟨h6_⟩
    have NB21_24:Aside0 (gb21≠gb24):=⟨h7_⟩
    have NB24_21:Aside0 (gb24≠gb21):=⟨h8_⟩
    replace BK22:Aside0 (w12.heap[gb22]?=some (.cells #[.int .i64 a0_0,.int .i64 a0_1] 108 (0,0))):=⟨h0_⟩
    replace BK21:Aside0 (w12.heap[gb21]?=some (.cells #[.slice A1_0 l1_0.length c1_0,.slice A1_1 l1_1.length c1_1] 63 (0,0))):=⟨h1_⟩
    replace HB:Aside0 (Below w.heap.size w w12):=⟨h9_⟩
    clear h0_ h1_ h2_ h3_ h4_ h5_ h6_ h7_ h8_ h9_;have hHeld:w12.cell? ⟨gb21,0,none⟩=some (.slice A1_0 l1_0.length c1_0)∧w12.cell? ⟨gb21,1,none⟩=some (.slice A1_1 l1_1.length c1_1)∧w12.cell? ⟨gb22,0,none⟩=some (.int .i64 a0_0)∧w12.cell? ⟨gb22,1,none⟩=some (.int .i64 a0_1):=hS_;refine norm_ (a':=?_) ?_ ?_;rotate_left
    ·simp only [putAll,Act.put,zi,zs,zt];rfl
    refine one_ (i:=8) (N:=some 5) (bz 12 1023) rfl rfl (one_of HT_.out zK) (by decide) (fun K hK=>?_);refine box_step ?hg (N:=5) ?hd (cs:=#[.int .i64 0]) (t:=3) ?hr ?_;(case hd=>rfl);(case hg=>rfl);(case hr=>first|(go_simp;done)|(go_simp;rfl));intro gb23 hg w13 hbox hb;have BK23:=zA (hbox);have GW23:=zA ((zG hg (below_size zB):w.heap.size≤gb23));have GE23:=zA ((zG hg (below_size zB):w.heap.size≤gb23));have NB22_23:=zA ((zl hg (zk BK22):gb22≠gb23));have NB23_22:=zA ((zg hg (zk BK22):gb23≠gb22));have NB21_23:=zA ((zl hg (zk BK21):gb21≠gb23));have NB23_21:=zA ((zg hg (zk BK21):gb23≠gb21));have NB24_23:=zA ((zl hg (zk BK24):gb24≠gb23));have NB23_24:=zA ((zg hg (zk BK24):gb23≠gb24));replace BK22:=zw BK22 hb;replace BK21:=zw BK21 hb;replace BK24:=zw BK24 hb;replace HB:=zu hb;clear hb hbox hg;refine hK.out _ _ ⟨zc0 BK21,zc1 BK21,zc0 BK22,zc1 BK22⟩ (fun hHeld=>?_);clear hK K;refine norm_ (a':=?_) ?_ ?_;rotate_left
    ·show Act.put _ (some 5) _=_
     simp only [Act.put,zi,zs,zt,i64_w,i32_w];rfl
    exact norm_ (by first|(simp only [putAll,Act.put,zi,zs,zt];done)|(simp only [putAll,Act.put,zi,zs,zt];rfl)) (hJ3_7_8_9 (gb23,gb24) _ ⟨hHeld,(zk BK22),(zk BK21),(zk BK23),(zk BK24),GW23.out,GE23.out,NB22_23.out,NB23_22.out,NB21_23.out,NB23_21.out,NB24_23.out,NB23_24.out,GW24.out,GE24.out,NB22_24.out,NB24_22.out,NB21_24.out,NB24_21.out,zB⟩)
  ·skip;rintro gb23 w12 ⟨hS_,h0_,h1_,h2_,h3_,h4_,h5_,h6_,h7_,h8_,h9_⟩
   have BK23:Aside0 (w12.heap[gb23]?=some (.cells #[.int .i64 0] 3 (0,0))):=⟨h2_⟩
   have GW23:Aside0 (w.heap.size≤gb23):=⟨h3_⟩
   have GE23:Aside0 (w.heap.size≤gb23):=⟨h4_⟩
   have NB22_23:Aside0 (gb22≠gb23):=⟨h5_⟩
   have NB23_22:Aside0 (gb23≠gb22):=⟨h6_⟩
   have NB21_23:Aside0 (gb21≠gb23):=⟨h7_⟩
   have NB23_21:Aside0 (gb23≠gb21):=⟨h8_⟩
   replace BK22:Aside0 (w12.heap[gb22]?=some (.cells #[.int .i64 a0_0,.int .i64 a0_1] 108 (0,0))):=⟨h0_⟩
   replace BK21:Aside0 (w12.heap[gb21]?=some (.cells #[.slice A1_0 l1_0.length c1_0,.slice A1_1 l1_1.length c1_1] 63 (0,0))):=⟨h1_⟩
   replace HB:Aside0 (Below w.heap.size w w12):=⟨h9_⟩
   clear h0_ h1_ h2_ h3_ h4_ h5_ h6_ h7_ h8_ h9_;have hHeld:w12.cell? ⟨gb21,0,none⟩=some (.slice A1_0 l1_0.length c1_0)∧w12.cell? ⟨gb21,1,none⟩=some (.slice A1_1 l1_1.length c1_1)∧w12.cell? ⟨gb22,0,none⟩=some (.int .i64 a0_0)∧w12.cell? ⟨gb22,1,none⟩=some (.int .i64 a0_1):=hS_;refine norm_ (a':=?_) ?_ ?_;rotate_left
   ·simp only [putAll,Act.put,zi,zs,zt];rfl
   refine one_ (i:=9) (N:=some 6) (bz 12 1023) rfl rfl (one_of HT_.out zK) (by decide) (fun K hK=>?_);refine box_step ?hg (N:=6) ?hd (cs:=#[.int .i64 0]) (t:=3) ?hr ?_;(case hd=>rfl);(case hg=>rfl);(case hr=>first|(go_simp;done)|(go_simp;rfl));intro gb24 hg w13 hbox hb;have BK24:=zA (hbox);have GW24:=zA ((zG hg (below_size zB):w.heap.size≤gb24));have GE24:=zA ((zG hg (below_size zB):w.heap.size≤gb24));have NB22_24:=zA ((zl hg (zk BK22):gb22≠gb24));have NB24_22:=zA ((zg hg (zk BK22):gb24≠gb22));have NB21_24:=zA ((zl hg (zk BK21):gb21≠gb24));have NB24_21:=zA ((zg hg (zk BK21):gb24≠gb21));have NB23_24:=zA ((zl hg (zk BK23):gb23≠gb24));have NB24_23:=zA ((zg hg (zk BK23):gb24≠gb23));replace BK22:=zw BK22 hb;replace BK21:=zw BK21 hb;replace BK23:=zw BK23 hb;replace HB:=zu hb;clear hb hbox hg;refine hK.out _ _ ⟨zc0 BK21,zc1 BK21,zc0 BK22,zc1 BK22⟩ (fun hHeld=>?_);clear hK K;refine norm_ (a':=?_) ?_ ?_;rotate_left
   ·show Act.put _ (some 6) _=_
    simp only [Act.put,zi,zs,zt,i64_w,i32_w];rfl
   exact norm_ (by first|(simp only [putAll,Act.put,zi,zs,zt];done)|(simp only [putAll,Act.put,zi,zs,zt];rfl)) (hJ3_7_8_9 (gb23,gb24) _ ⟨hHeld,(zk BK22),(zk BK21),(zk BK23),(zk BK24),GW23.out,GE23.out,NB22_23.out,NB23_22.out,NB21_23.out,NB23_21.out,NB24_23.out,NB23_24.out,GW24.out,GE24.out,NB22_24.out,NB24_22.out,NB21_24.out,NB24_21.out,zB⟩)
 rintro ⟨gb23,gb24⟩ w13 ⟨hS_,h0_,h1_,h2_,h3_,h4_,h5_,h6_,h7_,h8_,h9_,h10_,h11_,h12_,h13_,h14_,h15_,h16_,h17_,h18_⟩
 have BK23:Aside0 (w13.heap[gb23]?=some (.cells #[.int .i64 0] 3 (0,0))):=⟨h2_⟩
 have BK24:Aside0 (w13.heap[gb24]?=some (.cells #[.int .i64 0] 3 (0,0))):=⟨h3_⟩
 have GW23:Aside0 (w.heap.size≤gb23):=⟨h4_⟩
 have GE23:Aside0 (w.heap.size≤gb23):=⟨h5_⟩
 have NB22_23:Aside0 (gb22≠gb23):=⟨h6_⟩
 have NB23_22:Aside0 (gb23≠gb22):=⟨h7_⟩
 have NB21_23:Aside0 (gb21≠gb23):=⟨h8_⟩
 have NB23_21:Aside0 (gb23≠gb21):=⟨h9_⟩
 have NB24_23:Aside0 (gb24≠gb23):=⟨h10_⟩
 have NB23_24:Aside0 (gb23≠gb24):=⟨h11_⟩
 have GW24:Aside0 (w.heap.size≤gb24):=⟨h12_⟩
 have GE24:Aside0 (w.heap.size≤gb24):=⟨h13_⟩
 have NB22_24:Aside0 (gb22≠gb24):=⟨h14_⟩
 have NB24_22:Aside0 (gb24≠gb22):=⟨h15_⟩
 have NB21_24:Aside0 (gb21≠gb24):=⟨h16_⟩
 have NB24_21:Aside0 (gb24≠gb21):=⟨h17_⟩
 replace BK22:Aside0 (w13.heap[gb22]?=some (.cells #[.int .i64 a0_0,.int .i64 a0_1] 108 (0,0))):=⟨h0_⟩
 replace BK21:Aside0 (w13.heap[gb21]?=some (.cells #[.slice A1_0 l1_0.length c1_0,.slice A1_1 l1_1.length c1_1] 63 (0,0))):=⟨h1_⟩
 replace HB:Aside0 (Below w.heap.size w w13):=⟨h18_⟩
 clear h0_ h1_ h2_ h3_ h4_ h5_ h6_ h7_ h8_ h9_ h10_ h11_ h12_ h13_ h14_ h15_ h16_ h17_ h18_;have hHeld:w13.cell? ⟨gb21,0,none⟩=some (.slice A1_0 l1_0.length c1_0)∧w13.cell? ⟨gb21,1,none⟩=some (.slice A1_1 l1_1.length c1_1)∧w13.cell? ⟨gb22,0,none⟩=some (.int .i64 a0_0)∧w13.cell? ⟨gb22,1,none⟩=some (.int .i64 a0_1):=hS_;refine norm_ (a':=?_) ?_ ?_;rotate_left
 ·simp only [putAll,Act.put,zi,zs,zt];rfl
 refine one_ (i:=10) (N:=none) (bz 12 2047) rfl rfl (one_of HT_.out zK) (by decide) (fun K hK=>?_);have hs14:w13.cell? ⟨gb23,0,none⟩=some (.int .i64 0):=zc0 BK23;have hfs14:=zf BK23 0;have hns14_0:=NB22_23.out;have hns14_1:=NB21_23.out;have hns14_3:=NB24_23.out;have hms14_0:=NB23_22.out;have hms14_1:=NB23_21.out;have hms14_3:=NB23_24.out;refine skip_ (w1:=?_) (by rfl) rfl ?_ ?_;rotate_left
 ·go_simp
  rfl
 refine hK.out _ _ ⟨((cell_far (p:=⟨gb23,_,none⟩) NB21_23.out _).trans (hHeld.1)),((cell_far (p:=⟨gb23,_,none⟩) NB21_23.out _).trans (hHeld.2.1)),((cell_far (p:=⟨gb23,_,none⟩) NB22_23.out _).trans (hHeld.2.2.1)),((cell_far (p:=⟨gb23,_,none⟩) NB22_23.out _).trans (hHeld.2.2.2))⟩ (fun hHeld=>?_);clear hK K;refine one_ (i:=11) (N:=none) (bz 12 4095) rfl rfl (one_of HT_.out zK) (by decide) (fun K hK=>?_);have hs15:w13.cell? ⟨gb24,0,none⟩=some (.int .i64 0):=zc0 BK24;have hfs15:=zf BK24 0;have hns15_0:=NB22_24.out;have hns15_1:=NB21_24.out;have hns15_2:=NB23_24.out;have hms15_0:=NB24_22.out;have hms15_1:=NB24_21.out;have hms15_2:=NB24_23.out;refine skip_ (w1:=?_) (by rfl) rfl ?_ ?_;rotate_left
 ·go_simp
  rfl
 refine hK.out _ _ ⟨((cell_far (p:=⟨gb24,_,none⟩) NB21_24.out _).trans (hHeld.1)),((cell_far (p:=⟨gb24,_,none⟩) NB21_24.out _).trans (hHeld.2.1)),((cell_far (p:=⟨gb24,_,none⟩) NB22_24.out _).trans (hHeld.2.2.1)),((cell_far (p:=⟨gb24,_,none⟩) NB22_24.out _).trans (hHeld.2.2.2))⟩ (fun hHeld=>?_);clear hK K;refine done_ (done_of HT_.out zK) ?_;have hnb16:=NB21_22.out;have hnc16:=NB22_21.out;have hnb17:=NB21_23.out;have hnc17:=NB23_21.out;have hnb18:=NB21_24.out;have hnc18:=NB24_21.out;have hcz19_0:=zc0 BK21;have hcz19_1:=zc1 BK21;have hfz19_0:=zf BK21
 try go_wp2_with (first|((with_reducible refine gate_callee (f:=140) rfl ?_);refine zgo 18 Tryz.func140 #[.slice A1_1 l1_1.length c1_1,.func (.func 141) #[] #[.pointer (some ⟨gb23,0,none⟩),.pointer (some ⟨gb24,0,none⟩)]] ?_;(with_reducible refine (slices_ContainsFunc_int_int_solve_choices_fails_1.calls k _ _ l1_1 gb23 gb24 t25 t26 t27 _ ?side1 HC1_1.out ?side3 ?side4 A5.out).mono ?_);(case side1=>exact Kd.C_below HR1_1.out zB);(case side3=>refine zj ?_;refine blk_far ?_ NB23_24.out _;refine zj ?_;refine blk_put (cs:=#[.int .i64 0]) ?_ 0 _ rfl;refine zj ?_;exact BK23.out);(case side4=>refine zj ?_;refine blk_put (cs:=#[.int .i64 0]) ?_ 0 _ rfl;refine zj ?_;refine blk_far ?_ NB24_23.out _;refine zj ?_;exact BK24.out);rintro e w20 ⟨rfl,hb⟩;refine ⟨_,rfl,?_⟩;replace BK22:=zA (blk_below (g:=gb22) (o:=.cells #[.int .i64 a0_0,.int .i64 a0_1] 108 (0,0)) (by refine zj ?_;refine blk_far ?_ NB22_24.out _;refine zj ?_;refine blk_far ?_ NB22_23.out _;refine zj ?_;exact BK22.out) hb);replace BK21:=zA (blk_below (g:=gb21) (o:=.cells #[.slice A1_0 l1_0.length c1_0,.slice A1_1 l1_1.length c1_1] 63 (0,0)) (by refine zj ?_;refine blk_far ?_ NB21_24.out _;refine zj ?_;refine blk_far ?_ NB21_23.out _;refine zj ?_;exact BK21.out) hb);replace BK23:=zA (blk_below (g:=gb23) (o:=.cells #[.int .i64 t25] 3 (0,0)) (by refine zj ?_;refine blk_far ?_ NB23_24.out _;refine zj ?_;refine blk_put (cs:=#[.int .i64 0]) ?_ 0 _ rfl;refine zj ?_;exact BK23.out) hb);replace BK24:=zA (blk_below (g:=gb24) (o:=.cells #[.int .i64 t26] 3 (0,0)) (by refine zj ?_;refine blk_put (cs:=#[.int .i64 0]) ?_ 0 _ rfl;refine zj ?_;refine blk_far ?_ NB24_23.out _;refine zj ?_;exact BK24.out) hb);replace HB:=zu hb;clear hb))
 go_ret
 exact ⟨ze,zv4 HB GE22 GE21 GE23 GE24⟩
end Go.Proofs.YtngpkbbljnbojaaGreat.L
