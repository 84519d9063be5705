import Derived.Test.YtkjghablbeaioaaG0
import Derived.Test.YtkjghablbeaioaaG1
import Derived.Test.YtkjghablbeaioaaG2
namespace Go.Proofs.Ytkjghablbeaioaa.G
open Go.RowKit Go.Proofs.YtkjghablbeaioaaW.PrintWords Go.Proofs.YtkjghablbeaioaaW.PrintLast Go.Proofs.YtkjghablbeaioaaW.PrintMore
attribute [local go_sem] max2_int min2_int max_two min_two max_three min_three max_four min_four
set_option linter.unusedVariables false
set_option linter.unusedSimpArgs false
def solve_choices_fails.f (k:Nat) (a0_0:Int) (a0_1:Int) (l1_0:List Int) (l1_1:List Int):Option (Bool):=(solve_row.f k l1_0 l1_1 a0_0).bind fun t160=>((solve_row.f k l1_0 l1_1 a0_1).bind fun t161=>((slices_ContainsFunc_int_int_solve_choices_fails_1.f k l1_1 t160 t161).bind fun t164=>(some (!t164))))
theorem solve_choices_fails.mono:∀ a0 a1 a2 a3 k,LeO (solve_choices_fails.f k a0 a1 a2 a3) (solve_choices_fails.f (k+1) a0 a1 a2 a3):=by
 intro a0 a1 a2 a3 k
 unfold solve_choices_fails.f
 repeat' first
   | (with_reducible exact slices_ContainsFunc_int_int_solve_choices_fails_1.mono _ _ _ _)
   | (with_reducible exact solve_row.mono _ _ _ _)
   | (with_reducible exact LeO.refl _)
   | (with_reducible exact LeO.none _)
   | (with_reducible refine LeO.ite ?_ ?_)
   | (with_reducible refine LeO.bind ?_ (fun _=>?_))
   | exact LeO.none _
   | refine LeO.ite ?_ ?_
   | refine LeO.bind ?_ (fun _=>?_)
def solve_choices_fails.T1:Bool×List (List Nat×List Nat):=(true,[([],[]),([],[]),([1],[1]),([0,2],[0,2]),([],[]),([],[]),([5],[5]),([4,6,3],[4,6]),([],[]),([],[]),([8,3,7,0,1,2,3,8,9],[3,8]),([9,7,10,0,1,2,3,4,5,6,7,8,9,10],[7,9])])
def solve_choices_fails.B1:List Nat:=[0,0,2,7,0,0,32,127,0,0,1023,2047]
theorem solve_choices_fails.tab1:rtab .any (opsOf Try.f113 1)=solve_choices_fails.T1:=by kernel_rfl
theorem solve_choices_fails.bits1:waitsOk solve_choices_fails.T1.2 solve_choices_fails.B1=true:=by kernel_rfl
set_option maxHeartbeats 8000000 in
set_option maxRecDepth 100000 in
theorem solve_choices_fails.calls (k:Nat) (a0_0:Int) (a0_1:Int) (A1_0:Option Addr) (c1_0:Nat) (l1_0:List Int) (A1_1:Option Addr) (c1_1:Nat) (l1_1:List Int) (r:Bool) (w:World) (hr1_0:Kd.C (Kd.int .i64) w A1_0 l1_0.length l1_0) (hc1_0:l1_0.length≤c1_0) (hr1_1:Kd.C (Kd.int .i64) w A1_1 l1_1.length l1_1) (hc1_1:l1_1.length≤c1_1) (h:solve_choices_fails.f k a0_0 a0_1 l1_0 l1_1=some r) :
  Calls Try.prog 113 #[.agg #[.int .i64 a0_0,.int .i64 a0_1],.agg #[.slice A1_0 l1_0.length c1_0,.slice A1_1 l1_1.length c1_1]] w fun e w'=>e=.returned (.bool r)∧Below w.heap.size w w':=by
 have hu83:=Try.underlying83
 have hu50:=Try.underlying50
 have hu3:=Try.underlying3
 have hu30:=Try.underlying30
 have HR1_0:=zA hr1_0
 have HC1_0:=zA hc1_0
 clear hr1_0 hc1_0
 have HR1_1:=zA hr1_1
 have HC1_1:=zA hc1_1
 clear hr1_1 hc1_1
 have HB:=zA (Below.refl w.heap.size w)
 have H:((solve_row.f k l1_0 l1_1 a0_0).bind fun t160=>((solve_row.f k l1_0 l1_1 a0_1).bind fun t161=>((slices_ContainsFunc_int_int_solve_choices_fails_1.f k l1_1 t160 t161).bind fun t164=>(some (!t164)))))=some r:=h
 clear h
 obtain ⟨t160,A3,H⟩:=zo H
 obtain ⟨t161,A4,H⟩:=zo H
 obtain ⟨t164,A5,H⟩:=zo H
 obtain rfl:=Option.some.inj H
 go_enter Try.func113,Try.ntmps113
 try go_wp2_with (first|((with_reducible refine gd 2 rfl ?_);refine zx #[.int .i64 a0_0,.int .i64 a0_1] 83 (h:=?_);intro gb158 hg w6 BK158 hb GW158 HB1;have GE158:=GW158;clear HB hb hg;have HB:=HB1;clear HB1)|((with_reducible refine gd 3 rfl ?_);refine zx #[.slice A1_0 l1_0.length c1_0,.slice A1_1 l1_1.length c1_1] 50 (h:=?_);intro gb159 hg w7 BK159 hb GW159 HB1;have GE159:=GW159;have NB158_159:=zL hg BK158;have NB159_158:=zLs NB158_159;replace BK158:=zw BK158 hb;clear HB hb hg;have HB:=HB1;clear HB1))
 replace BK158:=zA (blk_drew BK158.out)
 replace BK159:=zA (blk_drew BK159.out)
 replace HB:=zA (below_drew1 HB.out)
 refine start_ (n:=12) (S:=fun w'=>w'.cell? ⟨gb159,0,none⟩=some (.slice A1_0 l1_0.length c1_0)∧w'.cell? ⟨gb159,1,none⟩=some (.slice A1_1 l1_1.length c1_1)∧w'.cell? ⟨gb158,0,none⟩=some (.int .i64 a0_0)∧w'.cell? ⟨gb158,1,none⟩=some (.int .i64 a0_1)) (ds:=[]) (bz 12 0) zK rfl rfl ⟨(blk_cell BK159.out 0).trans rfl,(blk_cell BK159.out 1).trans rfl,(blk_cell BK158.out 0).trans rfl,(blk_cell BK158.out 1).trans rfl⟩ (fun hHeld=>?_);refine with_tabW solve_choices_fails.tab1 solve_choices_fails.bits1 (fun HT_ HW_=>?_)
 generalize w7.drew=w8 at BK158 BK159 HB hHeld ⊢
 refine zP 1 8 (bz 12 2) HT_ (h:=?_)
 refine zP 5 12 (bz 12 34) HT_ (h:=?_)
 refine zQ 0 7 (bz 12 35) HT_ HW_ hHeld (h:=?_)
 refine zQ 2 9 (bz 12 39) HT_ HW_ hHeld (h:=?_)
 refine zQ 4 11 (bz 12 55) HT_ HW_ hHeld (h:=?_)
 refine zQ 6 13 (bz 12 119) HT_ HW_ hHeld (h:=?_)
 refine join_ (σ:=Nat×Nat) 2 (bz 12 1023) (fun s_=>[(10,.int .i64 t160),(14,.int .i64 t161),(5,.pointer (some ⟨s_.1,0,none⟩)),(6,.pointer (some ⟨s_.2,0,none⟩))]) (fun s_ w'=>(w'.cell? ⟨gb159,0,none⟩=some (.slice A1_0 l1_0.length c1_0)∧w'.cell? ⟨gb159,1,none⟩=some (.slice A1_1 l1_1.length c1_1)∧w'.cell? ⟨gb158,0,none⟩=some (.int .i64 a0_0)∧w'.cell? ⟨gb158,1,none⟩=some (.int .i64 a0_1))∧(w'.heap[gb158]?=some (.cells #[.int .i64 a0_0,.int .i64 a0_1] 83 (0,0)))∧(w'.heap[gb159]?=some (.cells #[.slice A1_0 l1_0.length c1_0,.slice A1_1 l1_1.length c1_1] 50 (0,0)))∧(w'.heap[s_.1]?=some (.cells #[.int .i64 0] 3 (0,0)))∧(w'.heap[s_.2]?=some (.cells #[.int .i64 0] 3 (0,0)))∧(w.heap.size≤s_.1)∧(w.heap.size≤s_.1)∧(gb158≠s_.1)∧(s_.1≠gb158)∧(gb159≠s_.1)∧(s_.1≠gb159)∧(s_.2≠s_.1)∧(s_.1≠s_.2)∧(w.heap.size≤s_.2)∧(w.heap.size≤s_.2)∧(gb158≠s_.2)∧(s_.2≠gb158)∧(gb159≠s_.2)∧(s_.2≠gb159)∧(Below w.heap.size w w')) ?_ ?_
 rotate_left
 ·intro hJ3_7_8_9
  refine join_ (σ:=Nat) 3 (bz 12 511) (fun s_=>[(10,.int .i64 t160),(14,.int .i64 t161),(5,.pointer (some ⟨s_,0,none⟩))]) (fun s_ w'=>(w'.cell? ⟨gb159,0,none⟩=some (.slice A1_0 l1_0.length c1_0)∧w'.cell? ⟨gb159,1,none⟩=some (.slice A1_1 l1_1.length c1_1)∧w'.cell? ⟨gb158,0,none⟩=some (.int .i64 a0_0)∧w'.cell? ⟨gb158,1,none⟩=some (.int .i64 a0_1))∧(w'.heap[gb158]?=some (.cells #[.int .i64 a0_0,.int .i64 a0_1] 83 (0,0)))∧(w'.heap[gb159]?=some (.cells #[.slice A1_0 l1_0.length c1_0,.slice A1_1 l1_1.length c1_1] 50 (0,0)))∧(w'.heap[s_]?=some (.cells #[.int .i64 0] 3 (0,0)))∧(w.heap.size≤s_)∧(w.heap.size≤s_)∧(gb158≠s_)∧(s_≠gb158)∧(gb159≠s_)∧(s_≠gb159)∧(Below w.heap.size w w')) ?_ ?_
  rotate_left
  ·intro hJ3_7_8
   refine join_ (σ:=Nat) 3 (bz 12 767) (fun s_=>[(10,.int .i64 t160),(14,.int .i64 t161),(6,.pointer (some ⟨s_,0,none⟩))]) (fun s_ w'=>(w'.cell? ⟨gb159,0,none⟩=some (.slice A1_0 l1_0.length c1_0)∧w'.cell? ⟨gb159,1,none⟩=some (.slice A1_1 l1_1.length c1_1)∧w'.cell? ⟨gb158,0,none⟩=some (.int .i64 a0_0)∧w'.cell? ⟨gb158,1,none⟩=some (.int .i64 a0_1))∧(w'.heap[gb158]?=some (.cells #[.int .i64 a0_0,.int .i64 a0_1] 83 (0,0)))∧(w'.heap[gb159]?=some (.cells #[.slice A1_0 l1_0.length c1_0,.slice A1_1 l1_1.length c1_1] 50 (0,0)))∧(w'.heap[s_]?=some (.cells #[.int .i64 0] 3 (0,0)))∧(w.heap.size≤s_)∧(w.heap.size≤s_)∧(gb158≠s_)∧(s_≠gb158)∧(gb159≠s_)∧(s_≠gb159)∧(Below w.heap.size w w')) ?_ ?_
   rotate_left
   ·intro hJ3_7_9
    refine join_ (σ:=Nat×Nat) 3 (bz 12 895) (fun s_=>[(10,.int .i64 t160),(5,.pointer (some ⟨s_.1,0,none⟩)),(6,.pointer (some ⟨s_.2,0,none⟩))]) (fun s_ w'=>(w'.cell? ⟨gb159,0,none⟩=some (.slice A1_0 l1_0.length c1_0)∧w'.cell? ⟨gb159,1,none⟩=some (.slice A1_1 l1_1.length c1_1)∧w'.cell? ⟨gb158,0,none⟩=some (.int .i64 a0_0)∧w'.cell? ⟨gb158,1,none⟩=some (.int .i64 a0_1))∧(w'.heap[gb158]?=some (.cells #[.int .i64 a0_0,.int .i64 a0_1] 83 (0,0)))∧(w'.heap[gb159]?=some (.cells #[.slice A1_0 l1_0.length c1_0,.slice A1_1 l1_1.length c1_1] 50 (0,0)))∧(w'.heap[s_.1]?=some (.cells #[.int .i64 0] 3 (0,0)))∧(w'.heap[s_.2]?=some (.cells #[.int .i64 0] 3 (0,0)))∧(w.heap.size≤s_.1)∧(w.heap.size≤s_.1)∧(gb158≠s_.1)∧(s_.1≠gb158)∧(gb159≠s_.1)∧(s_.1≠gb159)∧(s_.2≠s_.1)∧(s_.1≠s_.2)∧(w.heap.size≤s_.2)∧(w.heap.size≤s_.2)∧(gb158≠s_.2)∧(s_.2≠gb158)∧(gb159≠s_.2)∧(s_.2≠gb159)∧(Below w.heap.size w w')) ?_ ?_
    rotate_left
    ·intro hJ3_8_9
     refine join_ (σ:=Unit) 4 (bz 12 255) (fun s_=>[(10,.int .i64 t160),(14,.int .i64 t161)]) (fun s_ w'=>(w'.cell? ⟨gb159,0,none⟩=some (.slice A1_0 l1_0.length c1_0)∧w'.cell? ⟨gb159,1,none⟩=some (.slice A1_1 l1_1.length c1_1)∧w'.cell? ⟨gb158,0,none⟩=some (.int .i64 a0_0)∧w'.cell? ⟨gb158,1,none⟩=some (.int .i64 a0_1))∧(w'.heap[gb158]?=some (.cells #[.int .i64 a0_0,.int .i64 a0_1] 83 (0,0)))∧(w'.heap[gb159]?=some (.cells #[.slice A1_0 l1_0.length c1_0,.slice A1_1 l1_1.length c1_1] 50 (0,0)))∧(Below w.heap.size w w')) ?_ ?_
     rotate_left
     ·intro hJ3_7
      refine join_ (σ:=Nat) 4 (bz 12 383) (fun s_=>[(10,.int .i64 t160),(5,.pointer (some ⟨s_,0,none⟩))]) (fun s_ w'=>(w'.cell? ⟨gb159,0,none⟩=some (.slice A1_0 l1_0.length c1_0)∧w'.cell? ⟨gb159,1,none⟩=some (.slice A1_1 l1_1.length c1_1)∧w'.cell? ⟨gb158,0,none⟩=some (.int .i64 a0_0)∧w'.cell? ⟨gb158,1,none⟩=some (.int .i64 a0_1))∧(w'.heap[gb158]?=some (.cells #[.int .i64 a0_0,.int .i64 a0_1] 83 (0,0)))∧(w'.heap[gb159]?=some (.cells #[.slice A1_0 l1_0.length c1_0,.slice A1_1 l1_1.length c1_1] 50 (0,0)))∧(w'.heap[s_]?=some (.cells #[.int .i64 0] 3 (0,0)))∧(w.heap.size≤s_)∧(w.heap.size≤s_)∧(gb158≠s_)∧(s_≠gb158)∧(gb159≠s_)∧(s_≠gb159)∧(Below w.heap.size w w')) ?_ ?_
      rotate_left
      ·intro hJ3_8
       refine join_ (σ:=Nat) 4 (bz 12 639) (fun s_=>[(10,.int .i64 t160),(6,.pointer (some ⟨s_,0,none⟩))]) (fun s_ w'=>(w'.cell? ⟨gb159,0,none⟩=some (.slice A1_0 l1_0.length c1_0)∧w'.cell? ⟨gb159,1,none⟩=some (.slice A1_1 l1_1.length c1_1)∧w'.cell? ⟨gb158,0,none⟩=some (.int .i64 a0_0)∧w'.cell? ⟨gb158,1,none⟩=some (.int .i64 a0_1))∧(w'.heap[gb158]?=some (.cells #[.int .i64 a0_0,.int .i64 a0_1] 83 (0,0)))∧(w'.heap[gb159]?=some (.cells #[.slice A1_0 l1_0.length c1_0,.slice A1_1 l1_1.length c1_1] 50 (0,0)))∧(w'.heap[s_]?=some (.cells #[.int .i64 0] 3 (0,0)))∧(w.heap.size≤s_)∧(w.heap.size≤s_)∧(gb158≠s_)∧(s_≠gb158)∧(gb159≠s_)∧(s_≠gb159)∧(Below w.heap.size w w')) ?_ ?_
       rotate_left
       ·intro hJ3_9
        refine join_ (σ:=Nat×Nat) 4 (bz 12 887) (fun s_=>[(5,.pointer (some ⟨s_.1,0,none⟩)),(6,.pointer (some ⟨s_.2,0,none⟩))]) (fun s_ w'=>(w'.cell? ⟨gb159,0,none⟩=some (.slice A1_0 l1_0.length c1_0)∧w'.cell? ⟨gb159,1,none⟩=some (.slice A1_1 l1_1.length c1_1)∧w'.cell? ⟨gb158,0,none⟩=some (.int .i64 a0_0)∧w'.cell? ⟨gb158,1,none⟩=some (.int .i64 a0_1))∧(w'.heap[gb158]?=some (.cells #[.int .i64 a0_0,.int .i64 a0_1] 83 (0,0)))∧(w'.heap[gb159]?=some (.cells #[.slice A1_0 l1_0.length c1_0,.slice A1_1 l1_1.length c1_1] 50 (0,0)))∧(w'.heap[s_.1]?=some (.cells #[.int .i64 0] 3 (0,0)))∧(w'.heap[s_.2]?=some (.cells #[.int .i64 0] 3 (0,0)))∧(w.heap.size≤s_.1)∧(w.heap.size≤s_.1)∧(gb158≠s_.1)∧(s_.1≠gb158)∧(gb159≠s_.1)∧(s_.1≠gb159)∧(s_.2≠s_.1)∧(s_.1≠s_.2)∧(w.heap.size≤s_.2)∧(w.heap.size≤s_.2)∧(gb158≠s_.2)∧(s_.2≠gb158)∧(gb159≠s_.2)∧(s_.2≠gb159)∧(Below w.heap.size w w')) ?_ ?_
        rotate_left
        ·intro hJ8_9
         refine join_ (σ:=Unit) 5 (bz 12 127) (fun s_=>[(10,.int .i64 t160)]) (fun s_ w'=>(w'.cell? ⟨gb159,0,none⟩=some (.slice A1_0 l1_0.length c1_0)∧w'.cell? ⟨gb159,1,none⟩=some (.slice A1_1 l1_1.length c1_1)∧w'.cell? ⟨gb158,0,none⟩=some (.int .i64 a0_0)∧w'.cell? ⟨gb158,1,none⟩=some (.int .i64 a0_1))∧(w'.heap[gb158]?=some (.cells #[.int .i64 a0_0,.int .i64 a0_1] 83 (0,0)))∧(w'.heap[gb159]?=some (.cells #[.slice A1_0 l1_0.length c1_0,.slice A1_1 l1_1.length c1_1] 50 (0,0)))∧(Below w.heap.size w w')) ?_ ?_
         rotate_left
         ·intro hJ3
          refine join_ (σ:=Nat) 5 (bz 12 375) (fun s_=>[(5,.pointer (some ⟨s_,0,none⟩))]) (fun s_ w'=>(w'.cell? ⟨gb159,0,none⟩=some (.slice A1_0 l1_0.length c1_0)∧w'.cell? ⟨gb159,1,none⟩=some (.slice A1_1 l1_1.length c1_1)∧w'.cell? ⟨gb158,0,none⟩=some (.int .i64 a0_0)∧w'.cell? ⟨gb158,1,none⟩=some (.int .i64 a0_1))∧(w'.heap[gb158]?=some (.cells #[.int .i64 a0_0,.int .i64 a0_1] 83 (0,0)))∧(w'.heap[gb159]?=some (.cells #[.slice A1_0 l1_0.length c1_0,.slice A1_1 l1_1.length c1_1] 50 (0,0)))∧(w'.heap[s_]?=some (.cells #[.int .i64 0] 3 (0,0)))∧(w.heap.size≤s_)∧(w.heap.size≤s_)∧(gb158≠s_)∧(s_≠gb158)∧(gb159≠s_)∧(s_≠gb159)∧(Below w.heap.size w w')) ?_ ?_
          rotate_left
          ·intro hJ8
           refine join_ (σ:=Nat) 5 (bz 12 631) (fun s_=>[(6,.pointer (some ⟨s_,0,none⟩))]) (fun s_ w'=>(w'.cell? ⟨gb159,0,none⟩=some (.slice A1_0 l1_0.length c1_0)∧w'.cell? ⟨gb159,1,none⟩=some (.slice A1_1 l1_1.length c1_1)∧w'.cell? ⟨gb158,0,none⟩=some (.int .i64 a0_0)∧w'.cell? ⟨gb158,1,none⟩=some (.int .i64 a0_1))∧(w'.heap[gb158]?=some (.cells #[.int .i64 a0_0,.int .i64 a0_1] 83 (0,0)))∧(w'.heap[gb159]?=some (.cells #[.slice A1_0 l1_0.length c1_0,.slice A1_1 l1_1.length c1_1] 50 (0,0)))∧(w'.heap[s_]?=some (.cells #[.int .i64 0] 3 (0,0)))∧(w.heap.size≤s_)∧(w.heap.size≤s_)∧(gb158≠s_)∧(s_≠gb158)∧(gb159≠s_)∧(s_≠gb159)∧(Below w.heap.size w w')) ?_ ?_
           rotate_left
           ·intro hJ9
            refine three_ (i:=3) (j:=8) (k:=9) (Ni:=some 10) (Nj:=some 5) (Nk:=some 6) (bz 12 127) (bz 12 375) (bz 12 631) rfl rfl rfl rfl rfl rfl (three_of HT_.out zK) (by decide) (by decide) (by decide) (fun K hK=>?_) (fun K hK=>?_) (fun K hK=>?_)
            ·skip
             refine goes_ Try.func117 zK rfl #[.agg #[.slice A1_0 l1_0.length c1_0,.slice A1_1 l1_1.length c1_1],.int .i64 a0_0] (by rfl) rfl rfl zM ?_
             with_reducible refine (solve_row.calls k _ _ l1_0 _ _ l1_1 a0_0 t160 _ ?side1 ?side2 ?side3 ?side4 A3.out).mono ?_
             (case side1=>exact zC (Kd.C_below HR1_0.out HB.out))
             (case side2=>exact HC1_0.out)
             (case side3=>exact zC (Kd.C_below HR1_1.out HB.out))
             (case side4=>exact HC1_1.out)
             rintro e w9 ⟨rfl,hb⟩
             refine ⟨_,rfl,?_⟩
             replace BK158:=zw BK158 hb
             replace BK159:=zw BK159 hb
             replace HB:=zu hb
             (try clear hb)
             (try clear hb2)
             (try clear hk)
             (try clear hi)
             refine hK.out _ _ ⟨(blk_cell BK159.out 0).trans rfl,(blk_cell BK159.out 1).trans rfl,(blk_cell BK158.out 0).trans rfl,(blk_cell BK158.out 1).trans rfl⟩ (fun hHeld=>?_)
             clear hK K
             refine norm_ (a':=?_) ?_ ?_
             rotate_left
             ·show Act.put _ (some 10) _=_
              simp only [Act.put,zi,zs,zt,i64_w,i32_w]
              rfl
             exact norm_ (by first|(simp only [putAll,Act.put,zi,zs,zt];done)|(simp only [putAll,Act.put,zi,zs,zt];rfl)) (hJ3 () _ ⟨hHeld,(zk BK158),(zk BK159),zB⟩)
            ·skip
             refine box_step ?hg (N:=5) ?hd (cs:=#[.int .i64 0]) (t:=3) ?hr ?_;(case hd=>rfl);(case hg=>rfl);(case hr=>first|(go_simp;done)|(go_simp;rfl))
             intro gb162 hg w9 hbox hb
             have BK162:=zA (hbox)
             have GW162:=zA ((zG hg (below_size zB):w.heap.size≤gb162))
             have GE162:=zA ((zG hg (below_size zB):w.heap.size≤gb162))
             have NB158_162:=zA ((zl hg (zk BK158):gb158≠gb162))
             have NB162_158:=zA ((zg hg (zk BK158):gb162≠gb158))
             have NB159_162:=zA ((zl hg (zk BK159):gb159≠gb162))
             have NB162_159:=zA ((zg hg (zk BK159):gb162≠gb159))
             replace BK158:=zw BK158 hb
             replace BK159:=zw BK159 hb
             replace HB:=zu hb
             clear hb hbox hg
             refine hK.out _ _ ⟨(blk_cell BK159.out 0).trans rfl,(blk_cell BK159.out 1).trans rfl,(blk_cell BK158.out 0).trans rfl,(blk_cell BK158.out 1).trans rfl⟩ (fun hHeld=>?_)
             clear hK K
             refine norm_ (a':=?_) ?_ ?_
             rotate_left
             ·show Act.put _ (some 5) _=_
              simp only [Act.put,zi,zs,zt,i64_w,i32_w]
              rfl
             exact norm_ (by first|(simp only [putAll,Act.put,zi,zs,zt];done)|(simp only [putAll,Act.put,zi,zs,zt];rfl)) (hJ8 (gb162) _ ⟨hHeld,(zk BK158),(zk BK159),(zk BK162),GW162.out,GE162.out,NB158_162.out,NB162_158.out,NB159_162.out,NB162_159.out,zB⟩)
            ·skip
             refine box_step ?hg (N:=6) ?hd (cs:=#[.int .i64 0]) (t:=3) ?hr ?_;(case hd=>rfl);(case hg=>rfl);(case hr=>first|(go_simp;done)|(go_simp;rfl))
             intro gb163 hg w9 hbox hb
             have BK163:=zA (hbox)
             have GW163:=zA ((zG hg (below_size zB):w.heap.size≤gb163))
             have GE163:=zA ((zG hg (below_size zB):w.heap.size≤gb163))
             have NB158_163:=zA ((zl hg (zk BK158):gb158≠gb163))
             have NB163_158:=zA ((zg hg (zk BK158):gb163≠gb158))
             have NB159_163:=zA ((zl hg (zk BK159):gb159≠gb163))
             have NB163_159:=zA ((zg hg (zk BK159):gb163≠gb159))
             replace BK158:=zw BK158 hb
             replace BK159:=zw BK159 hb
             replace HB:=zu hb
             clear hb hbox hg
             refine hK.out _ _ ⟨(blk_cell BK159.out 0).trans rfl,(blk_cell BK159.out 1).trans rfl,(blk_cell BK158.out 0).trans rfl,(blk_cell BK158.out 1).trans rfl⟩ (fun hHeld=>?_)
             clear hK K
             refine norm_ (a':=?_) ?_ ?_
             rotate_left
             ·show Act.put _ (some 6) _=_
              simp only [Act.put,zi,zs,zt,i64_w,i32_w]
              rfl
             exact norm_ (by first|(simp only [putAll,Act.put,zi,zs,zt];done)|(simp only [putAll,Act.put,zi,zs,zt];rfl)) (hJ9 (gb163) _ ⟨hHeld,(zk BK158),(zk BK159),(zk BK163),GW163.out,GE163.out,NB158_163.out,NB163_158.out,NB159_163.out,NB163_159.out,zB⟩)
           ·skip
            rintro gb163 w10 ⟨hS_,h0_,h1_,h2_,h3_,h4_,h5_,h6_,h7_,h8_,h9_⟩
            have BK163:Aside0 (w10.heap[gb163]?=some (.cells #[.int .i64 0] 3 (0,0))):=⟨h2_⟩
            have GW163:Aside0 (w.heap.size≤gb163):=⟨h3_⟩
            have GE163:Aside0 (w.heap.size≤gb163):=⟨h4_⟩
            have NB158_163:Aside0 (gb158≠gb163):=⟨h5_⟩
            have NB163_158:Aside0 (gb163≠gb158):=⟨h6_⟩
            have NB159_163:Aside0 (gb159≠gb163):=⟨h7_⟩
            have NB163_159:Aside0 (gb163≠gb159):=⟨h8_⟩
            replace BK158:Aside0 (w10.heap[gb158]?=some (.cells #[.int .i64 a0_0,.int .i64 a0_1] 83 (0,0))):=⟨h0_⟩
            replace BK159:Aside0 (w10.heap[gb159]?=some (.cells #[.slice A1_0 l1_0.length c1_0,.slice A1_1 l1_1.length c1_1] 50 (0,0))):=⟨h1_⟩
            replace HB:Aside0 (Below w.heap.size w w10):=⟨h9_⟩
            clear h0_ h1_ h2_ h3_ h4_ h5_ h6_ h7_ h8_ h9_
            have hHeld:w10.cell? ⟨gb159,0,none⟩=some (.slice A1_0 l1_0.length c1_0)∧w10.cell? ⟨gb159,1,none⟩=some (.slice A1_1 l1_1.length c1_1)∧w10.cell? ⟨gb158,0,none⟩=some (.int .i64 a0_0)∧w10.cell? ⟨gb158,1,none⟩=some (.int .i64 a0_1):=hS_
            refine norm_ (a':=?_) ?_ ?_
            rotate_left
            ·simp only [putAll,Act.put,zi,zs,zt]
             rfl
            refine two_ (i:=3) (j:=8) (Ni:=some 10) (Nj:=some 5) (bz 12 639) (bz 12 887) rfl rfl rfl rfl (two_of HT_.out zK) (by decide) (by decide) (fun K hK=>?_) (fun K hK=>?_)
            ·skip
             refine goes_ Try.func117 zK rfl #[.agg #[.slice A1_0 l1_0.length c1_0,.slice A1_1 l1_1.length c1_1],.int .i64 a0_0] (by rfl) rfl rfl zM ?_
             with_reducible refine (solve_row.calls k _ _ l1_0 _ _ l1_1 a0_0 t160 _ ?side1 ?side2 ?side3 ?side4 A3.out).mono ?_
             (case side1=>exact zC (Kd.C_below HR1_0.out HB.out))
             (case side2=>exact HC1_0.out)
             (case side3=>exact zC (Kd.C_below HR1_1.out HB.out))
             (case side4=>exact HC1_1.out)
             rintro e w11 ⟨rfl,hb⟩
             refine ⟨_,rfl,?_⟩
             replace BK158:=zw BK158 hb
             replace BK159:=zw BK159 hb
             replace BK163:=zw BK163 hb
             replace HB:=zu hb
             (try clear hb)
             (try clear hb2)
             (try clear hk)
             (try clear hi)
             refine hK.out _ _ ⟨(blk_cell BK159.out 0).trans rfl,(blk_cell BK159.out 1).trans rfl,(blk_cell BK158.out 0).trans rfl,(blk_cell BK158.out 1).trans rfl⟩ (fun hHeld=>?_)
             clear hK K
             refine norm_ (a':=?_) ?_ ?_
             rotate_left
             ·show Act.put _ (some 10) _=_
              simp only [Act.put,zi,zs,zt,i64_w,i32_w]
              rfl
             exact norm_ (by first|(simp only [putAll,Act.put,zi,zs,zt];done)|(simp only [putAll,Act.put,zi,zs,zt];rfl)) (hJ3_9 (gb163) _ ⟨hHeld,(zk BK158),(zk BK159),(zk BK163),GW163.out,GE163.out,NB158_163.out,NB163_158.out,NB159_163.out,NB163_159.out,zB⟩)
            ·skip
             refine box_step ?hg (N:=5) ?hd (cs:=#[.int .i64 0]) (t:=3) ?hr ?_;(case hd=>rfl);(case hg=>rfl);(case hr=>first|(go_simp;done)|(go_simp;rfl))
             intro gb162 hg w11 hbox hb
             have BK162:=zA (hbox)
             have GW162:=zA ((zG hg (below_size zB):w.heap.size≤gb162))
             have GE162:=zA ((zG hg (below_size zB):w.heap.size≤gb162))
             have NB158_162:=zA ((zl hg (zk BK158):gb158≠gb162))
             have NB162_158:=zA ((zg hg (zk BK158):gb162≠gb158))
             have NB159_162:=zA ((zl hg (zk BK159):gb159≠gb162))
             have NB162_159:=zA ((zg hg (zk BK159):gb162≠gb159))
             have NB163_162:=zA ((zl hg (zk BK163):gb163≠gb162))
             have NB162_163:=zA ((zg hg (zk BK163):gb162≠gb163))
             replace BK158:=zw BK158 hb
             replace BK159:=zw BK159 hb
             replace BK163:=zw BK163 hb
             replace HB:=zu hb
             clear hb hbox hg
             refine hK.out _ _ ⟨(blk_cell BK159.out 0).trans rfl,(blk_cell BK159.out 1).trans rfl,(blk_cell BK158.out 0).trans rfl,(blk_cell BK158.out 1).trans rfl⟩ (fun hHeld=>?_)
             clear hK K
             refine norm_ (a':=?_) ?_ ?_
             rotate_left
             ·show Act.put _ (some 5) _=_
              simp only [Act.put,zi,zs,zt,i64_w,i32_w]
              rfl
             exact norm_ (by first|(simp only [putAll,Act.put,zi,zs,zt];done)|(simp only [putAll,Act.put,zi,zs,zt];rfl)) (hJ8_9 (gb162,gb163) _ ⟨hHeld,(zk BK158),(zk BK159),(zk BK162),(zk BK163),GW162.out,GE162.out,NB158_162.out,NB162_158.out,NB159_162.out,NB162_159.out,NB163_162.out,NB162_163.out,GW163.out,GE163.out,NB158_163.out,NB163_158.out,NB159_163.out,NB163_159.out,zB⟩)
          ·skip
           rintro gb162 w10 ⟨hS_,h0_,h1_,h2_,h3_,h4_,h5_,h6_,h7_,h8_,h9_⟩
           have BK162:Aside0 (w10.heap[gb162]?=some (.cells #[.int .i64 0] 3 (0,0))):=⟨h2_⟩
           have GW162:Aside0 (w.heap.size≤gb162):=⟨h3_⟩
           have GE162:Aside0 (w.heap.size≤gb162):=⟨h4_⟩
           have NB158_162:Aside0 (gb158≠gb162):=⟨h5_⟩
           have NB162_158:Aside0 (gb162≠gb158):=⟨h6_⟩
           have NB159_162:Aside0 (gb159≠gb162):=⟨h7_⟩
           have NB162_159:Aside0 (gb162≠gb159):=⟨h8_⟩
           replace BK158:Aside0 (w10.heap[gb158]?=some (.cells #[.int .i64 a0_0,.int .i64 a0_1] 83 (0,0))):=⟨h0_⟩
           replace BK159:Aside0 (w10.heap[gb159]?=some (.cells #[.slice A1_0 l1_0.length c1_0,.slice A1_1 l1_1.length c1_1] 50 (0,0))):=⟨h1_⟩
           replace HB:Aside0 (Below w.heap.size w w10):=⟨h9_⟩
           clear h0_ h1_ h2_ h3_ h4_ h5_ h6_ h7_ h8_ h9_
           have hHeld:w10.cell? ⟨gb159,0,none⟩=some (.slice A1_0 l1_0.length c1_0)∧w10.cell? ⟨gb159,1,none⟩=some (.slice A1_1 l1_1.length c1_1)∧w10.cell? ⟨gb158,0,none⟩=some (.int .i64 a0_0)∧w10.cell? ⟨gb158,1,none⟩=some (.int .i64 a0_1):=hS_
           refine norm_ (a':=?_) ?_ ?_
           rotate_left
           ·simp only [putAll,Act.put,zi,zs,zt]
            rfl
           refine two_ (i:=3) (j:=9) (Ni:=some 10) (Nj:=some 6) (bz 12 383) (bz 12 887) rfl rfl rfl rfl (two_of HT_.out zK) (by decide) (by decide) (fun K hK=>?_) (fun K hK=>?_)
           ·skip
            refine goes_ Try.func117 zK rfl #[.agg #[.slice A1_0 l1_0.length c1_0,.slice A1_1 l1_1.length c1_1],.int .i64 a0_0] (by rfl) rfl rfl zM ?_
            with_reducible refine (solve_row.calls k _ _ l1_0 _ _ l1_1 a0_0 t160 _ ?side1 ?side2 ?side3 ?side4 A3.out).mono ?_
            (case side1=>exact zC (Kd.C_below HR1_0.out HB.out))
            (case side2=>exact HC1_0.out)
            (case side3=>exact zC (Kd.C_below HR1_1.out HB.out))
            (case side4=>exact HC1_1.out)
            rintro e w11 ⟨rfl,hb⟩
            refine ⟨_,rfl,?_⟩
            replace BK158:=zw BK158 hb
            replace BK159:=zw BK159 hb
            replace BK162:=zw BK162 hb
            replace HB:=zu hb
            (try clear hb)
            (try clear hb2)
            (try clear hk)
            (try clear hi)
            refine hK.out _ _ ⟨(blk_cell BK159.out 0).trans rfl,(blk_cell BK159.out 1).trans rfl,(blk_cell BK158.out 0).trans rfl,(blk_cell BK158.out 1).trans rfl⟩ (fun hHeld=>?_)
            clear hK K
            refine norm_ (a':=?_) ?_ ?_
            rotate_left
            ·show Act.put _ (some 10) _=_
             simp only [Act.put,zi,zs,zt,i64_w,i32_w]
             rfl
            exact norm_ (by first|(simp only [putAll,Act.put,zi,zs,zt];done)|(simp only [putAll,Act.put,zi,zs,zt];rfl)) (hJ3_8 (gb162) _ ⟨hHeld,(zk BK158),(zk BK159),(zk BK162),GW162.out,GE162.out,NB158_162.out,NB162_158.out,NB159_162.out,NB162_159.out,zB⟩)
           ·skip
            refine box_step ?hg (N:=6) ?hd (cs:=#[.int .i64 0]) (t:=3) ?hr ?_;(case hd=>rfl);(case hg=>rfl);(case hr=>first|(go_simp;done)|(go_simp;rfl))
            intro gb163 hg w11 hbox hb
            have BK163:=zA (hbox)
            have GW163:=zA ((zG hg (below_size zB):w.heap.size≤gb163))
            have GE163:=zA ((zG hg (below_size zB):w.heap.size≤gb163))
            have NB158_163:=zA ((zl hg (zk BK158):gb158≠gb163))
            have NB163_158:=zA ((zg hg (zk BK158):gb163≠gb158))
            have NB159_163:=zA ((zl hg (zk BK159):gb159≠gb163))
            have NB163_159:=zA ((zg hg (zk BK159):gb163≠gb159))
            have NB162_163:=zA ((zl hg (zk BK162):gb162≠gb163))
            have NB163_162:=zA ((zg hg (zk BK162):gb163≠gb162))
            replace BK158:=zw BK158 hb
            replace BK159:=zw BK159 hb
            replace BK162:=zw BK162 hb
            replace HB:=zu hb
            clear hb hbox hg
            refine hK.out _ _ ⟨(blk_cell BK159.out 0).trans rfl,(blk_cell BK159.out 1).trans rfl,(blk_cell BK158.out 0).trans rfl,(blk_cell BK158.out 1).trans rfl⟩ (fun hHeld=>?_)
            clear hK K
            refine norm_ (a':=?_) ?_ ?_
            rotate_left
            ·show Act.put _ (some 6) _=_
             simp only [Act.put,zi,zs,zt,i64_w,i32_w]
             rfl
            exact norm_ (by first|(simp only [putAll,Act.put,zi,zs,zt];done)|(simp only [putAll,Act.put,zi,zs,zt];rfl)) (hJ8_9 (gb162,gb163) _ ⟨hHeld,(zk BK158),(zk BK159),(zk BK162),(zk BK163),GW162.out,GE162.out,NB158_162.out,NB162_158.out,NB159_162.out,NB162_159.out,NB163_162.out,NB162_163.out,GW163.out,GE163.out,NB158_163.out,NB163_158.out,NB159_163.out,NB163_159.out,zB⟩)
         ·skip
          rintro _ w10 ⟨hS_,h0_,h1_,h2_⟩
          replace BK158:Aside0 (w10.heap[gb158]?=some (.cells #[.int .i64 a0_0,.int .i64 a0_1] 83 (0,0))):=⟨h0_⟩
          replace BK159:Aside0 (w10.heap[gb159]?=some (.cells #[.slice A1_0 l1_0.length c1_0,.slice A1_1 l1_1.length c1_1] 50 (0,0))):=⟨h1_⟩
          replace HB:Aside0 (Below w.heap.size w w10):=⟨h2_⟩
          clear h0_ h1_ h2_
          have hHeld:w10.cell? ⟨gb159,0,none⟩=some (.slice A1_0 l1_0.length c1_0)∧w10.cell? ⟨gb159,1,none⟩=some (.slice A1_1 l1_1.length c1_1)∧w10.cell? ⟨gb158,0,none⟩=some (.int .i64 a0_0)∧w10.cell? ⟨gb158,1,none⟩=some (.int .i64 a0_1):=hS_
          refine norm_ (a':=?_) ?_ ?_
          rotate_left
          ·simp only [putAll,Act.put,zi,zs,zt]
           rfl
          refine three_ (i:=7) (j:=8) (k:=9) (Ni:=some 14) (Nj:=some 5) (Nk:=some 6) (bz 12 255) (bz 12 383) (bz 12 639) rfl rfl rfl rfl rfl rfl (three_of HT_.out zK) (by decide) (by decide) (by decide) (fun K hK=>?_) (fun K hK=>?_) (fun K hK=>?_)
          ·skip
           refine goes_ Try.func117 zK rfl #[.agg #[.slice A1_0 l1_0.length c1_0,.slice A1_1 l1_1.length c1_1],.int .i64 a0_1] (by rfl) rfl rfl zM ?_
           with_reducible refine (solve_row.calls k _ _ l1_0 _ _ l1_1 a0_1 t161 _ ?side1 ?side2 ?side3 ?side4 A4.out).mono ?_
           (case side1=>exact zC (Kd.C_below HR1_0.out HB.out))
           (case side2=>exact HC1_0.out)
           (case side3=>exact zC (Kd.C_below HR1_1.out HB.out))
           (case side4=>exact HC1_1.out)
           rintro e w11 ⟨rfl,hb⟩
           refine ⟨_,rfl,?_⟩
           replace BK158:=zw BK158 hb
           replace BK159:=zw BK159 hb
           replace HB:=zu hb
           (try clear hb)
           (try clear hb2)
           (try clear hk)
           (try clear hi)
           refine hK.out _ _ ⟨(blk_cell BK159.out 0).trans rfl,(blk_cell BK159.out 1).trans rfl,(blk_cell BK158.out 0).trans rfl,(blk_cell BK158.out 1).trans rfl⟩ (fun hHeld=>?_)
           clear hK K
           refine norm_ (a':=?_) ?_ ?_
           rotate_left
           ·show Act.put _ (some 14) _=_
            simp only [Act.put,zi,zs,zt,i64_w,i32_w]
            rfl
           exact norm_ (by first|(simp only [putAll,Act.put,zi,zs,zt];done)|(simp only [putAll,Act.put,zi,zs,zt];rfl)) (hJ3_7 () _ ⟨hHeld,(zk BK158),(zk BK159),zB⟩)
          ·skip
           refine box_step ?hg (N:=5) ?hd (cs:=#[.int .i64 0]) (t:=3) ?hr ?_;(case hd=>rfl);(case hg=>rfl);(case hr=>first|(go_simp;done)|(go_simp;rfl))
           intro gb162 hg w11 hbox hb
           have BK162:=zA (hbox)
           have GW162:=zA ((zG hg (below_size zB):w.heap.size≤gb162))
           have GE162:=zA ((zG hg (below_size zB):w.heap.size≤gb162))
           have NB158_162:=zA ((zl hg (zk BK158):gb158≠gb162))
           have NB162_158:=zA ((zg hg (zk BK158):gb162≠gb158))
           have NB159_162:=zA ((zl hg (zk BK159):gb159≠gb162))
           have NB162_159:=zA ((zg hg (zk BK159):gb162≠gb159))
           replace BK158:=zw BK158 hb
           replace BK159:=zw BK159 hb
           replace HB:=zu hb
           clear hb hbox hg
           refine hK.out _ _ ⟨(blk_cell BK159.out 0).trans rfl,(blk_cell BK159.out 1).trans rfl,(blk_cell BK158.out 0).trans rfl,(blk_cell BK158.out 1).trans rfl⟩ (fun hHeld=>?_)
           clear hK K
           refine norm_ (a':=?_) ?_ ?_
           rotate_left
           ·show Act.put _ (some 5) _=_
            simp only [Act.put,zi,zs,zt,i64_w,i32_w]
            rfl
           exact norm_ (by first|(simp only [putAll,Act.put,zi,zs,zt];done)|(simp only [putAll,Act.put,zi,zs,zt];rfl)) (hJ3_8 (gb162) _ ⟨hHeld,(zk BK158),(zk BK159),(zk BK162),GW162.out,GE162.out,NB158_162.out,NB162_158.out,NB159_162.out,NB162_159.out,zB⟩)
          ·skip
           refine box_step ?hg (N:=6) ?hd (cs:=#[.int .i64 0]) (t:=3) ?hr ?_;(case hd=>rfl);(case hg=>rfl);(case hr=>first|(go_simp;done)|(go_simp;rfl))
           intro gb163 hg w11 hbox hb
           have BK163:=zA (hbox)
           have GW163:=zA ((zG hg (below_size zB):w.heap.size≤gb163))
           have GE163:=zA ((zG hg (below_size zB):w.heap.size≤gb163))
           have NB158_163:=zA ((zl hg (zk BK158):gb158≠gb163))
           have NB163_158:=zA ((zg hg (zk BK158):gb163≠gb158))
           have NB159_163:=zA ((zl hg (zk BK159):gb159≠gb163))
           have NB163_159:=zA ((zg hg (zk BK159):gb163≠gb159))
           replace BK158:=zw BK158 hb
           replace BK159:=zw BK159 hb
           replace HB:=zu hb
           clear hb hbox hg
           refine hK.out _ _ ⟨(blk_cell BK159.out 0).trans rfl,(blk_cell BK159.out 1).trans rfl,(blk_cell BK158.out 0).trans rfl,(blk_cell BK158.out 1).trans rfl⟩ (fun hHeld=>?_)
           clear hK K
           refine norm_ (a':=?_) ?_ ?_
           rotate_left
           ·show Act.put _ (some 6) _=_
            simp only [Act.put,zi,zs,zt,i64_w,i32_w]
            rfl
           exact norm_ (by first|(simp only [putAll,Act.put,zi,zs,zt];done)|(simp only [putAll,Act.put,zi,zs,zt];rfl)) (hJ3_9 (gb163) _ ⟨hHeld,(zk BK158),(zk BK159),(zk BK163),GW163.out,GE163.out,NB158_163.out,NB163_158.out,NB159_163.out,NB163_159.out,zB⟩)
        ·skip
         rintro ⟨gb162,gb163⟩ w11 ⟨hS_,h0_,h1_,h2_,h3_,h4_,h5_,h6_,h7_,h8_,h9_,h10_,h11_,h12_,h13_,h14_,h15_,h16_,h17_,h18_⟩
         have BK162:Aside0 (w11.heap[gb162]?=some (.cells #[.int .i64 0] 3 (0,0))):=⟨h2_⟩
         have BK163:Aside0 (w11.heap[gb163]?=some (.cells #[.int .i64 0] 3 (0,0))):=⟨h3_⟩
         have GW162:Aside0 (w.heap.size≤gb162):=⟨h4_⟩
         have GE162:Aside0 (w.heap.size≤gb162):=⟨h5_⟩
         have NB158_162:Aside0 (gb158≠gb162):=⟨h6_⟩
         have NB162_158:Aside0 (gb162≠gb158):=⟨h7_⟩
         have NB159_162:Aside0 (gb159≠gb162):=⟨h8_⟩
         have NB162_159:Aside0 (gb162≠gb159):=⟨h9_⟩
         have NB163_162:Aside0 (gb163≠gb162):=⟨h10_⟩
         have NB162_163:Aside0 (gb162≠gb163):=⟨h11_⟩
         have GW163:Aside0 (w.heap.size≤gb163):=⟨h12_⟩
         have GE163:Aside0 (w.heap.size≤gb163):=⟨h13_⟩
         have NB158_163:Aside0 (gb158≠gb163):=⟨h14_⟩
         have NB163_158:Aside0 (gb163≠gb158):=⟨h15_⟩
         have NB159_163:Aside0 (gb159≠gb163):=⟨h16_⟩
         have NB163_159:Aside0 (gb163≠gb159):=⟨h17_⟩
         replace BK158:Aside0 (w11.heap[gb158]?=some (.cells #[.int .i64 a0_0,.int .i64 a0_1] 83 (0,0))):=⟨h0_⟩
         replace BK159:Aside0 (w11.heap[gb159]?=some (.cells #[.slice A1_0 l1_0.length c1_0,.slice A1_1 l1_1.length c1_1] 50 (0,0))):=⟨h1_⟩
         replace HB:Aside0 (Below w.heap.size w w11):=⟨h18_⟩
         clear h0_ h1_ h2_ h3_ h4_ h5_ h6_ h7_ h8_ h9_ h10_ h11_ h12_ h13_ h14_ h15_ h16_ h17_ h18_
         have hHeld:w11.cell? ⟨gb159,0,none⟩=some (.slice A1_0 l1_0.length c1_0)∧w11.cell? ⟨gb159,1,none⟩=some (.slice A1_1 l1_1.length c1_1)∧w11.cell? ⟨gb158,0,none⟩=some (.int .i64 a0_0)∧w11.cell? ⟨gb158,1,none⟩=some (.int .i64 a0_1):=hS_
         refine norm_ (a':=?_) ?_ ?_
         rotate_left
         ·simp only [putAll,Act.put,zi,zs,zt]
          rfl
         refine one_ (i:=3) (N:=some 10) (bz 12 895) rfl rfl (one_of HT_.out zK) (by decide) (fun K hK=>?_)
         refine goes_ Try.func117 zK rfl #[.agg #[.slice A1_0 l1_0.length c1_0,.slice A1_1 l1_1.length c1_1],.int .i64 a0_0] (by rfl) rfl rfl zM ?_
         with_reducible refine (solve_row.calls k _ _ l1_0 _ _ l1_1 a0_0 t160 _ ?side1 ?side2 ?side3 ?side4 A3.out).mono ?_
         (case side1=>exact zC (Kd.C_below HR1_0.out HB.out))
         (case side2=>exact HC1_0.out)
         (case side3=>exact zC (Kd.C_below HR1_1.out HB.out))
         (case side4=>exact HC1_1.out)
         rintro e w12 ⟨rfl,hb⟩
         refine ⟨_,rfl,?_⟩
         replace BK158:=zw BK158 hb
         replace BK159:=zw BK159 hb
         replace BK162:=zw BK162 hb
         replace BK163:=zw BK163 hb
         replace HB:=zu hb
         (try clear hb)
         (try clear hb2)
         (try clear hk)
         (try clear hi)
         refine hK.out _ _ ⟨(blk_cell BK159.out 0).trans rfl,(blk_cell BK159.out 1).trans rfl,(blk_cell BK158.out 0).trans rfl,(blk_cell BK158.out 1).trans rfl⟩ (fun hHeld=>?_)
         clear hK K
         refine norm_ (a':=?_) ?_ ?_
         rotate_left
         ·show Act.put _ (some 10) _=_
          simp only [Act.put,zi,zs,zt,i64_w,i32_w]
          rfl
         exact norm_ (by first|(simp only [putAll,Act.put,zi,zs,zt];done)|(simp only [putAll,Act.put,zi,zs,zt];rfl)) (hJ3_8_9 (gb162,gb163) _ ⟨hHeld,(zk BK158),(zk BK159),(zk BK162),(zk BK163),GW162.out,GE162.out,NB158_162.out,NB162_158.out,NB159_162.out,NB162_159.out,NB163_162.out,NB162_163.out,GW163.out,GE163.out,NB158_163.out,NB163_158.out,NB159_163.out,NB163_159.out,zB⟩)
       ·skip
        rintro gb163 w11 ⟨hS_,h0_,h1_,h2_,h3_,h4_,h5_,h6_,h7_,h8_,h9_⟩
        have BK163:Aside0 (w11.heap[gb163]?=some (.cells #[.int .i64 0] 3 (0,0))):=⟨h2_⟩
        have GW163:Aside0 (w.heap.size≤gb163):=⟨h3_⟩
        have GE163:Aside0 (w.heap.size≤gb163):=⟨h4_⟩
        have NB158_163:Aside0 (gb158≠gb163):=⟨h5_⟩
        have NB163_158:Aside0 (gb163≠gb158):=⟨h6_⟩
        have NB159_163:Aside0 (gb159≠gb163):=⟨h7_⟩
        have NB163_159:Aside0 (gb163≠gb159):=⟨h8_⟩
        replace BK158:Aside0 (w11.heap[gb158]?=some (.cells #[.int .i64 a0_0,.int .i64 a0_1] 83 (0,0))):=⟨h0_⟩
        replace BK159:Aside0 (w11.heap[gb159]?=some (.cells #[.slice A1_0 l1_0.length c1_0,.slice A1_1 l1_1.length c1_1] 50 (0,0))):=⟨h1_⟩
        replace HB:Aside0 (Below w.heap.size w w11):=⟨h9_⟩
        clear h0_ h1_ h2_ h3_ h4_ h5_ h6_ h7_ h8_ h9_
        have hHeld:w11.cell? ⟨gb159,0,none⟩=some (.slice A1_0 l1_0.length c1_0)∧w11.cell? ⟨gb159,1,none⟩=some (.slice A1_1 l1_1.length c1_1)∧w11.cell? ⟨gb158,0,none⟩=some (.int .i64 a0_0)∧w11.cell? ⟨gb158,1,none⟩=some (.int .i64 a0_1):=hS_
        refine norm_ (a':=?_) ?_ ?_
        rotate_left
        ·simp only [putAll,Act.put,zi,zs,zt]
         rfl
        refine two_ (i:=7) (j:=8) (Ni:=some 14) (Nj:=some 5) (bz 12 767) (bz 12 895) rfl rfl rfl rfl (two_of HT_.out zK) (by decide) (by decide) (fun K hK=>?_) (fun K hK=>?_)
        ·skip
         refine goes_ Try.func117 zK rfl #[.agg #[.slice A1_0 l1_0.length c1_0,.slice A1_1 l1_1.length c1_1],.int .i64 a0_1] (by rfl) rfl rfl zM ?_
         with_reducible refine (solve_row.calls k _ _ l1_0 _ _ l1_1 a0_1 t161 _ ?side1 ?side2 ?side3 ?side4 A4.out).mono ?_
         (case side1=>exact zC (Kd.C_below HR1_0.out HB.out))
         (case side2=>exact HC1_0.out)
         (case side3=>exact zC (Kd.C_below HR1_1.out HB.out))
         (case side4=>exact HC1_1.out)
         rintro e w12 ⟨rfl,hb⟩
         refine ⟨_,rfl,?_⟩
         replace BK158:=zw BK158 hb
         replace BK159:=zw BK159 hb
         replace BK163:=zw BK163 hb
         replace HB:=zu hb
         (try clear hb)
         (try clear hb2)
         (try clear hk)
         (try clear hi)
         refine hK.out _ _ ⟨(blk_cell BK159.out 0).trans rfl,(blk_cell BK159.out 1).trans rfl,(blk_cell BK158.out 0).trans rfl,(blk_cell BK158.out 1).trans rfl⟩ (fun hHeld=>?_)
         clear hK K
         refine norm_ (a':=?_) ?_ ?_
         rotate_left
         ·show Act.put _ (some 14) _=_
          simp only [Act.put,zi,zs,zt,i64_w,i32_w]
          rfl
         exact norm_ (by first|(simp only [putAll,Act.put,zi,zs,zt];done)|(simp only [putAll,Act.put,zi,zs,zt];rfl)) (hJ3_7_9 (gb163) _ ⟨hHeld,(zk BK158),(zk BK159),(zk BK163),GW163.out,GE163.out,NB158_163.out,NB163_158.out,NB159_163.out,NB163_159.out,zB⟩)
        ·skip
         refine box_step ?hg (N:=5) ?hd (cs:=#[.int .i64 0]) (t:=3) ?hr ?_;(case hd=>rfl);(case hg=>rfl);(case hr=>first|(go_simp;done)|(go_simp;rfl))
         intro gb162 hg w12 hbox hb
         have BK162:=zA (hbox)
         have GW162:=zA ((zG hg (below_size zB):w.heap.size≤gb162))
         have GE162:=zA ((zG hg (below_size zB):w.heap.size≤gb162))
         have NB158_162:=zA ((zl hg (zk BK158):gb158≠gb162))
         have NB162_158:=zA ((zg hg (zk BK158):gb162≠gb158))
         have NB159_162:=zA ((zl hg (zk BK159):gb159≠gb162))
         have NB162_159:=zA ((zg hg (zk BK159):gb162≠gb159))
         have NB163_162:=zA ((zl hg (zk BK163):gb163≠gb162))
         have NB162_163:=zA ((zg hg (zk BK163):gb162≠gb163))
         replace BK158:=zw BK158 hb
         replace BK159:=zw BK159 hb
         replace BK163:=zw BK163 hb
         replace HB:=zu hb
         clear hb hbox hg
         refine hK.out _ _ ⟨(blk_cell BK159.out 0).trans rfl,(blk_cell BK159.out 1).trans rfl,(blk_cell BK158.out 0).trans rfl,(blk_cell BK158.out 1).trans rfl⟩ (fun hHeld=>?_)
         clear hK K
         refine norm_ (a':=?_) ?_ ?_
         rotate_left
         ·show Act.put _ (some 5) _=_
          simp only [Act.put,zi,zs,zt,i64_w,i32_w]
          rfl
         exact norm_ (by first|(simp only [putAll,Act.put,zi,zs,zt];done)|(simp only [putAll,Act.put,zi,zs,zt];rfl)) (hJ3_8_9 (gb162,gb163) _ ⟨hHeld,(zk BK158),(zk BK159),(zk BK162),(zk BK163),GW162.out,GE162.out,NB158_162.out,NB162_158.out,NB159_162.out,NB162_159.out,NB163_162.out,NB162_163.out,GW163.out,GE163.out,NB158_163.out,NB163_158.out,NB159_163.out,NB163_159.out,zB⟩)
      ·skip
       rintro gb162 w11 ⟨hS_,h0_,h1_,h2_,h3_,h4_,h5_,h6_,h7_,h8_,h9_⟩
       have BK162:Aside0 (w11.heap[gb162]?=some (.cells #[.int .i64 0] 3 (0,0))):=⟨h2_⟩
       have GW162:Aside0 (w.heap.size≤gb162):=⟨h3_⟩
       have GE162:Aside0 (w.heap.size≤gb162):=⟨h4_⟩
       have NB158_162:Aside0 (gb158≠gb162):=⟨h5_⟩
       have NB162_158:Aside0 (gb162≠gb158):=⟨h6_⟩
       have NB159_162:Aside0 (gb159≠gb162):=⟨h7_⟩
       have NB162_159:Aside0 (gb162≠gb159):=⟨h8_⟩
       replace BK158:Aside0 (w11.heap[gb158]?=some (.cells #[.int .i64 a0_0,.int .i64 a0_1] 83 (0,0))):=⟨h0_⟩
       replace BK159:Aside0 (w11.heap[gb159]?=some (.cells #[.slice A1_0 l1_0.length c1_0,.slice A1_1 l1_1.length c1_1] 50 (0,0))):=⟨h1_⟩
       replace HB:Aside0 (Below w.heap.size w w11):=⟨h9_⟩
       clear h0_ h1_ h2_ h3_ h4_ h5_ h6_ h7_ h8_ h9_
       have hHeld:w11.cell? ⟨gb159,0,none⟩=some (.slice A1_0 l1_0.length c1_0)∧w11.cell? ⟨gb159,1,none⟩=some (.slice A1_1 l1_1.length c1_1)∧w11.cell? ⟨gb158,0,none⟩=some (.int .i64 a0_0)∧w11.cell? ⟨gb158,1,none⟩=some (.int .i64 a0_1):=hS_
       refine norm_ (a':=?_) ?_ ?_
       rotate_left
       ·simp only [putAll,Act.put,zi,zs,zt]
        rfl
       refine two_ (i:=7) (j:=9) (Ni:=some 14) (Nj:=some 6) (bz 12 511) (bz 12 895) rfl rfl rfl rfl (two_of HT_.out zK) (by decide) (by decide) (fun K hK=>?_) (fun K hK=>?_)
       ·skip
        refine goes_ Try.func117 zK rfl #[.agg #[.slice A1_0 l1_0.length c1_0,.slice A1_1 l1_1.length c1_1],.int .i64 a0_1] (by rfl) rfl rfl zM ?_
        with_reducible refine (solve_row.calls k _ _ l1_0 _ _ l1_1 a0_1 t161 _ ?side1 ?side2 ?side3 ?side4 A4.out).mono ?_
        (case side1=>exact zC (Kd.C_below HR1_0.out HB.out))
        (case side2=>exact HC1_0.out)
        (case side3=>exact zC (Kd.C_below HR1_1.out HB.out))
        (case side4=>exact HC1_1.out)
        rintro e w12 ⟨rfl,hb⟩
        refine ⟨_,rfl,?_⟩
        replace BK158:=zw BK158 hb
        replace BK159:=zw BK159 hb
        replace BK162:=zw BK162 hb
        replace HB:=zu hb
        (try clear hb)
        (try clear hb2)
        (try clear hk)
        (try clear hi)
        refine hK.out _ _ ⟨(blk_cell BK159.out 0).trans rfl,(blk_cell BK159.out 1).trans rfl,(blk_cell BK158.out 0).trans rfl,(blk_cell BK158.out 1).trans rfl⟩ (fun hHeld=>?_)
        clear hK K
        refine norm_ (a':=?_) ?_ ?_
        rotate_left
        ·show Act.put _ (some 14) _=_
         simp only [Act.put,zi,zs,zt,i64_w,i32_w]
         rfl
        exact norm_ (by first|(simp only [putAll,Act.put,zi,zs,zt];done)|(simp only [putAll,Act.put,zi,zs,zt];rfl)) (hJ3_7_8 (gb162) _ ⟨hHeld,(zk BK158),(zk BK159),(zk BK162),GW162.out,GE162.out,NB158_162.out,NB162_158.out,NB159_162.out,NB162_159.out,zB⟩)
       ·skip
        refine box_step ?hg (N:=6) ?hd (cs:=#[.int .i64 0]) (t:=3) ?hr ?_;(case hd=>rfl);(case hg=>rfl);(case hr=>first|(go_simp;done)|(go_simp;rfl))
        intro gb163 hg w12 hbox hb
        have BK163:=zA (hbox)
        have GW163:=zA ((zG hg (below_size zB):w.heap.size≤gb163))
        have GE163:=zA ((zG hg (below_size zB):w.heap.size≤gb163))
        have NB158_163:=zA ((zl hg (zk BK158):gb158≠gb163))
        have NB163_158:=zA ((zg hg (zk BK158):gb163≠gb158))
        have NB159_163:=zA ((zl hg (zk BK159):gb159≠gb163))
        have NB163_159:=zA ((zg hg (zk BK159):gb163≠gb159))
        have NB162_163:=zA ((zl hg (zk BK162):gb162≠gb163))
        have NB163_162:=zA ((zg hg (zk BK162):gb163≠gb162))
        replace BK158:=zw BK158 hb
        replace BK159:=zw BK159 hb
        replace BK162:=zw BK162 hb
        replace HB:=zu hb
        clear hb hbox hg
        refine hK.out _ _ ⟨(blk_cell BK159.out 0).trans rfl,(blk_cell BK159.out 1).trans rfl,(blk_cell BK158.out 0).trans rfl,(blk_cell BK158.out 1).trans rfl⟩ (fun hHeld=>?_)
        clear hK K
        refine norm_ (a':=?_) ?_ ?_
        rotate_left
        ·show Act.put _ (some 6) _=_
         simp only [Act.put,zi,zs,zt,i64_w,i32_w]
         rfl
        exact norm_ (by first|(simp only [putAll,Act.put,zi,zs,zt];done)|(simp only [putAll,Act.put,zi,zs,zt];rfl)) (hJ3_8_9 (gb162,gb163) _ ⟨hHeld,(zk BK158),(zk BK159),(zk BK162),(zk BK163),GW162.out,GE162.out,NB158_162.out,NB162_158.out,NB159_162.out,NB162_159.out,NB163_162.out,NB162_163.out,GW163.out,GE163.out,NB158_163.out,NB163_158.out,NB159_163.out,NB163_159.out,zB⟩)
     ·skip
      rintro _ w11 ⟨hS_,h0_,h1_,h2_⟩
      replace BK158:Aside0 (w11.heap[gb158]?=some (.cells #[.int .i64 a0_0,.int .i64 a0_1] 83 (0,0))):=⟨h0_⟩
      replace BK159:Aside0 (w11.heap[gb159]?=some (.cells #[.slice A1_0 l1_0.length c1_0,.slice A1_1 l1_1.length c1_1] 50 (0,0))):=⟨h1_⟩
      replace HB:Aside0 (Below w.heap.size w w11):=⟨h2_⟩
      clear h0_ h1_ h2_
      have hHeld:w11.cell? ⟨gb159,0,none⟩=some (.slice A1_0 l1_0.length c1_0)∧w11.cell? ⟨gb159,1,none⟩=some (.slice A1_1 l1_1.length c1_1)∧w11.cell? ⟨gb158,0,none⟩=some (.int .i64 a0_0)∧w11.cell? ⟨gb158,1,none⟩=some (.int .i64 a0_1):=hS_
      refine norm_ (a':=?_) ?_ ?_
      rotate_left
      ·simp only [putAll,Act.put,zi,zs,zt]
       rfl
      refine two_ (i:=8) (j:=9) (Ni:=some 5) (Nj:=some 6) (bz 12 511) (bz 12 767) rfl rfl rfl rfl (two_of HT_.out zK) (by decide) (by decide) (fun K hK=>?_) (fun K hK=>?_)
      ·skip
       refine box_step ?hg (N:=5) ?hd (cs:=#[.int .i64 0]) (t:=3) ?hr ?_;(case hd=>rfl);(case hg=>rfl);(case hr=>first|(go_simp;done)|(go_simp;rfl))
       intro gb162 hg w12 hbox hb
       have BK162:=zA (hbox)
       have GW162:=zA ((zG hg (below_size zB):w.heap.size≤gb162))
       have GE162:=zA ((zG hg (below_size zB):w.heap.size≤gb162))
       have NB158_162:=zA ((zl hg (zk BK158):gb158≠gb162))
       have NB162_158:=zA ((zg hg (zk BK158):gb162≠gb158))
       have NB159_162:=zA ((zl hg (zk BK159):gb159≠gb162))
       have NB162_159:=zA ((zg hg (zk BK159):gb162≠gb159))
       replace BK158:=zw BK158 hb
       replace BK159:=zw BK159 hb
       replace HB:=zu hb
       clear hb hbox hg
       refine hK.out _ _ ⟨(blk_cell BK159.out 0).trans rfl,(blk_cell BK159.out 1).trans rfl,(blk_cell BK158.out 0).trans rfl,(blk_cell BK158.out 1).trans rfl⟩ (fun hHeld=>?_)
       clear hK K
       refine norm_ (a':=?_) ?_ ?_
       rotate_left
       ·show Act.put _ (some 5) _=_
        simp only [Act.put,zi,zs,zt,i64_w,i32_w]
        rfl
       exact norm_ (by first|(simp only [putAll,Act.put,zi,zs,zt];done)|(simp only [putAll,Act.put,zi,zs,zt];rfl)) (hJ3_7_8 (gb162) _ ⟨hHeld,(zk BK158),(zk BK159),(zk BK162),GW162.out,GE162.out,NB158_162.out,NB162_158.out,NB159_162.out,NB162_159.out,zB⟩)
      ·skip
       refine box_step ?hg (N:=6) ?hd (cs:=#[.int .i64 0]) (t:=3) ?hr ?_;(case hd=>rfl);(case hg=>rfl);(case hr=>first|(go_simp;done)|(go_simp;rfl))
       intro gb163 hg w12 hbox hb
       have BK163:=zA (hbox)
       have GW163:=zA ((zG hg (below_size zB):w.heap.size≤gb163))
       have GE163:=zA ((zG hg (below_size zB):w.heap.size≤gb163))
       have NB158_163:=zA ((zl hg (zk BK158):gb158≠gb163))
       have NB163_158:=zA ((zg hg (zk BK158):gb163≠gb158))
       have NB159_163:=zA ((zl hg (zk BK159):gb159≠gb163))
       have NB163_159:=zA ((zg hg (zk BK159):gb163≠gb159))
       replace BK158:=zw BK158 hb
       replace BK159:=zw BK159 hb
       replace HB:=zu hb
       clear hb hbox hg
       refine hK.out _ _ ⟨(blk_cell BK159.out 0).trans rfl,(blk_cell BK159.out 1).trans rfl,(blk_cell BK158.out 0).trans rfl,(blk_cell BK158.out 1).trans rfl⟩ (fun hHeld=>?_)
       clear hK K
       refine norm_ (a':=?_) ?_ ?_
       rotate_left
       ·show Act.put _ (some 6) _=_
        simp only [Act.put,zi,zs,zt,i64_w,i32_w]
        rfl
       exact norm_ (by first|(simp only [putAll,Act.put,zi,zs,zt];done)|(simp only [putAll,Act.put,zi,zs,zt];rfl)) (hJ3_7_9 (gb163) _ ⟨hHeld,(zk BK158),(zk BK159),(zk BK163),GW163.out,GE163.out,NB158_163.out,NB163_158.out,NB159_163.out,NB163_159.out,zB⟩)
    ·skip
     rintro ⟨gb162,gb163⟩ w12 ⟨hS_,h0_,h1_,h2_,h3_,h4_,h5_,h6_,h7_,h8_,h9_,h10_,h11_,h12_,h13_,h14_,h15_,h16_,h17_,h18_⟩
     have BK162:Aside0 (w12.heap[gb162]?=some (.cells #[.int .i64 0] 3 (0,0))):=⟨h2_⟩
     have BK163:Aside0 (w12.heap[gb163]?=some (.cells #[.int .i64 0] 3 (0,0))):=⟨h3_⟩
     have GW162:Aside0 (w.heap.size≤gb162):=⟨h4_⟩
     have GE162:Aside0 (w.heap.size≤gb162):=⟨h5_⟩
     have NB158_162:Aside0 (gb158≠gb162):=⟨h6_⟩
     have NB162_158:Aside0 (gb162≠gb158):=⟨h7_⟩
     have NB159_162:Aside0 (gb159≠gb162):=⟨h8_⟩
     have NB162_159:Aside0 (gb162≠gb159):=⟨h9_⟩
     have NB163_162:Aside0 (gb163≠gb162):=⟨h10_⟩
     have NB162_163:Aside0 (gb162≠gb163):=⟨h11_⟩
     have GW163:Aside0 (w.heap.size≤gb163):=⟨h12_⟩
     have GE163:Aside0 (w.heap.size≤gb163):=⟨h13_⟩
     have NB158_163:Aside0 (gb158≠gb163):=⟨h14_⟩
     have NB163_158:Aside0 (gb163≠gb158):=⟨h15_⟩
     have NB159_163:Aside0 (gb159≠gb163):=⟨h16_⟩
     have NB163_159:Aside0 (gb163≠gb159):=⟨h17_⟩
     replace BK158:Aside0 (w12.heap[gb158]?=some (.cells #[.int .i64 a0_0,.int .i64 a0_1] 83 (0,0))):=⟨h0_⟩
     replace BK159:Aside0 (w12.heap[gb159]?=some (.cells #[.slice A1_0 l1_0.length c1_0,.slice A1_1 l1_1.length c1_1] 50 (0,0))):=⟨h1_⟩
     replace HB:Aside0 (Below w.heap.size w w12):=⟨h18_⟩
     clear h0_ h1_ h2_ h3_ h4_ h5_ h6_ h7_ h8_ h9_ h10_ h11_ h12_ h13_ h14_ h15_ h16_ h17_ h18_
     have hHeld:w12.cell? ⟨gb159,0,none⟩=some (.slice A1_0 l1_0.length c1_0)∧w12.cell? ⟨gb159,1,none⟩=some (.slice A1_1 l1_1.length c1_1)∧w12.cell? ⟨gb158,0,none⟩=some (.int .i64 a0_0)∧w12.cell? ⟨gb158,1,none⟩=some (.int .i64 a0_1):=hS_
     refine norm_ (a':=?_) ?_ ?_
     rotate_left
     ·simp only [putAll,Act.put,zi,zs,zt]
      rfl
     refine one_ (i:=7) (N:=some 14) (bz 12 1023) rfl rfl (one_of HT_.out zK) (by decide) (fun K hK=>?_)
     refine goes_ Try.func117 zK rfl #[.agg #[.slice A1_0 l1_0.length c1_0,.slice A1_1 l1_1.length c1_1],.int .i64 a0_1] (by rfl) rfl rfl zM ?_
     with_reducible refine (solve_row.calls k _ _ l1_0 _ _ l1_1 a0_1 t161 _ ?side1 ?side2 ?side3 ?side4 A4.out).mono ?_
     (case side1=>exact zC (Kd.C_below HR1_0.out HB.out))
     (case side2=>exact HC1_0.out)
     (case side3=>exact zC (Kd.C_below HR1_1.out HB.out))
     (case side4=>exact HC1_1.out)
     rintro e w13 ⟨rfl,hb⟩
     refine ⟨_,rfl,?_⟩
     replace BK158:=zw BK158 hb
     replace BK159:=zw BK159 hb
     replace BK162:=zw BK162 hb
     replace BK163:=zw BK163 hb
     replace HB:=zu hb
     (try clear hb)
     (try clear hb2)
     (try clear hk)
     (try clear hi)
     refine hK.out _ _ ⟨(blk_cell BK159.out 0).trans rfl,(blk_cell BK159.out 1).trans rfl,(blk_cell BK158.out 0).trans rfl,(blk_cell BK158.out 1).trans rfl⟩ (fun hHeld=>?_)
     clear hK K
     refine norm_ (a':=?_) ?_ ?_
     rotate_left
     ·show Act.put _ (some 14) _=_
      simp only [Act.put,zi,zs,zt,i64_w,i32_w]
      rfl
     exact norm_ (by first|(simp only [putAll,Act.put,zi,zs,zt];done)|(simp only [putAll,Act.put,zi,zs,zt];rfl)) (hJ3_7_8_9 (gb162,gb163) _ ⟨hHeld,(zk BK158),(zk BK159),(zk BK162),(zk BK163),GW162.out,GE162.out,NB158_162.out,NB162_158.out,NB159_162.out,NB162_159.out,NB163_162.out,NB162_163.out,GW163.out,GE163.out,NB158_163.out,NB163_158.out,NB159_163.out,NB163_159.out,zB⟩)
   ·skip
    rintro gb163 w12 ⟨hS_,h0_,h1_,h2_,h3_,h4_,h5_,h6_,h7_,h8_,h9_⟩
    have BK163:Aside0 (w12.heap[gb163]?=some (.cells #[.int .i64 0] 3 (0,0))):=⟨h2_⟩
    have GW163:Aside0 (w.heap.size≤gb163):=⟨h3_⟩
    have GE163:Aside0 (w.heap.size≤gb163):=⟨h4_⟩
    have NB158_163:Aside0 (gb158≠gb163):=⟨h5_⟩
    have NB163_158:Aside0 (gb163≠gb158):=⟨h6_⟩
    have NB159_163:Aside0 (gb159≠gb163):=⟨h7_⟩
    have NB163_159:Aside0 (gb163≠gb159):=⟨h8_⟩
    replace BK158:Aside0 (w12.heap[gb158]?=some (.cells #[.int .i64 a0_0,.int .i64 a0_1] 83 (0,0))):=⟨h0_⟩
    replace BK159:Aside0 (w12.heap[gb159]?=some (.cells #[.slice A1_0 l1_0.length c1_0,.slice A1_1 l1_1.length c1_1] 50 (0,0))):=⟨h1_⟩
    replace HB:Aside0 (Below w.heap.size w w12):=⟨h9_⟩
    clear h0_ h1_ h2_ h3_ h4_ h5_ h6_ h7_ h8_ h9_
    have hHeld:w12.cell? ⟨gb159,0,none⟩=some (.slice A1_0 l1_0.length c1_0)∧w12.cell? ⟨gb159,1,none⟩=some (.slice A1_1 l1_1.length c1_1)∧w12.cell? ⟨gb158,0,none⟩=some (.int .i64 a0_0)∧w12.cell? ⟨gb158,1,none⟩=some (.int .i64 a0_1):=hS_
    refine norm_ (a':=?_) ?_ ?_
    rotate_left
    ·simp only [putAll,Act.put,zi,zs,zt]
     rfl
    refine one_ (i:=8) (N:=some 5) (bz 12 1023) rfl rfl (one_of HT_.out zK) (by decide) (fun K hK=>?_)
    refine box_step ?hg (N:=5) ?hd (cs:=#[.int .i64 0]) (t:=3) ?hr ?_;(case hd=>rfl);(case hg=>rfl);(case hr=>first|(go_simp;done)|(go_simp;rfl))
    intro gb162 hg w13 hbox hb
    have BK162:=zA (hbox)
    have GW162:=zA ((zG hg (below_size zB):w.heap.size≤gb162))
    have GE162:=zA ((zG hg (below_size zB):w.heap.size≤gb162))
    have NB158_162:=zA ((zl hg (zk BK158):gb158≠gb162))
    have NB162_158:=zA ((zg hg (zk BK158):gb162≠gb158))
    have NB159_162:=zA ((zl hg (zk BK159):gb159≠gb162))
    have NB162_159:=zA ((zg hg (zk BK159):gb162≠gb159))
    have NB163_162:=zA ((zl hg (zk BK163):gb163≠gb162))
    have NB162_163:=zA ((zg hg (zk BK163):gb162≠gb163))
    replace BK158:=zw BK158 hb
    replace BK159:=zw BK159 hb
    replace BK163:=zw BK163 hb
    replace HB:=zu hb
    clear hb hbox hg
    refine hK.out _ _ ⟨(blk_cell BK159.out 0).trans rfl,(blk_cell BK159.out 1).trans rfl,(blk_cell BK158.out 0).trans rfl,(blk_cell BK158.out 1).trans rfl⟩ (fun hHeld=>?_)
    clear hK K
    refine norm_ (a':=?_) ?_ ?_
    rotate_left
    ·show Act.put _ (some 5) _=_
     simp only [Act.put,zi,zs,zt,i64_w,i32_w]
     rfl
    exact norm_ (by first|(simp only [putAll,Act.put,zi,zs,zt];done)|(simp only [putAll,Act.put,zi,zs,zt];rfl)) (hJ3_7_8_9 (gb162,gb163) _ ⟨hHeld,(zk BK158),(zk BK159),(zk BK162),(zk BK163),GW162.out,GE162.out,NB158_162.out,NB162_158.out,NB159_162.out,NB162_159.out,NB163_162.out,NB162_163.out,GW163.out,GE163.out,NB158_163.out,NB163_158.out,NB159_163.out,NB163_159.out,zB⟩)
  ·skip
   rintro gb162 w12 ⟨hS_,h0_,h1_,h2_,h3_,h4_,h5_,h6_,h7_,h8_,h9_⟩
   have BK162:Aside0 (w12.heap[gb162]?=some (.cells #[.int .i64 0] 3 (0,0))):=⟨h2_⟩
   have GW162:Aside0 (w.heap.size≤gb162):=⟨h3_⟩
   have GE162:Aside0 (w.heap.size≤gb162):=⟨h4_⟩
   have NB158_162:Aside0 (gb158≠gb162):=⟨h5_⟩
   have NB162_158:Aside0 (gb162≠gb158):=⟨h6_⟩
   have NB159_162:Aside0 (gb159≠gb162):=⟨h7_⟩
   have NB162_159:Aside0 (gb162≠gb159):=⟨h8_⟩
   replace BK158:Aside0 (w12.heap[gb158]?=some (.cells #[.int .i64 a0_0,.int .i64 a0_1] 83 (0,0))):=⟨h0_⟩
   replace BK159:Aside0 (w12.heap[gb159]?=some (.cells #[.slice A1_0 l1_0.length c1_0,.slice A1_1 l1_1.length c1_1] 50 (0,0))):=⟨h1_⟩
   replace HB:Aside0 (Below w.heap.size w w12):=⟨h9_⟩
   clear h0_ h1_ h2_ h3_ h4_ h5_ h6_ h7_ h8_ h9_
   have hHeld:w12.cell? ⟨gb159,0,none⟩=some (.slice A1_0 l1_0.length c1_0)∧w12.cell? ⟨gb159,1,none⟩=some (.slice A1_1 l1_1.length c1_1)∧w12.cell? ⟨gb158,0,none⟩=some (.int .i64 a0_0)∧w12.cell? ⟨gb158,1,none⟩=some (.int .i64 a0_1):=hS_
   refine norm_ (a':=?_) ?_ ?_
   rotate_left
   ·simp only [putAll,Act.put,zi,zs,zt]
    rfl
   refine one_ (i:=9) (N:=some 6) (bz 12 1023) rfl rfl (one_of HT_.out zK) (by decide) (fun K hK=>?_)
   refine box_step ?hg (N:=6) ?hd (cs:=#[.int .i64 0]) (t:=3) ?hr ?_;(case hd=>rfl);(case hg=>rfl);(case hr=>first|(go_simp;done)|(go_simp;rfl))
   intro gb163 hg w13 hbox hb
   have BK163:=zA (hbox)
   have GW163:=zA ((zG hg (below_size zB):w.heap.size≤gb163))
   have GE163:=zA ((zG hg (below_size zB):w.heap.size≤gb163))
   have NB158_163:=zA ((zl hg (zk BK158):gb158≠gb163))
   have NB163_158:=zA ((zg hg (zk BK158):gb163≠gb158))
   have NB159_163:=zA ((zl hg (zk BK159):gb159≠gb163))
   have NB163_159:=zA ((zg hg (zk BK159):gb163≠gb159))
   have NB162_163:=zA ((zl hg (zk BK162):gb162≠gb163))
   have NB163_162:=zA ((zg hg (zk BK162):gb163≠gb162))
   replace BK158:=zw BK158 hb
   replace BK159:=zw BK159 hb
   replace BK162:=zw BK162 hb
   replace HB:=zu hb
   clear hb hbox hg
   refine hK.out _ _ ⟨(blk_cell BK159.out 0).trans rfl,(blk_cell BK159.out 1).trans rfl,(blk_cell BK158.out 0).trans rfl,(blk_cell BK158.out 1).trans rfl⟩ (fun hHeld=>?_)
   clear hK K
   refine norm_ (a':=?_) ?_ ?_
   rotate_left
   ·show Act.put _ (some 6) _=_
    simp only [Act.put,zi,zs,zt,i64_w,i32_w]
    rfl
   exact norm_ (by first|(simp only [putAll,Act.put,zi,zs,zt];done)|(simp only [putAll,Act.put,zi,zs,zt];rfl)) (hJ3_7_8_9 (gb162,gb163) _ ⟨hHeld,(zk BK158),(zk BK159),(zk BK162),(zk BK163),GW162.out,GE162.out,NB158_162.out,NB162_158.out,NB159_162.out,NB162_159.out,NB163_162.out,NB162_163.out,GW163.out,GE163.out,NB158_163.out,NB163_158.out,NB159_163.out,NB163_159.out,zB⟩)
 rintro ⟨gb162,gb163⟩ w13 ⟨hS_,h0_,h1_,h2_,h3_,h4_,h5_,h6_,h7_,h8_,h9_,h10_,h11_,h12_,h13_,h14_,h15_,h16_,h17_,h18_⟩
 have BK162:Aside0 (w13.heap[gb162]?=some (.cells #[.int .i64 0] 3 (0,0))):=⟨h2_⟩
 have BK163:Aside0 (w13.heap[gb163]?=some (.cells #[.int .i64 0] 3 (0,0))):=⟨h3_⟩
 have GW162:Aside0 (w.heap.size≤gb162):=⟨h4_⟩
 have GE162:Aside0 (w.heap.size≤gb162):=⟨h5_⟩
 have NB158_162:Aside0 (gb158≠gb162):=⟨h6_⟩
 have NB162_158:Aside0 (gb162≠gb158):=⟨h7_⟩
 have NB159_162:Aside0 (gb159≠gb162):=⟨h8_⟩
 have NB162_159:Aside0 (gb162≠gb159):=⟨h9_⟩
 have NB163_162:Aside0 (gb163≠gb162):=⟨h10_⟩
 have NB162_163:Aside0 (gb162≠gb163):=⟨h11_⟩
 have GW163:Aside0 (w.heap.size≤gb163):=⟨h12_⟩
 have GE163:Aside0 (w.heap.size≤gb163):=⟨h13_⟩
 have NB158_163:Aside0 (gb158≠gb163):=⟨h14_⟩
 have NB163_158:Aside0 (gb163≠gb158):=⟨h15_⟩
 have NB159_163:Aside0 (gb159≠gb163):=⟨h16_⟩
 have NB163_159:Aside0 (gb163≠gb159):=⟨h17_⟩
 replace BK158:Aside0 (w13.heap[gb158]?=some (.cells #[.int .i64 a0_0,.int .i64 a0_1] 83 (0,0))):=⟨h0_⟩
 replace BK159:Aside0 (w13.heap[gb159]?=some (.cells #[.slice A1_0 l1_0.length c1_0,.slice A1_1 l1_1.length c1_1] 50 (0,0))):=⟨h1_⟩
 replace HB:Aside0 (Below w.heap.size w w13):=⟨h18_⟩
 clear h0_ h1_ h2_ h3_ h4_ h5_ h6_ h7_ h8_ h9_ h10_ h11_ h12_ h13_ h14_ h15_ h16_ h17_ h18_
 have hHeld:w13.cell? ⟨gb159,0,none⟩=some (.slice A1_0 l1_0.length c1_0)∧w13.cell? ⟨gb159,1,none⟩=some (.slice A1_1 l1_1.length c1_1)∧w13.cell? ⟨gb158,0,none⟩=some (.int .i64 a0_0)∧w13.cell? ⟨gb158,1,none⟩=some (.int .i64 a0_1):=hS_
 refine norm_ (a':=?_) ?_ ?_
 rotate_left
 ·simp only [putAll,Act.put,zi,zs,zt]
  rfl
 refine one_ (i:=10) (N:=none) (bz 12 2047) rfl rfl (one_of HT_.out zK) (by decide) (fun K hK=>?_)
 have hs14:w13.cell? ⟨gb162,0,none⟩=some (.int .i64 0):=(blk_cell BK162.out 0).trans rfl
 have hfs14:=zf BK162 0
 have hns14_0:=NB158_162.out
 have hns14_1:=NB159_162.out
 have hns14_3:=NB163_162.out
 have hms14_0:=NB162_158.out
 have hms14_1:=NB162_159.out
 have hms14_3:=NB162_163.out
 refine skip_ (w1:=?_) (by rfl) rfl ?_ ?_
 rotate_left
 ·go_simp
  rfl
 refine hK.out _ _ ⟨((cell_far (p:=⟨gb162,_,none⟩) NB159_162.out _).trans (hHeld.1)),((cell_far (p:=⟨gb162,_,none⟩) NB159_162.out _).trans (hHeld.2.1)),((cell_far (p:=⟨gb162,_,none⟩) NB158_162.out _).trans (hHeld.2.2.1)),((cell_far (p:=⟨gb162,_,none⟩) NB158_162.out _).trans (hHeld.2.2.2))⟩ (fun hHeld=>?_)
 clear hK K
 refine one_ (i:=11) (N:=none) (bz 12 4095) rfl rfl (one_of HT_.out zK) (by decide) (fun K hK=>?_)
 have hs15:w13.cell? ⟨gb163,0,none⟩=some (.int .i64 0):=(blk_cell BK163.out 0).trans rfl
 have hfs15:=zf BK163 0
 have hns15_0:=NB158_163.out
 have hns15_1:=NB159_163.out
 have hns15_2:=NB162_163.out
 have hms15_0:=NB163_158.out
 have hms15_1:=NB163_159.out
 have hms15_2:=NB163_162.out
 refine skip_ (w1:=?_) (by rfl) rfl ?_ ?_
 rotate_left
 ·go_simp
  rfl
 refine hK.out _ _ ⟨((cell_far (p:=⟨gb163,_,none⟩) NB159_163.out _).trans (hHeld.1)),((cell_far (p:=⟨gb163,_,none⟩) NB159_163.out _).trans (hHeld.2.1)),((cell_far (p:=⟨gb163,_,none⟩) NB158_163.out _).trans (hHeld.2.2.1)),((cell_far (p:=⟨gb163,_,none⟩) NB158_163.out _).trans (hHeld.2.2.2))⟩ (fun hHeld=>?_)
 clear hK K
 refine done_ (done_of HT_.out zK) ?_
 have hnb16:=NB159_158.out
 have hnc16:=NB158_159.out
 have hnb17:=NB159_162.out
 have hnc17:=NB162_159.out
 have hnb18:=NB159_163.out
 have hnc18:=NB163_159.out
 have hcz19_0:=zc0 BK159
 have hcz19_1:=zc1 BK159
 have hfz19_0:=zf BK159 0
 have hfz19_1:=zf BK159 1
 try go_wp2_with (first|((with_reducible refine gate_callee (f:=88) rfl ?_);refine goesL_ (some 18) rfl rfl Try.func88 zK rfl #[.slice A1_1 l1_1.length c1_1,.func (.func 118) #[] #[.pointer (some ⟨gb162,0,none⟩),.pointer (some ⟨gb163,0,none⟩)]] rfl zM ?_;(with_reducible refine (slices_ContainsFunc_int_int_solve_choices_fails_1.calls k _ _ l1_1 gb162 gb163 t160 t161 t164 _ ?side1 HC1_1.out ?side3 ?side4 A5.out).mono ?_);(case side1=>exact Kd.C_below HR1_1.out zB);(case side3=>refine zj ?_;refine blk_far ?_ NB162_163.out _;refine zj ?_;refine blk_put (cs:=#[.int .i64 0]) ?_ 0 _ rfl;refine zj ?_;exact BK162.out);(case side4=>refine zj ?_;refine blk_put (cs:=#[.int .i64 0]) ?_ 0 _ rfl;refine zj ?_;refine blk_far ?_ NB163_162.out _;refine zj ?_;exact BK163.out);rintro e w20 ⟨rfl,hb⟩;refine ⟨_,rfl,?_⟩;replace BK158:=zA (blk_below (g:=gb158) (o:=.cells #[.int .i64 a0_0,.int .i64 a0_1] 83 (0,0)) (by refine zj ?_;refine blk_far ?_ NB158_163.out _;refine zj ?_;refine blk_far ?_ NB158_162.out _;refine zj ?_;exact BK158.out) hb);replace BK159:=zA (blk_below (g:=gb159) (o:=.cells #[.slice A1_0 l1_0.length c1_0,.slice A1_1 l1_1.length c1_1] 50 (0,0)) (by refine zj ?_;refine blk_far ?_ NB159_163.out _;refine zj ?_;refine blk_far ?_ NB159_162.out _;refine zj ?_;exact BK159.out) hb);replace BK162:=zA (blk_below (g:=gb162) (o:=.cells #[.int .i64 t160] 3 (0,0)) (by refine zj ?_;refine blk_far ?_ NB162_163.out _;refine zj ?_;refine blk_put (cs:=#[.int .i64 0]) ?_ 0 _ rfl;refine zj ?_;exact BK162.out) hb);replace BK163:=zA (blk_below (g:=gb163) (o:=.cells #[.int .i64 t161] 3 (0,0)) (by refine zj ?_;refine blk_put (cs:=#[.int .i64 0]) ?_ 0 _ rfl;refine zj ?_;refine blk_far ?_ NB163_162.out _;refine zj ?_;exact BK163.out) hb);replace HB:=zu hb;clear hb))
 go_ret
 exact ⟨ze,by repeat (first|(with_reducible first|exact HB.out|apply below_alloc|apply pw_below_drewN|apply below_drew1|refine below_set ?_ GE158.out|refine below_set ?_ GE159.out|refine below_set ?_ GE162.out|refine below_set ?_ GE163.out)|exact HB.out)⟩
end Go.Proofs.Ytkjghablbeaioaa.G
