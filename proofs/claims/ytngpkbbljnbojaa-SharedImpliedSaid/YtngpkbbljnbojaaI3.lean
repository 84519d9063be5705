import Derived.Test.YtngpkbbljnbojaaI0
import Derived.Test.YtngpkbbljnbojaaI2
namespace Go.Proofs.Ytngpkbbljnbojaa.I
open Go.RowKit Go.Proofs.YtngpkbbljnbojaaW.PrintWords Go.Proofs.YtngpkbbljnbojaaW.PrintLast Go.Proofs.YtngpkbbljnbojaaW.PrintMore
attribute [local go_sem] max2_int min2_int max_two min_two max_three min_three max_four min_four
set_option linter.unusedVariables false
set_option linter.unusedSimpArgs false
def solve_choices_fails.f (k:Nat) (a0_0:Int) (a0_1:Int) (l1_0:List Int) (l1_1:List Int):Option (Bool):=(solve_row.f k l1_0 l1_1 a0_0).bind fun t25=>((solve_row.f k l1_0 l1_1 a0_1).bind fun t26=>((slices_ContainsFunc_int_int_solve_choices_fails_1.f k l1_1 t25 t26).bind fun t27=>(some (!t27))))
theorem solve_choices_fails.mono:∀ a0 a1 a2 a3 k,LeO (solve_choices_fails.f k a0 a1 a2 a3) (solve_choices_fails.f (k+1) a0 a1 a2 a3):=by
 intro a0 a1 a2 a3 k
 unfold solve_choices_fails.f
 repeat' first
   | (with_reducible exact slices_ContainsFunc_int_int_solve_choices_fails_1.mono _ _ _ _)
   | (with_reducible exact solve_row.mono _ _ _ _)
   | (with_reducible exact LeO.refl _)
   | (with_reducible exact LeO.none _)
   | (with_reducible refine LeO.ite ?_ ?_)
   | (with_reducible refine LeO.bind ?_ (fun _=>?_))
   | exact LeO.none _
   | refine LeO.ite ?_ ?_
   | refine LeO.bind ?_ (fun _=>?_)
def solve_choices_fails.T1:Bool×List (List Nat×List Nat):=(true,[([],[]),([],[]),([1],[1]),([0,2],[0,2]),([],[]),([],[]),([5],[5]),([4,6,3],[4,6]),([],[]),([],[]),([8,3,7,0,1,2,3,8,9],[3,8]),([9,7,10,0,1,2,3,4,5,6,7,8,9,10],[7,9])])
def solve_choices_fails.B1:List Nat:=[0,0,2,7,0,0,32,127,0,0,1023,2047]
theorem solve_choices_fails.tab1:rtab .any (opsOf Try.f85 1)=solve_choices_fails.T1:=by kernel_rfl
theorem solve_choices_fails.bits1:waitsOk solve_choices_fails.T1.2 solve_choices_fails.B1=true:=by kernel_rfl
set_option maxHeartbeats 8000000 in
set_option maxRecDepth 100000 in
theorem solve_choices_fails.calls (k:Nat) (a0_0:Int) (a0_1:Int) (A1_0:Option Addr) (c1_0:Nat) (l1_0:List Int) (A1_1:Option Addr) (c1_1:Nat) (l1_1:List Int) (r:Bool) (w:World) (hr1_0:Kd.C (Kd.int .i64) w A1_0 l1_0.length l1_0) (hc1_0:l1_0.length≤c1_0) (hr1_1:Kd.C (Kd.int .i64) w A1_1 l1_1.length l1_1) (hc1_1:l1_1.length≤c1_1) (h:solve_choices_fails.f k a0_0 a0_1 l1_0 l1_1=some r) :
  Calls Try.prog 85 #[.agg #[.int .i64 a0_0,.int .i64 a0_1],.agg #[.slice A1_0 l1_0.length c1_0,.slice A1_1 l1_1.length c1_1]] w fun e w'=>e=.returned (.bool r)∧Below w.heap.size w w':=by
 have hu96:=Try.underlying96;have hu34:=Try.underlying34;have hu3:=Try.underlying3;have hu29:=Try.underlying29;have HR1_0:=zA hr1_0;have HC1_0:=zA hc1_0;clear hr1_0 hc1_0;have HR1_1:=zA hr1_1;have HC1_1:=zA hc1_1;clear hr1_1 hc1_1;have HB:=zA (Below.refl w.heap.size w);have H:((solve_row.f k l1_0 l1_1 a0_0).bind fun t25=>((solve_row.f k l1_0 l1_1 a0_1).bind fun t26=>((slices_ContainsFunc_int_int_solve_choices_fails_1.f k l1_1 t25 t26).bind fun t27=>(some (!t27)))))=some r:=h;clear h;replace H:=Option.bind_eq_some_iff.mp H;obtain ⟨t25,A30,H⟩:=H;replace H:((solve_row.f k l1_0 l1_1 a0_1).bind fun t26=>((slices_ContainsFunc_int_int_solve_choices_fails_1.f k l1_1 t25 t26).bind fun t27=>(some (!t27))))=some r:=H;have A3:=zA A30;clear A30;replace H:=Option.bind_eq_some_iff.mp H;obtain ⟨t26,A40,H⟩:=H;replace H:((slices_ContainsFunc_int_int_solve_choices_fails_1.f k l1_1 t25 t26).bind fun t27=>(some (!t27)))=some r:=H;have A4:=zA A40;clear A40;replace H:=Option.bind_eq_some_iff.mp H;obtain ⟨t27,A50,H⟩:=H;replace H:(some (!t27))=some r:=H;have A5:=zA A50;clear A50;obtain rfl:=Option.some.inj H
 go_enter Try.func85,Try.ntmps85
 try go_wp2_with (first|((with_reducible refine gate_dst (N:=2) rfl ?_);refine box_event ?hg (N:=2) ?hd (cs:=#[.int .i64 a0_0,.int .i64 a0_1]) (t:=96) ?hr ?_;(case hd=>rfl);(case hg=>rfl);(case hr=>first|(go_simp;done)|(go_simp;rfl));intro gb22 hg w6 hbox hb;have BK22:=zA (hbox);have GW22:=zA (zG hg (below_size zB):w.heap.size≤gb22);have GE22:=GW22;replace HB:=zA (below_step zB hb);clear hb hbox hg)|((with_reducible refine gate_dst (N:=3) rfl ?_);refine box_event ?hg (N:=3) ?hd (cs:=#[.slice A1_0 l1_0.length c1_0,.slice A1_1 l1_1.length c1_1]) (t:=34) ?hr ?_;(case hd=>rfl);(case hg=>rfl);(case hr=>first|(go_simp;done)|(go_simp;rfl));intro gb21 hg w7 hbox hb;have BK21:=zA (hbox);have GW21:=zA (zG hg (below_size zB):w.heap.size≤gb21);have GE21:=GW21;have NB22_21:=zA ((zl hg (zk BK22):gb22≠gb21));have NB21_22:=zA ((zg hg (zk BK22):gb21≠gb22));replace BK22:=zA (zb BK22 hb);replace HB:=zA (below_step zB hb);clear hb hbox hg))
 replace BK22:=zA (blk_drew BK22.out);replace BK21:=zA (blk_drew BK21.out);replace HB:=zA (below_drew1 HB.out);refine start_ (n:=12) (S:=fun w'=>w'.cell? ⟨gb21,0,none⟩=some (.slice A1_0 l1_0.length c1_0)∧w'.cell? ⟨gb21,1,none⟩=some (.slice A1_1 l1_1.length c1_1)∧w'.cell? ⟨gb22,0,none⟩=some (.int .i64 a0_0)∧w'.cell? ⟨gb22,1,none⟩=some (.int .i64 a0_1)) (ds:=[]) #[false,false,false,false,false,false,false,false,false,false,false,false] zK rfl rfl ⟨(blk_cell BK21.out 0).trans rfl,(blk_cell BK21.out 1).trans rfl,(blk_cell BK22.out 0).trans rfl,(blk_cell BK22.out 1).trans rfl⟩ (fun hHeld=>?_);refine with_tabW solve_choices_fails.tab1 solve_choices_fails.bits1 (fun HT_ HW_=>?_)
 generalize w7.drew=w8 at BK22 BK21 HB hHeld ⊢
 refine pure_ (i:=1) (N:=some 8) (v:=?_) (a':=?_) #[false,true,false,false,false,false,false,false,false,false,false,false] rfl rfl (any_of HT_.out zK) (fun _ _ _ h=>h) (Or.inl ⟨by rfl,?_⟩) ?_ ?_;rotate_left
 ·intro w'
  go_simp
  with_reducible rfl
 rotate_left
 ·simp only [Act.put,zi,zs,zt,i64_w,i32_w];rfl
 refine pure_ (i:=5) (N:=some 12) (v:=?_) (a':=?_) #[false,true,false,false,false,true,false,false,false,false,false,false] rfl rfl (any_of HT_.out zK) (fun _ _ _ h=>h) (Or.inl ⟨by rfl,?_⟩) ?_ ?_;rotate_left
 ·intro w'
  go_simp
  with_reducible rfl
 rotate_left
 ·simp only [Act.put,zi,zs,zt,i64_w,i32_w];rfl
 refine take_ (i:=0) (N:=some 7) (v:=?_) (a':=?_) #[true,true,false,false,false,true,false,false,false,false,false,false] rfl rfl (take_ofW HT_.out HW_.out zK) (fun _ _ _ h=>h) (Or.inl ⟨by rfl,?_⟩) hHeld ?_ ?_;rotate_left
 ·rintro w' ⟨s0,s1,s2,s3⟩
  go_simp
  with_reducible rfl
 rotate_left
 ·simp only [Act.put,zi,zs,zt,i64_w,i32_w];rfl
 refine take_ (i:=2) (N:=some 9) (v:=?_) (a':=?_) #[true,true,true,false,false,true,false,false,false,false,false,false] rfl rfl (take_ofW HT_.out HW_.out zK) (fun _ _ _ h=>h) (Or.inl ⟨by rfl,?_⟩) hHeld ?_ ?_;rotate_left
 ·rintro w' ⟨s0,s1,s2,s3⟩
  go_simp
  with_reducible rfl
 rotate_left
 ·simp only [Act.put,zi,zs,zt,i64_w,i32_w];rfl
 refine take_ (i:=4) (N:=some 11) (v:=?_) (a':=?_) #[true,true,true,false,true,true,false,false,false,false,false,false] rfl rfl (take_ofW HT_.out HW_.out zK) (fun _ _ _ h=>h) (Or.inl ⟨by rfl,?_⟩) hHeld ?_ ?_;rotate_left
 ·rintro w' ⟨s0,s1,s2,s3⟩
  go_simp
  with_reducible rfl
 rotate_left
 ·simp only [Act.put,zi,zs,zt,i64_w,i32_w];rfl
 refine take_ (i:=6) (N:=some 13) (v:=?_) (a':=?_) #[true,true,true,false,true,true,true,false,false,false,false,false] rfl rfl (take_ofW HT_.out HW_.out zK) (fun _ _ _ h=>h) (Or.inl ⟨by rfl,?_⟩) hHeld ?_ ?_;rotate_left
 ·rintro w' ⟨s0,s1,s2,s3⟩
  go_simp
  with_reducible rfl
 rotate_left
 ·simp only [Act.put,zi,zs,zt,i64_w,i32_w];rfl
 refine join_ (σ:=Nat×Nat) 2 #[true,true,true,true,true,true,true,true,true,true,false,false] (fun s_=>[(10,.int .i64 t25),(14,.int .i64 t26),(5,.pointer (some ⟨s_.1,0,none⟩)),(6,.pointer (some ⟨s_.2,0,none⟩))]) (fun s_ w'=>(w'.cell? ⟨gb21,0,none⟩=some (.slice A1_0 l1_0.length c1_0)∧w'.cell? ⟨gb21,1,none⟩=some (.slice A1_1 l1_1.length c1_1)∧w'.cell? ⟨gb22,0,none⟩=some (.int .i64 a0_0)∧w'.cell? ⟨gb22,1,none⟩=some (.int .i64 a0_1))∧(w'.heap[gb22]?=some (.cells #[.int .i64 a0_0,.int .i64 a0_1] 96 (0,0)))∧(w'.heap[gb21]?=some (.cells #[.slice A1_0 l1_0.length c1_0,.slice A1_1 l1_1.length c1_1] 34 (0,0)))∧(w'.heap[s_.1]?=some (.cells #[.int .i64 0] 3 (0,0)))∧(w'.heap[s_.2]?=some (.cells #[.int .i64 0] 3 (0,0)))∧(w.heap.size≤s_.1)∧(w.heap.size≤s_.1)∧(gb22≠s_.1)∧(s_.1≠gb22)∧(gb21≠s_.1)∧(s_.1≠gb21)∧(s_.2≠s_.1)∧(s_.1≠s_.2)∧(w.heap.size≤s_.2)∧(w.heap.size≤s_.2)∧(gb22≠s_.2)∧(s_.2≠gb22)∧(gb21≠s_.2)∧(s_.2≠gb21)∧(Below w.heap.size w w')) ?_ ?_;rotate_left
 ·intro hJ3_7_8_9;refine join_ (σ:=Nat) 3 #[true,true,true,true,true,true,true,true,true,false,false,false] (fun s_=>[(10,.int .i64 t25),(14,.int .i64 t26),(5,.pointer (some ⟨s_,0,none⟩))]) (fun s_ w'=>(w'.cell? ⟨gb21,0,none⟩=some (.slice A1_0 l1_0.length c1_0)∧w'.cell? ⟨gb21,1,none⟩=some (.slice A1_1 l1_1.length c1_1)∧w'.cell? ⟨gb22,0,none⟩=some (.int .i64 a0_0)∧w'.cell? ⟨gb22,1,none⟩=some (.int .i64 a0_1))∧(w'.heap[gb22]?=some (.cells #[.int .i64 a0_0,.int .i64 a0_1] 96 (0,0)))∧(w'.heap[gb21]?=some (.cells #[.slice A1_0 l1_0.length c1_0,.slice A1_1 l1_1.length c1_1] 34 (0,0)))∧(w'.heap[s_]?=some (.cells #[.int .i64 0] 3 (0,0)))∧(w.heap.size≤s_)∧(w.heap.size≤s_)∧(gb22≠s_)∧(s_≠gb22)∧(gb21≠s_)∧(s_≠gb21)∧(Below w.heap.size w w')) ?_ ?_;rotate_left
  ·intro hJ3_7_8;refine join_ (σ:=Nat) 3 #[true,true,true,true,true,true,true,true,false,true,false,false] (fun s_=>[(10,.int .i64 t25),(14,.int .i64 t26),(6,.pointer (some ⟨s_,0,none⟩))]) (fun s_ w'=>(w'.cell? ⟨gb21,0,none⟩=some (.slice A1_0 l1_0.length c1_0)∧w'.cell? ⟨gb21,1,none⟩=some (.slice A1_1 l1_1.length c1_1)∧w'.cell? ⟨gb22,0,none⟩=some (.int .i64 a0_0)∧w'.cell? ⟨gb22,1,none⟩=some (.int .i64 a0_1))∧(w'.heap[gb22]?=some (.cells #[.int .i64 a0_0,.int .i64 a0_1] 96 (0,0)))∧(w'.heap[gb21]?=some (.cells #[.slice A1_0 l1_0.length c1_0,.slice A1_1 l1_1.length c1_1] 34 (0,0)))∧(w'.heap[s_]?=some (.cells #[.int .i64 0] 3 (0,0)))∧(w.heap.size≤s_)∧(w.heap.size≤s_)∧(gb22≠s_)∧(s_≠gb22)∧(gb21≠s_)∧(s_≠gb21)∧(Below w.heap.size w w')) ?_ ?_;rotate_left
   ·intro hJ3_7_9;refine join_ (σ:=Nat×Nat) 3 #[true,true,true,true,true,true,true,false,true,true,false,false] (fun s_=>[(10,.int .i64 t25),(5,.pointer (some ⟨s_.1,0,none⟩)),(6,.pointer (some ⟨s_.2,0,none⟩))]) (fun s_ w'=>(w'.cell? ⟨gb21,0,none⟩=some (.slice A1_0 l1_0.length c1_0)∧w'.cell? ⟨gb21,1,none⟩=some (.slice A1_1 l1_1.length c1_1)∧w'.cell? ⟨gb22,0,none⟩=some (.int .i64 a0_0)∧w'.cell? ⟨gb22,1,none⟩=some (.int .i64 a0_1))∧(w'.heap[gb22]?=some (.cells #[.int .i64 a0_0,.int .i64 a0_1] 96 (0,0)))∧(w'.heap[gb21]?=some (.cells #[.slice A1_0 l1_0.length c1_0,.slice A1_1 l1_1.length c1_1] 34 (0,0)))∧(w'.heap[s_.1]?=some (.cells #[.int .i64 0] 3 (0,0)))∧(w'.heap[s_.2]?=some (.cells #[.int .i64 0] 3 (0,0)))∧(w.heap.size≤s_.1)∧(w.heap.size≤s_.1)∧(gb22≠s_.1)∧(s_.1≠gb22)∧(gb21≠s_.1)∧(s_.1≠gb21)∧(s_.2≠s_.1)∧(s_.1≠s_.2)∧(w.heap.size≤s_.2)∧(w.heap.size≤s_.2)∧(gb22≠s_.2)∧(s_.2≠gb22)∧(gb21≠s_.2)∧(s_.2≠gb21)∧(Below w.heap.size w w')) ?_ ?_;rotate_left
    ·intro hJ3_8_9;refine join_ (σ:=Unit) 4 #[true,true,true,true,true,true,true,true,false,false,false,false] (fun s_=>[(10,.int .i64 t25),(14,.int .i64 t26)]) (fun s_ w'=>(w'.cell? ⟨gb21,0,none⟩=some (.slice A1_0 l1_0.length c1_0)∧w'.cell? ⟨gb21,1,none⟩=some (.slice A1_1 l1_1.length c1_1)∧w'.cell? ⟨gb22,0,none⟩=some (.int .i64 a0_0)∧w'.cell? ⟨gb22,1,none⟩=some (.int .i64 a0_1))∧(w'.heap[gb22]?=some (.cells #[.int .i64 a0_0,.int .i64 a0_1] 96 (0,0)))∧(w'.heap[gb21]?=some (.cells #[.slice A1_0 l1_0.length c1_0,.slice A1_1 l1_1.length c1_1] 34 (0,0)))∧(Below w.heap.size w w')) ?_ ?_;rotate_left
     ·intro hJ3_7;refine join_ (σ:=Nat) 4 #[true,true,true,true,true,true,true,false,true,false,false,false] (fun s_=>[(10,.int .i64 t25),(5,.pointer (some ⟨s_,0,none⟩))]) (fun s_ w'=>(w'.cell? ⟨gb21,0,none⟩=some (.slice A1_0 l1_0.length c1_0)∧w'.cell? ⟨gb21,1,none⟩=some (.slice A1_1 l1_1.length c1_1)∧w'.cell? ⟨gb22,0,none⟩=some (.int .i64 a0_0)∧w'.cell? ⟨gb22,1,none⟩=some (.int .i64 a0_1))∧(w'.heap[gb22]?=some (.cells #[.int .i64 a0_0,.int .i64 a0_1] 96 (0,0)))∧(w'.heap[gb21]?=some (.cells #[.slice A1_0 l1_0.length c1_0,.slice A1_1 l1_1.length c1_1] 34 (0,0)))∧(w'.heap[s_]?=some (.cells #[.int .i64 0] 3 (0,0)))∧(w.heap.size≤s_)∧(w.heap.size≤s_)∧(gb22≠s_)∧(s_≠gb22)∧(gb21≠s_)∧(s_≠gb21)∧(Below w.heap.size w w')) ?_ ?_;rotate_left
      ·intro hJ3_8;refine join_ (σ:=Nat) 4 #[true,true,true,true,true,true,true,false,false,true,false,false] (fun s_=>[(10,.int .i64 t25),(6,.pointer (some ⟨s_,0,none⟩))]) (fun s_ w'=>(w'.cell? ⟨gb21,0,none⟩=some (.slice A1_0 l1_0.length c1_0)∧w'.cell? ⟨gb21,1,none⟩=some (.slice A1_1 l1_1.length c1_1)∧w'.cell? ⟨gb22,0,none⟩=some (.int .i64 a0_0)∧w'.cell? ⟨gb22,1,none⟩=some (.int .i64 a0_1))∧(w'.heap[gb22]?=some (.cells #[.int .i64 a0_0,.int .i64 a0_1] 96 (0,0)))∧(w'.heap[gb21]?=some (.cells #[.slice A1_0 l1_0.length c1_0,.slice A1_1 l1_1.length c1_1] 34 (0,0)))∧(w'.heap[s_]?=some (.cells #[.int .i64 0] 3 (0,0)))∧(w.heap.size≤s_)∧(w.heap.size≤s_)∧(gb22≠s_)∧(s_≠gb22)∧(gb21≠s_)∧(s_≠gb21)∧(Below w.heap.size w w')) ?_ ?_;rotate_left
       ·intro hJ3_9;refine join_ (σ:=Nat×Nat) 4 #[true,true,true,false,true,true,true,false,true,true,false,false] (fun s_=>[(5,.pointer (some ⟨s_.1,0,none⟩)),(6,.pointer (some ⟨s_.2,0,none⟩))]) (fun s_ w'=>(w'.cell? ⟨gb21,0,none⟩=some (.slice A1_0 l1_0.length c1_0)∧w'.cell? ⟨gb21,1,none⟩=some (.slice A1_1 l1_1.length c1_1)∧w'.cell? ⟨gb22,0,none⟩=some (.int .i64 a0_0)∧w'.cell? ⟨gb22,1,none⟩=some (.int .i64 a0_1))∧(w'.heap[gb22]?=some (.cells #[.int .i64 a0_0,.int .i64 a0_1] 96 (0,0)))∧(w'.heap[gb21]?=some (.cells #[.slice A1_0 l1_0.length c1_0,.slice A1_1 l1_1.length c1_1] 34 (0,0)))∧(w'.heap[s_.1]?=some (.cells #[.int .i64 0] 3 (0,0)))∧(w'.heap[s_.2]?=some (.cells #[.int .i64 0] 3 (0,0)))∧(w.heap.size≤s_.1)∧(w.heap.size≤s_.1)∧(gb22≠s_.1)∧(s_.1≠gb22)∧(gb21≠s_.1)∧(s_.1≠gb21)∧(s_.2≠s_.1)∧(s_.1≠s_.2)∧(w.heap.size≤s_.2)∧(w.heap.size≤s_.2)∧(gb22≠s_.2)∧(s_.2≠gb22)∧(gb21≠s_.2)∧(s_.2≠gb21)∧(Below w.heap.size w w')) ?_ ?_;rotate_left
        ·intro hJ8_9;refine join_ (σ:=Unit) 5 #[true,true,true,true,true,true,true,false,false,false,false,false] (fun s_=>[(10,.int .i64 t25)]) (fun s_ w'=>(w'.cell? ⟨gb21,0,none⟩=some (.slice A1_0 l1_0.length c1_0)∧w'.cell? ⟨gb21,1,none⟩=some (.slice A1_1 l1_1.length c1_1)∧w'.cell? ⟨gb22,0,none⟩=some (.int .i64 a0_0)∧w'.cell? ⟨gb22,1,none⟩=some (.int .i64 a0_1))∧(w'.heap[gb22]?=some (.cells #[.int .i64 a0_0,.int .i64 a0_1] 96 (0,0)))∧(w'.heap[gb21]?=some (.cells #[.slice A1_0 l1_0.length c1_0,.slice A1_1 l1_1.length c1_1] 34 (0,0)))∧(Below w.heap.size w w')) ?_ ?_;rotate_left
         ·intro hJ3;refine join_ (σ:=Nat) 5 #[true,true,true,false,true,true,true,false,true,false,false,false] (fun s_=>[(5,.pointer (some ⟨s_,0,none⟩))]) (fun s_ w'=>(w'.cell? ⟨gb21,0,none⟩=some (.slice A1_0 l1_0.length c1_0)∧w'.cell? ⟨gb21,1,none⟩=some (.slice A1_1 l1_1.length c1_1)∧w'.cell? ⟨gb22,0,none⟩=some (.int .i64 a0_0)∧w'.cell? ⟨gb22,1,none⟩=some (.int .i64 a0_1))∧(w'.heap[gb22]?=some (.cells #[.int .i64 a0_0,.int .i64 a0_1] 96 (0,0)))∧(w'.heap[gb21]?=some (.cells #[.slice A1_0 l1_0.length c1_0,.slice A1_1 l1_1.length c1_1] 34 (0,0)))∧(w'.heap[s_]?=some (.cells #[.int .i64 0] 3 (0,0)))∧(w.heap.size≤s_)∧(w.heap.size≤s_)∧(gb22≠s_)∧(s_≠gb22)∧(gb21≠s_)∧(s_≠gb21)∧(Below w.heap.size w w')) ?_ ?_;rotate_left
          ·intro hJ8;refine join_ (σ:=Nat) 5 #[true,true,true,false,true,true,true,false,false,true,false,false] (fun s_=>[(6,.pointer (some ⟨s_,0,none⟩))]) (fun s_ w'=>(w'.cell? ⟨gb21,0,none⟩=some (.slice A1_0 l1_0.length c1_0)∧w'.cell? ⟨gb21,1,none⟩=some (.slice A1_1 l1_1.length c1_1)∧w'.cell? ⟨gb22,0,none⟩=some (.int .i64 a0_0)∧w'.cell? ⟨gb22,1,none⟩=some (.int .i64 a0_1))∧(w'.heap[gb22]?=some (.cells #[.int .i64 a0_0,.int .i64 a0_1] 96 (0,0)))∧(w'.heap[gb21]?=some (.cells #[.slice A1_0 l1_0.length c1_0,.slice A1_1 l1_1.length c1_1] 34 (0,0)))∧(w'.heap[s_]?=some (.cells #[.int .i64 0] 3 (0,0)))∧(w.heap.size≤s_)∧(w.heap.size≤s_)∧(gb22≠s_)∧(s_≠gb22)∧(gb21≠s_)∧(s_≠gb21)∧(Below w.heap.size w w')) ?_ ?_;rotate_left
           ·intro hJ9;refine three_ (i:=3) (j:=8) (k:=9) (Ni:=some 10) (Nj:=some 5) (Nk:=some 6) #[true,true,true,true,true,true,true,false,false,false,false,false] #[true,true,true,false,true,true,true,false,true,false,false,false] #[true,true,true,false,true,true,true,false,false,true,false,false] rfl rfl rfl rfl rfl rfl (three_of HT_.out zK) (by decide) (by decide) (by decide) (fun K hK=>?_) (fun K hK=>?_) (fun K hK=>?_)
            ·skip;refine goes_ Try.func76 zK rfl #[.agg #[.slice A1_0 l1_0.length c1_0,.slice A1_1 l1_1.length c1_1],.int .i64 a0_0] (by rfl) rfl rfl zM ?_
             with_reducible refine (solve_row.calls k _ _ l1_0 _ _ l1_1 a0_0 t25 _ ?side1 ?side2 ?side3 ?side4 A3.out).mono ?_
             (case side1=>exact zC (Kd.C_below HR1_0.out HB.out));(case side2=>exact HC1_0.out);(case side3=>exact zC (Kd.C_below HR1_1.out HB.out));(case side4=>exact HC1_1.out);rintro e w9 ⟨rfl,hb⟩;refine ⟨_,rfl,?_⟩;replace BK22:=zA (zb BK22 hb);replace BK21:=zA (zb BK21 hb);replace HB:=zA (below_step zB hb);(try clear hb);(try clear hb2);(try clear hk);(try clear hi);refine hK.out _ _ ⟨(blk_cell BK21.out 0).trans rfl,(blk_cell BK21.out 1).trans rfl,(blk_cell BK22.out 0).trans rfl,(blk_cell BK22.out 1).trans rfl⟩ (fun hHeld=>?_);clear hK K;refine norm_ (a':=?_) ?_ ?_;rotate_left
             ·show Act.put _ (some 10) _=_
              simp only [Act.put,zi,zs,zt,i64_w,i32_w];rfl
             exact norm_ (by first|(simp only [putAll,Act.put,zi,zs,zt];done)|(simp only [putAll,Act.put,zi,zs,zt];rfl)) (hJ3 () _ ⟨hHeld,(zk BK22),(zk BK21),zB⟩)
            ·skip;refine box_step ?hg (N:=5) ?hd (cs:=#[.int .i64 0]) (t:=3) ?hr ?_;(case hd=>rfl);(case hg=>rfl);(case hr=>first|(go_simp;done)|(go_simp;rfl));intro gb23 hg w9 hbox hb;have BK23:=zA (hbox);have GW23:=zA ((zG hg (below_size zB):w.heap.size≤gb23));have GE23:=zA ((zG hg (below_size zB):w.heap.size≤gb23));have NB22_23:=zA ((zl hg (zk BK22):gb22≠gb23));have NB23_22:=zA ((zg hg (zk BK22):gb23≠gb22));have NB21_23:=zA ((zl hg (zk BK21):gb21≠gb23));have NB23_21:=zA ((zg hg (zk BK21):gb23≠gb21));replace BK22:=zA (zb BK22 hb);replace BK21:=zA (zb BK21 hb);replace HB:=zA (below_step zB hb);clear hb hbox hg;refine hK.out _ _ ⟨(blk_cell BK21.out 0).trans rfl,(blk_cell BK21.out 1).trans rfl,(blk_cell BK22.out 0).trans rfl,(blk_cell BK22.out 1).trans rfl⟩ (fun hHeld=>?_);clear hK K;refine norm_ (a':=?_) ?_ ?_;rotate_left
             ·show Act.put _ (some 5) _=_
              simp only [Act.put,zi,zs,zt,i64_w,i32_w];rfl
             exact norm_ (by first|(simp only [putAll,Act.put,zi,zs,zt];done)|(simp only [putAll,Act.put,zi,zs,zt];rfl)) (hJ8 (gb23) _ ⟨hHeld,(zk BK22),(zk BK21),(zk BK23),GW23.out,GE23.out,NB22_23.out,NB23_22.out,NB21_23.out,NB23_21.out,zB⟩)
            ·skip;refine box_step ?hg (N:=6) ?hd (cs:=#[.int .i64 0]) (t:=3) ?hr ?_;(case hd=>rfl);(case hg=>rfl);(case hr=>first|(go_simp;done)|(go_simp;rfl));intro gb24 hg w9 hbox hb;have BK24:=zA (hbox);have GW24:=zA ((zG hg (below_size zB):w.heap.size≤gb24));have GE24:=zA ((zG hg (below_size zB):w.heap.size≤gb24));have NB22_24:=zA ((zl hg (zk BK22):gb22≠gb24));have NB24_22:=zA ((zg hg (zk BK22):gb24≠gb22));have NB21_24:=zA ((zl hg (zk BK21):gb21≠gb24));have NB24_21:=zA ((zg hg (zk BK21):gb24≠gb21));replace BK22:=zA (zb BK22 hb);replace BK21:=zA (zb BK21 hb);replace HB:=zA (below_step zB hb);clear hb hbox hg;refine hK.out _ _ ⟨(blk_cell BK21.out 0).trans rfl,(blk_cell BK21.out 1).trans rfl,(blk_cell BK22.out 0).trans rfl,(blk_cell BK22.out 1).trans rfl⟩ (fun hHeld=>?_);clear hK K;refine norm_ (a':=?_) ?_ ?_;rotate_left
             ·show Act.put _ (some 6) _=_
              simp only [Act.put,zi,zs,zt,i64_w,i32_w];rfl
             exact norm_ (by first|(simp only [putAll,Act.put,zi,zs,zt];done)|(simp only [putAll,Act.put,zi,zs,zt];rfl)) (hJ9 (gb24) _ ⟨hHeld,(zk BK22),(zk BK21),(zk BK24),GW24.out,GE24.out,NB22_24.out,NB24_22.out,NB21_24.out,NB24_21.out,zB⟩)
           ·skip;rintro gb24 w10 ⟨hS_,h0_,h1_,h2_,h3_,h4_,h5_,h6_,h7_,h8_,h9_⟩
            have BK24:Aside0 (w10.heap[gb24]?=some (.cells #[.int .i64 0] 3 (0,0))):=⟨h2_⟩
            have GW24:Aside0 (w.heap.size≤gb24):=⟨h3_⟩
            have GE24:Aside0 (w.heap.size≤gb24):=⟨h4_⟩
            have NB22_24:Aside0 (gb22≠gb24):=⟨h5_⟩
            have NB24_22:Aside0 (gb24≠gb22):=⟨h6_⟩
            have NB21_24:Aside0 (gb21≠gb24):=⟨h7_⟩
            have NB24_21:Aside0 (gb24≠gb21):=⟨h8_⟩
            replace BK22:Aside0 (w10.heap[gb22]?=some (.cells #[.int .i64 a0_0,.int .i64 a0_1] 96 (0,0))):=⟨h0_⟩
            replace BK21:Aside0 (w10.heap[gb21]?=some (.cells #[.slice A1_0 l1_0.length c1_0,.slice A1_1 l1_1.length c1_1] 34 (0,0))):=⟨h1_⟩
            replace HB:Aside0 (Below w.heap.size w w10):=⟨h9_⟩
            clear h0_ h1_ h2_ h3_ h4_ h5_ h6_ h7_ h8_ h9_;have hHeld:w10.cell? ⟨gb21,0,none⟩=some (.slice A1_0 l1_0.length c1_0)∧w10.cell? ⟨gb21,1,none⟩=some (.slice A1_1 l1_1.length c1_1)∧w10.cell? ⟨gb22,0,none⟩=some (.int .i64 a0_0)∧w10.cell? ⟨gb22,1,none⟩=some (.int .i64 a0_1):=hS_;refine norm_ (a':=?_) ?_ ?_;rotate_left
            ·simp only [putAll,Act.put,zi,zs,zt];rfl
            refine two_ (i:=3) (j:=8) (Ni:=some 10) (Nj:=some 5) #[true,true,true,true,true,true,true,false,false,true,false,false] #[true,true,true,false,true,true,true,false,true,true,false,false] rfl rfl rfl rfl (two_of HT_.out zK) (by decide) (by decide) (fun K hK=>?_) (fun K hK=>?_)
            ·skip;refine goes_ Try.func76 zK rfl #[.agg #[.slice A1_0 l1_0.length c1_0,.slice A1_1 l1_1.length c1_1],.int .i64 a0_0] (by rfl) rfl rfl zM ?_
             with_reducible refine (solve_row.calls k _ _ l1_0 _ _ l1_1 a0_0 t25 _ ?side1 ?side2 ?side3 ?side4 A3.out).mono ?_
             (case side1=>exact zC (Kd.C_below HR1_0.out HB.out));(case side2=>exact HC1_0.out);(case side3=>exact zC (Kd.C_below HR1_1.out HB.out));(case side4=>exact HC1_1.out);rintro e w11 ⟨rfl,hb⟩;refine ⟨_,rfl,?_⟩;replace BK22:=zA (zb BK22 hb);replace BK21:=zA (zb BK21 hb);replace BK24:=zA (zb BK24 hb);replace HB:=zA (below_step zB hb);(try clear hb);(try clear hb2);(try clear hk);(try clear hi);refine hK.out _ _ ⟨(blk_cell BK21.out 0).trans rfl,(blk_cell BK21.out 1).trans rfl,(blk_cell BK22.out 0).trans rfl,(blk_cell BK22.out 1).trans rfl⟩ (fun hHeld=>?_);clear hK K;refine norm_ (a':=?_) ?_ ?_;rotate_left
             ·show Act.put _ (some 10) _=_
              simp only [Act.put,zi,zs,zt,i64_w,i32_w];rfl
             exact norm_ (by first|(simp only [putAll,Act.put,zi,zs,zt];done)|(simp only [putAll,Act.put,zi,zs,zt];rfl)) (hJ3_9 (gb24) _ ⟨hHeld,(zk BK22),(zk BK21),(zk BK24),GW24.out,GE24.out,NB22_24.out,NB24_22.out,NB21_24.out,NB24_21.out,zB⟩)
            ·skip;refine box_step ?hg (N:=5) ?hd (cs:=#[.int .i64 0]) (t:=3) ?hr ?_;(case hd=>rfl);(case hg=>rfl);(case hr=>first|(go_simp;done)|(go_simp;rfl));intro gb23 hg w11 hbox hb;have BK23:=zA (hbox);have GW23:=zA ((zG hg (below_size zB):w.heap.size≤gb23));have GE23:=zA ((zG hg (below_size zB):w.heap.size≤gb23));have NB22_23:=zA ((zl hg (zk BK22):gb22≠gb23));have NB23_22:=zA ((zg hg (zk BK22):gb23≠gb22));have NB21_23:=zA ((zl hg (zk BK21):gb21≠gb23));have NB23_21:=zA ((zg hg (zk BK21):gb23≠gb21));have NB24_23:=zA ((zl hg (zk BK24):gb24≠gb23));have NB23_24:=zA ((zg hg (zk BK24):gb23≠gb24));replace BK22:=zA (zb BK22 hb);replace BK21:=zA (zb BK21 hb);replace BK24:=zA (zb BK24 hb);replace HB:=zA (below_step zB hb);clear hb hbox hg;refine hK.out _ _ ⟨(blk_cell BK21.out 0).trans rfl,(blk_cell BK21.out 1).trans rfl,(blk_cell BK22.out 0).trans rfl,(blk_cell BK22.out 1).trans rfl⟩ (fun hHeld=>?_);clear hK K;refine norm_ (a':=?_) ?_ ?_;rotate_left
             ·show Act.put _ (some 5) _=_
              simp only [Act.put,zi,zs,zt,i64_w,i32_w];rfl
             exact norm_ (by first|(simp only [putAll,Act.put,zi,zs,zt];done)|(simp only [putAll,Act.put,zi,zs,zt];rfl)) (hJ8_9 (gb23,gb24) _ ⟨hHeld,(zk BK22),(zk BK21),(zk BK23),(zk BK24),GW23.out,GE23.out,NB22_23.out,NB23_22.out,NB21_23.out,NB23_21.out,NB24_23.out,NB23_24.out,GW24.out,GE24.out,NB22_24.out,NB24_22.out,NB21_24.out,NB24_21.out,zB⟩)
          ·skip;rintro gb23 w10 ⟨hS_,h0_,h1_,h2_,h3_,h4_,h5_,h6_,h7_,h8_,h9_⟩
           have BK23:Aside0 (w10.heap[gb23]?=some (.cells #[.int .i64 0] 3 (0,0))):=⟨h2_⟩
           have GW23:Aside0 (w.heap.size≤gb23):=⟨h3_⟩
           have GE23:Aside0 (w.heap.size≤gb23):=⟨h4_⟩
           have NB22_23:Aside0 (gb22≠gb23):=⟨h5_⟩
           have NB23_22:Aside0 (gb23≠gb22):=⟨h6_⟩
           have NB21_23:Aside0 (gb21≠gb23):=⟨h7_⟩
           have NB23_21:Aside0 (gb23≠gb21):=⟨h8_⟩
           replace BK22:Aside0 (w10.heap[gb22]?=some (.cells #[.int .i64 a0_0,.int .i64 a0_1] 96 (0,0))):=⟨h0_⟩
           replace BK21:Aside0 (w10.heap[gb21]?=some (.cells #[.slice A1_0 l1_0.length c1_0,.slice A1_1 l1_1.length c1_1] 34 (0,0))):=⟨h1_⟩
           replace HB:Aside0 (Below w.heap.size w w10):=⟨h9_⟩
           clear h0_ h1_ h2_ h3_ h4_ h5_ h6_ h7_ h8_ h9_;have hHeld:w10.cell? ⟨gb21,0,none⟩=some (.slice A1_0 l1_0.length c1_0)∧w10.cell? ⟨gb21,1,none⟩=some (.slice A1_1 l1_1.length c1_1)∧w10.cell? ⟨gb22,0,none⟩=some (.int .i64 a0_0)∧w10.cell? ⟨gb22,1,none⟩=some (.int .i64 a0_1):=hS_;refine norm_ (a':=?_) ?_ ?_;rotate_left
           ·simp only [putAll,Act.put,zi,zs,zt];rfl
           refine two_ (i:=3) (j:=9) (Ni:=some 10) (Nj:=some 6) #[true,true,true,true,true,true,true,false,true,false,false,false] #[true,true,true,false,true,true,true,false,true,true,false,false] rfl rfl rfl rfl (two_of HT_.out zK) (by decide) (by decide) (fun K hK=>?_) (fun K hK=>?_)
           ·skip;refine goes_ Try.func76 zK rfl #[.agg #[.slice A1_0 l1_0.length c1_0,.slice A1_1 l1_1.length c1_1],.int .i64 a0_0] (by rfl) rfl rfl zM ?_
            with_reducible refine (solve_row.calls k _ _ l1_0 _ _ l1_1 a0_0 t25 _ ?side1 ?side2 ?side3 ?side4 A3.out).mono ?_
            (case side1=>exact zC (Kd.C_below HR1_0.out HB.out));(case side2=>exact HC1_0.out);(case side3=>exact zC (Kd.C_below HR1_1.out HB.out));(case side4=>exact HC1_1.out);rintro e w11 ⟨rfl,hb⟩;refine ⟨_,rfl,?_⟩;replace BK22:=zA (zb BK22 hb);replace BK21:=zA (zb BK21 hb);replace BK23:=zA (zb BK23 hb);replace HB:=zA (below_step zB hb);(try clear hb);(try clear hb2);(try clear hk);(try clear hi);refine hK.out _ _ ⟨(blk_cell BK21.out 0).trans rfl,(blk_cell BK21.out 1).trans rfl,(blk_cell BK22.out 0).trans rfl,(blk_cell BK22.out 1).trans rfl⟩ (fun hHeld=>?_);clear hK K;refine norm_ (a':=?_) ?_ ?_;rotate_left
            ·show Act.put _ (some 10) _=_
             simp only [Act.put,zi,zs,zt,i64_w,i32_w];rfl
            exact norm_ (by first|(simp only [putAll,Act.put,zi,zs,zt];done)|(simp only [putAll,Act.put,zi,zs,zt];rfl)) (hJ3_8 (gb23) _ ⟨hHeld,(zk BK22),(zk BK21),(zk BK23),GW23.out,GE23.out,NB22_23.out,NB23_22.out,NB21_23.out,NB23_21.out,zB⟩)
           ·skip;refine box_step ?hg (N:=6) ?hd (cs:=#[.int .i64 0]) (t:=3) ?hr ?_;(case hd=>rfl);(case hg=>rfl);(case hr=>first|(go_simp;done)|(go_simp;rfl));intro gb24 hg w11 hbox hb;have BK24:=zA (hbox);have GW24:=zA ((zG hg (below_size zB):w.heap.size≤gb24));have GE24:=zA ((zG hg (below_size zB):w.heap.size≤gb24));have NB22_24:=zA ((zl hg (zk BK22):gb22≠gb24));have NB24_22:=zA ((zg hg (zk BK22):gb24≠gb22));have NB21_24:=zA ((zl hg (zk BK21):gb21≠gb24));have NB24_21:=zA ((zg hg (zk BK21):gb24≠gb21));have NB23_24:=zA ((zl hg (zk BK23):gb23≠gb24));have NB24_23:=zA ((zg hg (zk BK23):gb24≠gb23));replace BK22:=zA (zb BK22 hb);replace BK21:=zA (zb BK21 hb);replace BK23:=zA (zb BK23 hb);replace HB:=zA (below_step zB hb);clear hb hbox hg;refine hK.out _ _ ⟨(blk_cell BK21.out 0).trans rfl,(blk_cell BK21.out 1).trans rfl,(blk_cell BK22.out 0).trans rfl,(blk_cell BK22.out 1).trans rfl⟩ (fun hHeld=>?_);clear hK K;refine norm_ (a':=?_) ?_ ?_;rotate_left
            ·show Act.put _ (some 6) _=_
             simp only [Act.put,zi,zs,zt,i64_w,i32_w];rfl
            exact norm_ (by first|(simp only [putAll,Act.put,zi,zs,zt];done)|(simp only [putAll,Act.put,zi,zs,zt];rfl)) (hJ8_9 (gb23,gb24) _ ⟨hHeld,(zk BK22),(zk BK21),(zk BK23),(zk BK24),GW23.out,GE23.out,NB22_23.out,NB23_22.out,NB21_23.out,NB23_21.out,NB24_23.out,NB23_24.out,GW24.out,GE24.out,NB22_24.out,NB24_22.out,NB21_24.out,NB24_21.out,zB⟩)
         ·skip;rintro _ w10 ⟨hS_,h0_,h1_,h2_⟩
          replace BK22:Aside0 (w10.heap[gb22]?=some (.cells #[.int .i64 a0_0,.int .i64 a0_1] 96 (0,0))):=⟨h0_⟩
          replace BK21:Aside0 (w10.heap[gb21]?=some (.cells #[.slice A1_0 l1_0.length c1_0,.slice A1_1 l1_1.length c1_1] 34 (0,0))):=⟨h1_⟩
          replace HB:Aside0 (Below w.heap.size w w10):=⟨h2_⟩
          clear h0_ h1_ h2_;have hHeld:w10.cell? ⟨gb21,0,none⟩=some (.slice A1_0 l1_0.length c1_0)∧w10.cell? ⟨gb21,1,none⟩=some (.slice A1_1 l1_1.length c1_1)∧w10.cell? ⟨gb22,0,none⟩=some (.int .i64 a0_0)∧w10.cell? ⟨gb22,1,none⟩=some (.int .i64 a0_1):=hS_;refine norm_ (a':=?_) ?_ ?_;rotate_left
          ·simp only [putAll,Act.put,zi,zs,zt];rfl
          refine three_ (i:=7) (j:=8) (k:=9) (Ni:=some 14) (Nj:=some 5) (Nk:=some 6) #[true,true,true,true,true,true,true,true,false,false,false,false] #[true,true,true,true,true,true,true,false,true,false,false,false] #[true,true,true,true,true,true,true,false,false,true,false,false] rfl rfl rfl rfl rfl rfl (three_of HT_.out zK) (by decide) (by decide) (by decide) (fun K hK=>?_) (fun K hK=>?_) (fun K hK=>?_)
          ·skip;refine goes_ Try.func76 zK rfl #[.agg #[.slice A1_0 l1_0.length c1_0,.slice A1_1 l1_1.length c1_1],.int .i64 a0_1] (by rfl) rfl rfl zM ?_
           with_reducible refine (solve_row.calls k _ _ l1_0 _ _ l1_1 a0_1 t26 _ ?side1 ?side2 ?side3 ?side4 A4.out).mono ?_
           (case side1=>exact zC (Kd.C_below HR1_0.out HB.out));(case side2=>exact HC1_0.out);(case side3=>exact zC (Kd.C_below HR1_1.out HB.out));(case side4=>exact HC1_1.out);rintro e w11 ⟨rfl,hb⟩;refine ⟨_,rfl,?_⟩;replace BK22:=zA (zb BK22 hb);replace BK21:=zA (zb BK21 hb);replace HB:=zA (below_step zB hb);(try clear hb);(try clear hb2);(try clear hk);(try clear hi);refine hK.out _ _ ⟨(blk_cell BK21.out 0).trans rfl,(blk_cell BK21.out 1).trans rfl,(blk_cell BK22.out 0).trans rfl,(blk_cell BK22.out 1).trans rfl⟩ (fun hHeld=>?_);clear hK K;refine norm_ (a':=?_) ?_ ?_;rotate_left
           ·show Act.put _ (some 14) _=_
            simp only [Act.put,zi,zs,zt,i64_w,i32_w];rfl
           exact norm_ (by first|(simp only [putAll,Act.put,zi,zs,zt];done)|(simp only [putAll,Act.put,zi,zs,zt];rfl)) (hJ3_7 () _ ⟨hHeld,(zk BK22),(zk BK21),zB⟩)
          ·skip;refine box_step ?hg (N:=5) ?hd (cs:=#[.int .i64 0]) (t:=3) ?hr ?_;(case hd=>rfl);(case hg=>rfl);(case hr=>first|(go_simp;done)|(go_simp;rfl));intro gb23 hg w11 hbox hb;have BK23:=zA (hbox);have GW23:=zA ((zG hg (below_size zB):w.heap.size≤gb23));have GE23:=zA ((zG hg (below_size zB):w.heap.size≤gb23));have NB22_23:=zA ((zl hg (zk BK22):gb22≠gb23));have NB23_22:=zA ((zg hg (zk BK22):gb23≠gb22));have NB21_23:=zA ((zl hg (zk BK21):gb21≠gb23));have NB23_21:=zA ((zg hg (zk BK21):gb23≠gb21));replace BK22:=zA (zb BK22 hb);replace BK21:=zA (zb BK21 hb);replace HB:=zA (below_step zB hb);clear hb hbox hg;refine hK.out _ _ ⟨(blk_cell BK21.out 0).trans rfl,(blk_cell BK21.out 1).trans rfl,(blk_cell BK22.out 0).trans rfl,(blk_cell BK22.out 1).trans rfl⟩ (fun hHeld=>?_);clear hK K;refine norm_ (a':=?_) ?_ ?_;rotate_left
           ·show Act.put _ (some 5) _=_
            simp only [Act.put,zi,zs,zt,i64_w,i32_w];rfl
           exact norm_ (by first|(simp only [putAll,Act.put,zi,zs,zt];done)|(simp only [putAll,Act.put,zi,zs,zt];rfl)) (hJ3_8 (gb23) _ ⟨hHeld,(zk BK22),(zk BK21),(zk BK23),GW23.out,GE23.out,NB22_23.out,NB23_22.out,NB21_23.out,NB23_21.out,zB⟩)
          ·skip;refine box_step ?hg (N:=6) ?hd (cs:=#[.int .i64 0]) (t:=3) ?hr ?_;(case hd=>rfl);(case hg=>rfl);(case hr=>first|(go_simp;done)|(go_simp;rfl));intro gb24 hg w11 hbox hb;have BK24:=zA (hbox);have GW24:=zA ((zG hg (below_size zB):w.heap.size≤gb24));have GE24:=zA ((zG hg (below_size zB):w.heap.size≤gb24));have NB22_24:=zA ((zl hg (zk BK22):gb22≠gb24));have NB24_22:=zA ((zg hg (zk BK22):gb24≠gb22));have NB21_24:=zA ((zl hg (zk BK21):gb21≠gb24));have NB24_21:=zA ((zg hg (zk BK21):gb24≠gb21));replace BK22:=zA (zb BK22 hb);replace BK21:=zA (zb BK21 hb);replace HB:=zA (below_step zB hb);clear hb hbox hg;refine hK.out _ _ ⟨(blk_cell BK21.out 0).trans rfl,(blk_cell BK21.out 1).trans rfl,(blk_cell BK22.out 0).trans rfl,(blk_cell BK22.out 1).trans rfl⟩ (fun hHeld=>?_);clear hK K;refine norm_ (a':=?_) ?_ ?_;rotate_left
           ·show Act.put _ (some 6) _=_
            simp only [Act.put,zi,zs,zt,i64_w,i32_w];rfl
           exact norm_ (by first|(simp only [putAll,Act.put,zi,zs,zt];done)|(simp only [putAll,Act.put,zi,zs,zt];rfl)) (hJ3_9 (gb24) _ ⟨hHeld,(zk BK22),(zk BK21),(zk BK24),GW24.out,GE24.out,NB22_24.out,NB24_22.out,NB21_24.out,NB24_21.out,zB⟩)
        ·skip;rintro ⟨gb23,gb24⟩ w11 ⟨hS_,h0_,h1_,h2_,h3_,h4_,h5_,h6_,h7_,h8_,h9_,h10_,h11_,h12_,h13_,h14_,h15_,h16_,h17_,h18_⟩
         have BK23:Aside0 (w11.heap[gb23]?=some (.cells #[.int .i64 0] 3 (0,0))):=⟨h2_⟩
         have BK24:Aside0 (w11.heap[gb24]?=some (.cells #[.int .i64 0] 3 (0,0))):=⟨h3_⟩
         have GW23:Aside0 (w.heap.size≤gb23):=⟨h4_⟩
         have GE23:Aside0 (w.heap.size≤gb23):=⟨h5_⟩
         have NB22_23:Aside0 (gb22≠gb23):=⟨h6_⟩
         have NB23_22:Aside0 (gb23≠gb22):=⟨h7_⟩
         have NB21_23:Aside0 (gb21≠gb23):=⟨h8_⟩
         have NB23_21:Aside0 (gb23≠gb21):=⟨h9_⟩
         have NB24_23:Aside0 (gb24≠gb23):=⟨h10_⟩
         have NB23_24:Aside0 (gb23≠gb24):=⟨h11_⟩
         have GW24:Aside0 (w.heap.size≤gb24):=⟨h12_⟩
         have GE24:Aside0 (w.heap.size≤gb24):=⟨h13_⟩
         have NB22_24:Aside0 (gb22≠gb24):=⟨h14_⟩
         have NB24_22:Aside0 (gb24≠gb22):=⟨h15_⟩
         have NB21_24:Aside0 (gb21≠gb24):=⟨h16_⟩
         have NB24_21:Aside0 (gb24≠gb21):=⟨h17_⟩
         replace BK22:Aside0 (w11.heap[gb22]?=some (.cells #[.int .i64 a0_0,.int .i64 a0_1] 96 (0,0))):=⟨h0_⟩
         replace BK21:Aside0 (w11.heap[gb21]?=some (.cells #[.slice A1_0 l1_0.length c1_0,.slice A1_1 l1_1.length c1_1] 34 (0,0))):=⟨h1_⟩
         replace HB:Aside0 (Below w.heap.size w w11):=⟨h18_⟩
         clear h0_ h1_ h2_ h3_ h4_ h5_ h6_ h7_ h8_ h9_ h10_ h11_ h12_ h13_ h14_ h15_ h16_ h17_ h18_;have hHeld:w11.cell? ⟨gb21,0,none⟩=some (.slice A1_0 l1_0.length c1_0)∧w11.cell? ⟨gb21,1,none⟩=some (.slice A1_1 l1_1.length c1_1)∧w11.cell? ⟨gb22,0,none⟩=some (.int .i64 a0_0)∧w11.cell? ⟨gb22,1,none⟩=some (.int .i64 a0_1):=hS_;refine norm_ (a':=?_) ?_ ?_;rotate_left
         ·simp only [putAll,Act.put,zi,zs,zt];rfl
         refine one_ (i:=3) (N:=some 10) #[true,true,true,true,true,true,true,false,true,true,false,false] rfl rfl (one_of HT_.out zK) (by decide) (fun K hK=>?_);refine goes_ Try.func76 zK rfl #[.agg #[.slice A1_0 l1_0.length c1_0,.slice A1_1 l1_1.length c1_1],.int .i64 a0_0] (by rfl) rfl rfl zM ?_
         with_reducible refine (solve_row.calls k _ _ l1_0 _ _ l1_1 a0_0 t25 _ ?side1 ?side2 ?side3 ?side4 A3.out).mono ?_
         (case side1=>exact zC (Kd.C_below HR1_0.out HB.out));(case side2=>exact HC1_0.out);(case side3=>exact zC (Kd.C_below HR1_1.out HB.out));(case side4=>exact HC1_1.out);rintro e w12 ⟨rfl,hb⟩;refine ⟨_,rfl,?_⟩;replace BK22:=zA (zb BK22 hb);replace BK21:=zA (zb BK21 hb);replace BK23:=zA (zb BK23 hb);replace BK24:=zA (zb BK24 hb);replace HB:=zA (below_step zB hb);(try clear hb);(try clear hb2);(try clear hk);(try clear hi);refine hK.out _ _ ⟨(blk_cell BK21.out 0).trans rfl,(blk_cell BK21.out 1).trans rfl,(blk_cell BK22.out 0).trans rfl,(blk_cell BK22.out 1).trans rfl⟩ (fun hHeld=>?_);clear hK K;refine norm_ (a':=?_) ?_ ?_;rotate_left
         ·show Act.put _ (some 10) _=_
          simp only [Act.put,zi,zs,zt,i64_w,i32_w];rfl
         exact norm_ (by first|(simp only [putAll,Act.put,zi,zs,zt];done)|(simp only [putAll,Act.put,zi,zs,zt];rfl)) (hJ3_8_9 (gb23,gb24) _ ⟨hHeld,(zk BK22),(zk BK21),(zk BK23),(zk BK24),GW23.out,GE23.out,NB22_23.out,NB23_22.out,NB21_23.out,NB23_21.out,NB24_23.out,NB23_24.out,GW24.out,GE24.out,NB22_24.out,NB24_22.out,NB21_24.out,NB24_21.out,zB⟩)
       ·skip;rintro gb24 w11 ⟨hS_,h0_,h1_,h2_,h3_,h4_,h5_,h6_,h7_,h8_,h9_⟩
        have BK24:Aside0 (w11.heap[gb24]?=some (.cells #[.int .i64 0] 3 (0,0))):=⟨h2_⟩
        have GW24:Aside0 (w.heap.size≤gb24):=⟨h3_⟩
        have GE24:Aside0 (w.heap.size≤gb24):=⟨h4_⟩
        have NB22_24:Aside0 (gb22≠gb24):=⟨h5_⟩
        have NB24_22:Aside0 (gb24≠gb22):=⟨h6_⟩
        have NB21_24:Aside0 (gb21≠gb24):=⟨h7_⟩
        have NB24_21:Aside0 (gb24≠gb21):=⟨h8_⟩
        replace BK22:Aside0 (w11.heap[gb22]?=some (.cells #[.int .i64 a0_0,.int .i64 a0_1] 96 (0,0))):=⟨h0_⟩
        replace BK21:Aside0 (w11.heap[gb21]?=some (.cells #[.slice A1_0 l1_0.length c1_0,.slice A1_1 l1_1.length c1_1] 34 (0,0))):=⟨h1_⟩
        replace HB:Aside0 (Below w.heap.size w w11):=⟨h9_⟩
        clear h0_ h1_ h2_ h3_ h4_ h5_ h6_ h7_ h8_ h9_;have hHeld:w11.cell? ⟨gb21,0,none⟩=some (.slice A1_0 l1_0.length c1_0)∧w11.cell? ⟨gb21,1,none⟩=some (.slice A1_1 l1_1.length c1_1)∧w11.cell? ⟨gb22,0,none⟩=some (.int .i64 a0_0)∧w11.cell? ⟨gb22,1,none⟩=some (.int .i64 a0_1):=hS_;refine norm_ (a':=?_) ?_ ?_;rotate_left
        ·simp only [putAll,Act.put,zi,zs,zt];rfl
        refine two_ (i:=7) (j:=8) (Ni:=some 14) (Nj:=some 5) #[true,true,true,true,true,true,true,true,false,true,false,false] #[true,true,true,true,true,true,true,false,true,true,false,false] rfl rfl rfl rfl (two_of HT_.out zK) (by decide) (by decide) (fun K hK=>?_) (fun K hK=>?_)
        ·skip;refine goes_ Try.func76 zK rfl #[.agg #[.slice A1_0 l1_0.length c1_0,.slice A1_1 l1_1.length c1_1],.int .i64 a0_1] (by rfl) rfl rfl zM ?_
         with_reducible refine (solve_row.calls k _ _ l1_0 _ _ l1_1 a0_1 t26 _ ?side1 ?side2 ?side3 ?side4 A4.out).mono ?_
         (case side1=>exact zC (Kd.C_below HR1_0.out HB.out));(case side2=>exact HC1_0.out);(case side3=>exact zC (Kd.C_below HR1_1.out HB.out));(case side4=>exact HC1_1.out);rintro e w12 ⟨rfl,hb⟩;refine ⟨_,rfl,?_⟩;replace BK22:=zA (zb BK22 hb);replace BK21:=zA (zb BK21 hb);replace BK24:=zA (zb BK24 hb);replace HB:=zA (below_step zB hb);(try clear hb);(try clear hb2);(try clear hk);(try clear hi);refine hK.out _ _ ⟨(blk_cell BK21.out 0).trans rfl,(blk_cell BK21.out 1).trans rfl,(blk_cell BK22.out 0).trans rfl,(blk_cell BK22.out 1).trans rfl⟩ (fun hHeld=>?_);clear hK K;refine norm_ (a':=?_) ?_ ?_;rotate_left
         ·show Act.put _ (some 14) _=_
          simp only [Act.put,zi,zs,zt,i64_w,i32_w];rfl
         exact norm_ (by first|(simp only [putAll,Act.put,zi,zs,zt];done)|(simp only [putAll,Act.put,zi,zs,zt];rfl)) (hJ3_7_9 (gb24) _ ⟨hHeld,(zk BK22),(zk BK21),(zk BK24),GW24.out,GE24.out,NB22_24.out,NB24_22.out,NB21_24.out,NB24_21.out,zB⟩)
        ·skip;refine box_step ?hg (N:=5) ?hd (cs:=#[.int .i64 0]) (t:=3) ?hr ?_;(case hd=>rfl);(case hg=>rfl);(case hr=>first|(go_simp;done)|(go_simp;rfl));intro gb23 hg w12 hbox hb;have BK23:=zA (hbox);have GW23:=zA ((zG hg (below_size zB):w.heap.size≤gb23));have GE23:=zA ((zG hg (below_size zB):w.heap.size≤gb23));have NB22_23:=zA ((zl hg (zk BK22):gb22≠gb23));have NB23_22:=zA ((zg hg (zk BK22):gb23≠gb22));have NB21_23:=zA ((zl hg (zk BK21):gb21≠gb23));have NB23_21:=zA ((zg hg (zk BK21):gb23≠gb21));have NB24_23:=zA ((zl hg (zk BK24):gb24≠gb23));have NB23_24:=zA ((zg hg (zk BK24):gb23≠gb24));replace BK22:=zA (zb BK22 hb);replace BK21:=zA (zb BK21 hb);replace BK24:=zA (zb BK24 hb);replace HB:=zA (below_step zB hb);clear hb hbox hg;refine hK.out _ _ ⟨(blk_cell BK21.out 0).trans rfl,(blk_cell BK21.out 1).trans rfl,(blk_cell BK22.out 0).trans rfl,(blk_cell BK22.out 1).trans rfl⟩ (fun hHeld=>?_);clear hK K;refine norm_ (a':=?_) ?_ ?_;rotate_left
         ·show Act.put _ (some 5) _=_
          simp only [Act.put,zi,zs,zt,i64_w,i32_w];rfl
         exact norm_ (by first|(simp only [putAll,Act.put,zi,zs,zt];done)|(simp only [putAll,Act.put,zi,zs,zt];rfl)) (hJ3_8_9 (gb23,gb24) _ ⟨hHeld,(zk BK22),(zk BK21),(zk BK23),(zk BK24),GW23.out,GE23.out,NB22_23.out,NB23_22.out,NB21_23.out,NB23_21.out,NB24_23.out,NB23_24.out,GW24.out,GE24.out,NB22_24.out,NB24_22.out,NB21_24.out,NB24_21.out,zB⟩)
      ·skip;rintro gb23 w11 ⟨hS_,h0_,h1_,h2_,h3_,h4_,h5_,h6_,h7_,h8_,h9_⟩
       have BK23:Aside0 (w11.heap[gb23]?=some (.cells #[.int .i64 0] 3 (0,0))):=⟨h2_⟩
       have GW23:Aside0 (w.heap.size≤gb23):=⟨h3_⟩
       have GE23:Aside0 (w.heap.size≤gb23):=⟨h4_⟩
       have NB22_23:Aside0 (gb22≠gb23):=⟨h5_⟩
       have NB23_22:Aside0 (gb23≠gb22):=⟨h6_⟩
       have NB21_23:Aside0 (gb21≠gb23):=⟨h7_⟩
       have NB23_21:Aside0 (gb23≠gb21):=⟨h8_⟩
       replace BK22:Aside0 (w11.heap[gb22]?=some (.cells #[.int .i64 a0_0,.int .i64 a0_1] 96 (0,0))):=⟨h0_⟩
       replace BK21:Aside0 (w11.heap[gb21]?=some (.cells #[.slice A1_0 l1_0.length c1_0,.slice A1_1 l1_1.length c1_1] 34 (0,0))):=⟨h1_⟩
       replace HB:Aside0 (Below w.heap.size w w11):=⟨h9_⟩
       clear h0_ h1_ h2_ h3_ h4_ h5_ h6_ h7_ h8_ h9_;have hHeld:w11.cell? ⟨gb21,0,none⟩=some (.slice A1_0 l1_0.length c1_0)∧w11.cell? ⟨gb21,1,none⟩=some (.slice A1_1 l1_1.length c1_1)∧w11.cell? ⟨gb22,0,none⟩=some (.int .i64 a0_0)∧w11.cell? ⟨gb22,1,none⟩=some (.int .i64 a0_1):=hS_;refine norm_ (a':=?_) ?_ ?_;rotate_left
       ·simp only [putAll,Act.put,zi,zs,zt];rfl
       refine two_ (i:=7) (j:=9) (Ni:=some 14) (Nj:=some 6) #[true,true,true,true,true,true,true,true,true,false,false,false] #[true,true,true,true,true,true,true,false,true,true,false,false] rfl rfl rfl rfl (two_of HT_.out zK) (by decide) (by decide) (fun K hK=>?_) (fun K hK=>?_)
       ·skip;refine goes_ Try.func76 zK rfl #[.agg #[.slice A1_0 l1_0.length c1_0,.slice A1_1 l1_1.length c1_1],.int .i64 a0_1] (by rfl) rfl rfl zM ?_
        with_reducible refine (solve_row.calls k _ _ l1_0 _ _ l1_1 a0_1 t26 _ ?side1 ?side2 ?side3 ?side4 A4.out).mono ?_
        (case side1=>exact zC (Kd.C_below HR1_0.out HB.out));(case side2=>exact HC1_0.out);(case side3=>exact zC (Kd.C_below HR1_1.out HB.out));(case side4=>exact HC1_1.out);rintro e w12 ⟨rfl,hb⟩;refine ⟨_,rfl,?_⟩;replace BK22:=zA (zb BK22 hb);replace BK21:=zA (zb BK21 hb);replace BK23:=zA (zb BK23 hb);replace HB:=zA (below_step zB hb);(try clear hb);(try clear hb2);(try clear hk);(try clear hi);refine hK.out _ _ ⟨(blk_cell BK21.out 0).trans rfl,(blk_cell BK21.out 1).trans rfl,(blk_cell BK22.out 0).trans rfl,(blk_cell BK22.out 1).trans rfl⟩ (fun hHeld=>?_);clear hK K;refine norm_ (a':=?_) ?_ ?_;rotate_left
        ·show Act.put _ (some 14) _=_
         simp only [Act.put,zi,zs,zt,i64_w,i32_w];rfl
        exact norm_ (by first|(simp only [putAll,Act.put,zi,zs,zt];done)|(simp only [putAll,Act.put,zi,zs,zt];rfl)) (hJ3_7_8 (gb23) _ ⟨hHeld,(zk BK22),(zk BK21),(zk BK23),GW23.out,GE23.out,NB22_23.out,NB23_22.out,NB21_23.out,NB23_21.out,zB⟩)
       ·skip;refine box_step ?hg (N:=6) ?hd (cs:=#[.int .i64 0]) (t:=3) ?hr ?_;(case hd=>rfl);(case hg=>rfl);(case hr=>first|(go_simp;done)|(go_simp;rfl));intro gb24 hg w12 hbox hb;have BK24:=zA (hbox);have GW24:=zA ((zG hg (below_size zB):w.heap.size≤gb24));have GE24:=zA ((zG hg (below_size zB):w.heap.size≤gb24));have NB22_24:=zA ((zl hg (zk BK22):gb22≠gb24));have NB24_22:=zA ((zg hg (zk BK22):gb24≠gb22));have NB21_24:=zA ((zl hg (zk BK21):gb21≠gb24));have NB24_21:=zA ((zg hg (zk BK21):gb24≠gb21));have NB23_24:=zA ((zl hg (zk BK23):gb23≠gb24));have NB24_23:=zA ((zg hg (zk BK23):gb24≠gb23));replace BK22:=zA (zb BK22 hb);replace BK21:=zA (zb BK21 hb);replace BK23:=zA (zb BK23 hb);replace HB:=zA (below_step zB hb);clear hb hbox hg;refine hK.out _ _ ⟨(blk_cell BK21.out 0).trans rfl,(blk_cell BK21.out 1).trans rfl,(blk_cell BK22.out 0).trans rfl,(blk_cell BK22.out 1).trans rfl⟩ (fun hHeld=>?_);clear hK K;refine norm_ (a':=?_) ?_ ?_;rotate_left
        ·show Act.put _ (some 6) _=_
         simp only [Act.put,zi,zs,zt,i64_w,i32_w];rfl
        exact norm_ (by first|(simp only [putAll,Act.put,zi,zs,zt];done)|(simp only [putAll,Act.put,zi,zs,zt];rfl)) (hJ3_8_9 (gb23,gb24) _ ⟨hHeld,(zk BK22),(zk BK21),(zk BK23),(zk BK24),GW23.out,GE23.out,NB22_23.out,NB23_22.out,NB21_23.out,NB23_21.out,NB24_23.out,NB23_24.out,GW24.out,GE24.out,NB22_24.out,NB24_22.out,NB21_24.out,NB24_21.out,zB⟩)
     ·skip;rintro _ w11 ⟨hS_,h0_,h1_,h2_⟩
      replace BK22:Aside0 (w11.heap[gb22]?=some (.cells #[.int .i64 a0_0,.int .i64 a0_1] 96 (0,0))):=⟨h0_⟩
      replace BK21:Aside0 (w11.heap[gb21]?=some (.cells #[.slice A1_0 l1_0.length c1_0,.slice A1_1 l1_1.length c1_1] 34 (0,0))):=⟨h1_⟩
      replace HB:Aside0 (Below w.heap.size w w11):=⟨h2_⟩
      clear h0_ h1_ h2_;have hHeld:w11.cell? ⟨gb21,0,none⟩=some (.slice A1_0 l1_0.length c1_0)∧w11.cell? ⟨gb21,1,none⟩=some (.slice A1_1 l1_1.length c1_1)∧w11.cell? ⟨gb22,0,none⟩=some (.int .i64 a0_0)∧w11.cell? ⟨gb22,1,none⟩=some (.int .i64 a0_1):=hS_;refine norm_ (a':=?_) ?_ ?_;rotate_left
      ·simp only [putAll,Act.put,zi,zs,zt];rfl
      refine two_ (i:=8) (j:=9) (Ni:=some 5) (Nj:=some 6) #[true,true,true,true,true,true,true,true,true,false,false,false] #[true,true,true,true,true,true,true,true,false,true,false,false] rfl rfl rfl rfl (two_of HT_.out zK) (by decide) (by decide) (fun K hK=>?_) (fun K hK=>?_)
      ·skip;refine box_step ?hg (N:=5) ?hd (cs:=#[.int .i64 0]) (t:=3) ?hr ?_;(case hd=>rfl);(case hg=>rfl);(case hr=>first|(go_simp;done)|(go_simp;rfl));intro gb23 hg w12 hbox hb;have BK23:=zA (hbox);have GW23:=zA ((zG hg (below_size zB):w.heap.size≤gb23));have GE23:=zA ((zG hg (below_size zB):w.heap.size≤gb23));have NB22_23:=zA ((zl hg (zk BK22):gb22≠gb23));have NB23_22:=zA ((zg hg (zk BK22):gb23≠gb22));have NB21_23:=zA ((zl hg (zk BK21):gb21≠gb23));have NB23_21:=zA ((zg hg (zk BK21):gb23≠gb21));replace BK22:=zA (zb BK22 hb);replace BK21:=zA (zb BK21 hb);replace HB:=zA (below_step zB hb);clear hb hbox hg;refine hK.out _ _ ⟨(blk_cell BK21.out 0).trans rfl,(blk_cell BK21.out 1).trans rfl,(blk_cell BK22.out 0).trans rfl,(blk_cell BK22.out 1).trans rfl⟩ (fun hHeld=>?_);clear hK K;refine norm_ (a':=?_) ?_ ?_;rotate_left
       ·show Act.put _ (some 5) _=_
        simp only [Act.put,zi,zs,zt,i64_w,i32_w];rfl
       exact norm_ (by first|(simp only [putAll,Act.put,zi,zs,zt];done)|(simp only [putAll,Act.put,zi,zs,zt];rfl)) (hJ3_7_8 (gb23) _ ⟨hHeld,(zk BK22),(zk BK21),(zk BK23),GW23.out,GE23.out,NB22_23.out,NB23_22.out,NB21_23.out,NB23_21.out,zB⟩)
      ·skip;refine box_step ?hg (N:=6) ?hd (cs:=#[.int .i64 0]) (t:=3) ?hr ?_;(case hd=>rfl);(case hg=>rfl);(case hr=>first|(go_simp;done)|(go_simp;rfl));intro gb24 hg w12 hbox hb;have BK24:=zA (hbox);have GW24:=zA ((zG hg (below_size zB):w.heap.size≤gb24));have GE24:=zA ((zG hg (below_size zB):w.heap.size≤gb24));have NB22_24:=zA ((zl hg (zk BK22):gb22≠gb24));have NB24_22:=zA ((zg hg (zk BK22):gb24≠gb22));have NB21_24:=zA ((zl hg (zk BK21):gb21≠gb24));have NB24_21:=zA ((zg hg (zk BK21):gb24≠gb21));replace BK22:=zA (zb BK22 hb);replace BK21:=zA (zb BK21 hb);replace HB:=zA (below_step zB hb);clear hb hbox hg;refine hK.out _ _ ⟨(blk_cell BK21.out 0).trans rfl,(blk_cell BK21.out 1).trans rfl,(blk_cell BK22.out 0).trans rfl,(blk_cell BK22.out 1).trans rfl⟩ (fun hHeld=>?_);clear hK K;refine norm_ (a':=?_) ?_ ?_;rotate_left
       ·show Act.put _ (some 6) _=_
        simp only [Act.put,zi,zs,zt,i64_w,i32_w];rfl
       exact norm_ (by first|(simp only [putAll,Act.put,zi,zs,zt];done)|(simp only [putAll,Act.put,zi,zs,zt];rfl)) (hJ3_7_9 (gb24) _ ⟨hHeld,(zk BK22),(zk BK21),(zk BK24),GW24.out,GE24.out,NB22_24.out,NB24_22.out,NB21_24.out,NB24_21.out,zB⟩)
    ·skip;rintro ⟨gb23,gb24⟩ w12 ⟨hS_,h0_,h1_,h2_,h3_,h4_,h5_,h6_,h7_,h8_,h9_,h10_,h11_,h12_,h13_,h14_,h15_,h16_,h17_,h18_⟩
     have BK23:Aside0 (w12.heap[gb23]?=some (.cells #[.int .i64 0] 3 (0,0))):=⟨h2_⟩
     have BK24:Aside0 (w12.heap[gb24]?=some (.cells #[.int .i64 0] 3 (0,0))):=⟨h3_⟩
     have GW23:Aside0 (w.heap.size≤gb23):=⟨h4_⟩
     have GE23:Aside0 (w.heap.size≤gb23):=⟨h5_⟩
     have NB22_23:Aside0 (gb22≠gb23):=⟨h6_⟩
     have NB23_22:Aside0 (gb23≠gb22):=⟨h7_⟩
     have NB21_23:Aside0 (gb21≠gb23):=⟨h8_⟩
     have NB23_21:Aside0 (gb23≠gb21):=⟨h9_⟩
     have NB24_23:Aside0 (gb24≠gb23):=⟨h10_⟩
     have NB23_24:Aside0 (gb23≠gb24):=⟨h11_⟩
     have GW24:Aside0 (w.heap.size≤gb24):=⟨h12_⟩
     have GE24:Aside0 (w.heap.size≤gb24):=⟨h13_⟩
     have NB22_24:Aside0 (gb22≠gb24):=⟨h14_⟩
     have NB24_22:Aside0 (gb24≠gb22):=⟨h15_⟩
     have NB21_24:Aside0 (gb21≠gb24):=⟨h16_⟩
     have NB24_21:Aside0 (gb24≠gb21):=⟨h17_⟩
     replace BK22:Aside0 (w12.heap[gb22]?=some (.cells #[.int .i64 a0_0,.int .i64 a0_1] 96 (0,0))):=⟨h0_⟩
     replace BK21:Aside0 (w12.heap[gb21]?=some (.cells #[.slice A1_0 l1_0.length c1_0,.slice A1_1 l1_1.length c1_1] 34 (0,0))):=⟨h1_⟩
     replace HB:Aside0 (Below w.heap.size w w12):=⟨h18_⟩
     clear h0_ h1_ h2_ h3_ h4_ h5_ h6_ h7_ h8_ h9_ h10_ h11_ h12_ h13_ h14_ h15_ h16_ h17_ h18_;have hHeld:w12.cell? ⟨gb21,0,none⟩=some (.slice A1_0 l1_0.length c1_0)∧w12.cell? ⟨gb21,1,none⟩=some (.slice A1_1 l1_1.length c1_1)∧w12.cell? ⟨gb22,0,none⟩=some (.int .i64 a0_0)∧w12.cell? ⟨gb22,1,none⟩=some (.int .i64 a0_1):=hS_;refine norm_ (a':=?_) ?_ ?_;rotate_left
     ·simp only [putAll,Act.put,zi,zs,zt];rfl
     refine one_ (i:=7) (N:=some 14) #[true,true,true,true,true,true,true,true,true,true,false,false] rfl rfl (one_of HT_.out zK) (by decide) (fun K hK=>?_);refine goes_ Try.func76 zK rfl #[.agg #[.slice A1_0 l1_0.length c1_0,.slice A1_1 l1_1.length c1_1],.int .i64 a0_1] (by rfl) rfl rfl zM ?_
     with_reducible refine (solve_row.calls k _ _ l1_0 _ _ l1_1 a0_1 t26 _ ?side1 ?side2 ?side3 ?side4 A4.out).mono ?_
     (case side1=>exact zC (Kd.C_below HR1_0.out HB.out));(case side2=>exact HC1_0.out);(case side3=>exact zC (Kd.C_below HR1_1.out HB.out));(case side4=>exact HC1_1.out);rintro e w13 ⟨rfl,hb⟩;refine ⟨_,rfl,?_⟩;replace BK22:=zA (zb BK22 hb);replace BK21:=zA (zb BK21 hb);replace BK23:=zA (zb BK23 hb);replace BK24:=zA (zb BK24 hb);replace HB:=zA (below_step zB hb);(try clear hb);(try clear hb2);(try clear hk);(try clear hi);refine hK.out _ _ ⟨(blk_cell BK21.out 0).trans rfl,(blk_cell BK21.out 1).trans rfl,(blk_cell BK22.out 0).trans rfl,(blk_cell BK22.out 1).trans rfl⟩ (fun hHeld=>?_);clear hK K;refine norm_ (a':=?_) ?_ ?_;rotate_left
     ·show Act.put _ (some 14) _=_
      simp only [Act.put,zi,zs,zt,i64_w,i32_w];rfl
     exact norm_ (by first|(simp only [putAll,Act.put,zi,zs,zt];done)|(simp only [putAll,Act.put,zi,zs,zt];rfl)) (hJ3_7_8_9 (gb23,gb24) _ ⟨hHeld,(zk BK22),(zk BK21),(zk BK23),(zk BK24),GW23.out,GE23.out,NB22_23.out,NB23_22.out,NB21_23.out,NB23_21.out,NB24_23.out,NB23_24.out,GW24.out,GE24.out,NB22_24.out,NB24_22.out,NB21_24.out,NB24_21.out,zB⟩)
   ·skip;rintro gb24 w12 ⟨hS_,h0_,h1_,h2_,h3_,h4_,h5_,h6_,h7_,h8_,h9_⟩
    have BK24:Aside0 (w12.heap[gb24]?=some (.cells #[.int .i64 0] 3 (0,0))):=⟨h2_⟩
    have GW24:Aside0 (w.heap.size≤gb24):=⟨h3_⟩
    have GE24:Aside0 (w.heap.size≤gb24):=⟨h4_⟩
    have NB22_24:Aside0 (gb22≠gb24):=⟨h5_⟩
    have NB24_22:Aside0 (gb24≠gb22):=⟨h6_⟩
    have NB21_24:Aside0 (gb21≠gb24):=⟨h7_⟩
    have NB24_21:Aside0 (gb24≠gb21):=⟨h8_⟩
    replace BK22:Aside0 (w12.heap[gb22]?=some (.cells #[.int .i64 a0_0,.int .i64 a0_1] 96 (0,0))):=⟨h0_⟩
    replace BK21:Aside0 (w12.heap[gb21]?=some (.cells #[.slice A1_0 l1_0.length c1_0,.slice A1_1 l1_1.length c1_1] 34 (0,0))):=⟨h1_⟩
    replace HB:Aside0 (Below w.heap.size w w12):=⟨h9_⟩
    clear h0_ h1_ h2_ h3_ h4_ h5_ h6_ h7_ h8_ h9_;have hHeld:w12.cell? ⟨gb21,0,none⟩=some (.slice A1_0 l1_0.length c1_0)∧w12.cell? ⟨gb21,1,none⟩=some (.slice A1_1 l1_1.length c1_1)∧w12.cell? ⟨gb22,0,none⟩=some (.int .i64 a0_0)∧w12.cell? ⟨gb22,1,none⟩=some (.int .i64 a0_1):=hS_;refine norm_ (a':=?_) ?_ ?_;rotate_left
    ·simp only [putAll,Act.put,zi,zs,zt];rfl
    refine one_ (i:=8) (N:=some 5) #[true,true,true,true,true,true,true,true,true,true,false,false] rfl rfl (one_of HT_.out zK) (by decide) (fun K hK=>?_);refine box_step ?hg (N:=5) ?hd (cs:=#[.int .i64 0]) (t:=3) ?hr ?_;(case hd=>rfl);(case hg=>rfl);(case hr=>first|(go_simp;done)|(go_simp;rfl));intro gb23 hg w13 hbox hb;have BK23:=zA (hbox);have GW23:=zA ((zG hg (below_size zB):w.heap.size≤gb23));have GE23:=zA ((zG hg (below_size zB):w.heap.size≤gb23));have NB22_23:=zA ((zl hg (zk BK22):gb22≠gb23));have NB23_22:=zA ((zg hg (zk BK22):gb23≠gb22));have NB21_23:=zA ((zl hg (zk BK21):gb21≠gb23));have NB23_21:=zA ((zg hg (zk BK21):gb23≠gb21));have NB24_23:=zA ((zl hg (zk BK24):gb24≠gb23));have NB23_24:=zA ((zg hg (zk BK24):gb23≠gb24));replace BK22:=zA (zb BK22 hb);replace BK21:=zA (zb BK21 hb);replace BK24:=zA (zb BK24 hb);replace HB:=zA (below_step zB hb);clear hb hbox hg;refine hK.out _ _ ⟨(blk_cell BK21.out 0).trans rfl,(blk_cell BK21.out 1).trans rfl,(blk_cell BK22.out 0).trans rfl,(blk_cell BK22.out 1).trans rfl⟩ (fun hHeld=>?_);clear hK K;refine norm_ (a':=?_) ?_ ?_;rotate_left
    ·show Act.put _ (some 5) _=_
     simp only [Act.put,zi,zs,zt,i64_w,i32_w];rfl
    exact norm_ (by first|(simp only [putAll,Act.put,zi,zs,zt];done)|(simp only [putAll,Act.put,zi,zs,zt];rfl)) (hJ3_7_8_9 (gb23,gb24) _ ⟨hHeld,(zk BK22),(zk BK21),(zk BK23),(zk BK24),GW23.out,GE23.out,NB22_23.out,NB23_22.out,NB21_23.out,NB23_21.out,NB24_23.out,NB23_24.out,GW24.out,GE24.out,NB22_24.out,NB24_22.out,NB21_24.out,NB24_21.out,zB⟩)
  ·skip;rintro gb23 w12 ⟨hS_,h0_,h1_,h2_,h3_,h4_,h5_,h6_,h7_,h8_,h9_⟩
   have BK23:Aside0 (w12.heap[gb23]?=some (.cells #[.int .i64 0] 3 (0,0))):=⟨h2_⟩
   have GW23:Aside0 (w.heap.size≤gb23):=⟨h3_⟩
   have GE23:Aside0 (w.heap.size≤gb23):=⟨h4_⟩
   have NB22_23:Aside0 (gb22≠gb23):=⟨h5_⟩
   have NB23_22:Aside0 (gb23≠gb22):=⟨h6_⟩
   have NB21_23:Aside0 (gb21≠gb23):=⟨h7_⟩
   have NB23_21:Aside0 (gb23≠gb21):=⟨h8_⟩
   replace BK22:Aside0 (w12.heap[gb22]?=some (.cells #[.int .i64 a0_0,.int .i64 a0_1] 96 (0,0))):=⟨h0_⟩
   replace BK21:Aside0 (w12.heap[gb21]?=some (.cells #[.slice A1_0 l1_0.length c1_0,.slice A1_1 l1_1.length c1_1] 34 (0,0))):=⟨h1_⟩
   replace HB:Aside0 (Below w.heap.size w w12):=⟨h9_⟩
   clear h0_ h1_ h2_ h3_ h4_ h5_ h6_ h7_ h8_ h9_;have hHeld:w12.cell? ⟨gb21,0,none⟩=some (.slice A1_0 l1_0.length c1_0)∧w12.cell? ⟨gb21,1,none⟩=some (.slice A1_1 l1_1.length c1_1)∧w12.cell? ⟨gb22,0,none⟩=some (.int .i64 a0_0)∧w12.cell? ⟨gb22,1,none⟩=some (.int .i64 a0_1):=hS_;refine norm_ (a':=?_) ?_ ?_;rotate_left
   ·simp only [putAll,Act.put,zi,zs,zt];rfl
   refine one_ (i:=9) (N:=some 6) #[true,true,true,true,true,true,true,true,true,true,false,false] rfl rfl (one_of HT_.out zK) (by decide) (fun K hK=>?_);refine box_step ?hg (N:=6) ?hd (cs:=#[.int .i64 0]) (t:=3) ?hr ?_;(case hd=>rfl);(case hg=>rfl);(case hr=>first|(go_simp;done)|(go_simp;rfl));intro gb24 hg w13 hbox hb;have BK24:=zA (hbox);have GW24:=zA ((zG hg (below_size zB):w.heap.size≤gb24));have GE24:=zA ((zG hg (below_size zB):w.heap.size≤gb24));have NB22_24:=zA ((zl hg (zk BK22):gb22≠gb24));have NB24_22:=zA ((zg hg (zk BK22):gb24≠gb22));have NB21_24:=zA ((zl hg (zk BK21):gb21≠gb24));have NB24_21:=zA ((zg hg (zk BK21):gb24≠gb21));have NB23_24:=zA ((zl hg (zk BK23):gb23≠gb24));have NB24_23:=zA ((zg hg (zk BK23):gb24≠gb23));replace BK22:=zA (zb BK22 hb);replace BK21:=zA (zb BK21 hb);replace BK23:=zA (zb BK23 hb);replace HB:=zA (below_step zB hb);clear hb hbox hg;refine hK.out _ _ ⟨(blk_cell BK21.out 0).trans rfl,(blk_cell BK21.out 1).trans rfl,(blk_cell BK22.out 0).trans rfl,(blk_cell BK22.out 1).trans rfl⟩ (fun hHeld=>?_);clear hK K;refine norm_ (a':=?_) ?_ ?_;rotate_left
   ·show Act.put _ (some 6) _=_
    simp only [Act.put,zi,zs,zt,i64_w,i32_w];rfl
   exact norm_ (by first|(simp only [putAll,Act.put,zi,zs,zt];done)|(simp only [putAll,Act.put,zi,zs,zt];rfl)) (hJ3_7_8_9 (gb23,gb24) _ ⟨hHeld,(zk BK22),(zk BK21),(zk BK23),(zk BK24),GW23.out,GE23.out,NB22_23.out,NB23_22.out,NB21_23.out,NB23_21.out,NB24_23.out,NB23_24.out,GW24.out,GE24.out,NB22_24.out,NB24_22.out,NB21_24.out,NB24_21.out,zB⟩)
 rintro ⟨gb23,gb24⟩ w13 ⟨hS_,h0_,h1_,h2_,h3_,h4_,h5_,h6_,h7_,h8_,h9_,h10_,h11_,h12_,h13_,h14_,h15_,h16_,h17_,h18_⟩
 have BK23:Aside0 (w13.heap[gb23]?=some (.cells #[.int .i64 0] 3 (0,0))):=⟨h2_⟩
 have BK24:Aside0 (w13.heap[gb24]?=some (.cells #[.int .i64 0] 3 (0,0))):=⟨h3_⟩
 have GW23:Aside0 (w.heap.size≤gb23):=⟨h4_⟩
 have GE23:Aside0 (w.heap.size≤gb23):=⟨h5_⟩
 have NB22_23:Aside0 (gb22≠gb23):=⟨h6_⟩
 have NB23_22:Aside0 (gb23≠gb22):=⟨h7_⟩
 have NB21_23:Aside0 (gb21≠gb23):=⟨h8_⟩
 have NB23_21:Aside0 (gb23≠gb21):=⟨h9_⟩
 have NB24_23:Aside0 (gb24≠gb23):=⟨h10_⟩
 have NB23_24:Aside0 (gb23≠gb24):=⟨h11_⟩
 have GW24:Aside0 (w.heap.size≤gb24):=⟨h12_⟩
 have GE24:Aside0 (w.heap.size≤gb24):=⟨h13_⟩
 have NB22_24:Aside0 (gb22≠gb24):=⟨h14_⟩
 have NB24_22:Aside0 (gb24≠gb22):=⟨h15_⟩
 have NB21_24:Aside0 (gb21≠gb24):=⟨h16_⟩
 have NB24_21:Aside0 (gb24≠gb21):=⟨h17_⟩
 replace BK22:Aside0 (w13.heap[gb22]?=some (.cells #[.int .i64 a0_0,.int .i64 a0_1] 96 (0,0))):=⟨h0_⟩
 replace BK21:Aside0 (w13.heap[gb21]?=some (.cells #[.slice A1_0 l1_0.length c1_0,.slice A1_1 l1_1.length c1_1] 34 (0,0))):=⟨h1_⟩
 replace HB:Aside0 (Below w.heap.size w w13):=⟨h18_⟩
 clear h0_ h1_ h2_ h3_ h4_ h5_ h6_ h7_ h8_ h9_ h10_ h11_ h12_ h13_ h14_ h15_ h16_ h17_ h18_;have hHeld:w13.cell? ⟨gb21,0,none⟩=some (.slice A1_0 l1_0.length c1_0)∧w13.cell? ⟨gb21,1,none⟩=some (.slice A1_1 l1_1.length c1_1)∧w13.cell? ⟨gb22,0,none⟩=some (.int .i64 a0_0)∧w13.cell? ⟨gb22,1,none⟩=some (.int .i64 a0_1):=hS_;refine norm_ (a':=?_) ?_ ?_;rotate_left
 ·simp only [putAll,Act.put,zi,zs,zt];rfl
 refine one_ (i:=10) (N:=none) #[true,true,true,true,true,true,true,true,true,true,true,false] rfl rfl (one_of HT_.out zK) (by decide) (fun K hK=>?_);have hs14:w13.cell? ⟨gb23,0,none⟩=some (.int .i64 0):=(blk_cell BK23.out 0).trans rfl;have hfs14:=blk_frozen BK23.out 0;have hns14_0:=NB22_23.out;have hns14_1:=NB21_23.out;have hns14_3:=NB24_23.out;have hms14_0:=NB23_22.out;have hms14_1:=NB23_21.out;have hms14_3:=NB23_24.out;refine skip_ (w1:=?_) (by rfl) rfl ?_ ?_;rotate_left
 ·go_simp
  rfl
 refine hK.out _ _ ⟨((cell_far (p:=⟨gb23,_,none⟩) NB21_23.out _).trans (hHeld.1)),((cell_far (p:=⟨gb23,_,none⟩) NB21_23.out _).trans (hHeld.2.1)),((cell_far (p:=⟨gb23,_,none⟩) NB22_23.out _).trans (hHeld.2.2.1)),((cell_far (p:=⟨gb23,_,none⟩) NB22_23.out _).trans (hHeld.2.2.2))⟩ (fun hHeld=>?_);clear hK K;refine one_ (i:=11) (N:=none) #[true,true,true,true,true,true,true,true,true,true,true,true] rfl rfl (one_of HT_.out zK) (by decide) (fun K hK=>?_);have hs15:w13.cell? ⟨gb24,0,none⟩=some (.int .i64 0):=(blk_cell BK24.out 0).trans rfl;have hfs15:=blk_frozen BK24.out 0;have hns15_0:=NB22_24.out;have hns15_1:=NB21_24.out;have hns15_2:=NB23_24.out;have hms15_0:=NB24_22.out;have hms15_1:=NB24_21.out;have hms15_2:=NB24_23.out;refine skip_ (w1:=?_) (by rfl) rfl ?_ ?_;rotate_left
 ·go_simp
  rfl
 refine hK.out _ _ ⟨((cell_far (p:=⟨gb24,_,none⟩) NB21_24.out _).trans (hHeld.1)),((cell_far (p:=⟨gb24,_,none⟩) NB21_24.out _).trans (hHeld.2.1)),((cell_far (p:=⟨gb24,_,none⟩) NB22_24.out _).trans (hHeld.2.2.1)),((cell_far (p:=⟨gb24,_,none⟩) NB22_24.out _).trans (hHeld.2.2.2))⟩ (fun hHeld=>?_);clear hK K;refine done_ (done_of HT_.out zK) ?_;have hnb16:=NB21_22.out;have hnc16:=NB22_21.out;have hnb17:=NB21_23.out;have hnc17:=NB23_21.out;have hnb18:=NB21_24.out;have hnc18:=NB24_21.out;have hcz19_0:w13.cell? ⟨gb21,0,none⟩=some (.slice A1_0 l1_0.length c1_0):=(blk_cell BK21.out 0).trans rfl;have hcz19_1:w13.cell? ⟨gb21,1,none⟩=some (.slice A1_1 l1_1.length c1_1):=(blk_cell BK21.out 1).trans rfl;have hfz19_0:=blk_frozen BK21.out 0;have hfz19_1:=blk_frozen BK21.out 1
 try go_wp2_with (first|((with_reducible refine gate_callee (f:=98) rfl ?_);refine goesL_ (some 18) rfl rfl Try.func98 zK rfl #[.slice A1_1 l1_1.length c1_1,.func (.func 99) #[] #[.pointer (some ⟨gb23,0,none⟩),.pointer (some ⟨gb24,0,none⟩)]] rfl zM ?_;(with_reducible refine (slices_ContainsFunc_int_int_solve_choices_fails_1.calls k _ _ l1_1 gb23 gb24 t25 t26 t27 _ ?side1 ?side2 ?side3 ?side4 A5.out).mono ?_);(case side1=>exact Kd.C_below HR1_1.out zB);(case side2=>exact HC1_1.out);(case side3=>refine zj ?_;refine blk_far ?_ NB23_24.out _;refine zj ?_;refine blk_put (cs:=#[.int .i64 0]) ?_ 0 _ rfl;refine zj ?_;exact BK23.out);(case side4=>refine zj ?_;refine blk_put (cs:=#[.int .i64 0]) ?_ 0 _ rfl;refine zj ?_;refine blk_far ?_ NB24_23.out _;refine zj ?_;exact BK24.out);rintro e w20 ⟨rfl,hb⟩;refine ⟨_,rfl,?_⟩;replace BK22:=zA (blk_below (g:=gb22) (o:=.cells #[.int .i64 a0_0,.int .i64 a0_1] 96 (0,0)) (by refine zj ?_;refine blk_far ?_ NB22_24.out _;refine zj ?_;refine blk_far ?_ NB22_23.out _;refine zj ?_;exact BK22.out) hb);replace BK21:=zA (blk_below (g:=gb21) (o:=.cells #[.slice A1_0 l1_0.length c1_0,.slice A1_1 l1_1.length c1_1] 34 (0,0)) (by refine zj ?_;refine blk_far ?_ NB21_24.out _;refine zj ?_;refine blk_far ?_ NB21_23.out _;refine zj ?_;exact BK21.out) hb);replace BK23:=zA (blk_below (g:=gb23) (o:=.cells #[.int .i64 t25] 3 (0,0)) (by refine zj ?_;refine blk_far ?_ NB23_24.out _;refine zj ?_;refine blk_put (cs:=#[.int .i64 0]) ?_ 0 _ rfl;refine zj ?_;exact BK23.out) hb);replace BK24:=zA (blk_below (g:=gb24) (o:=.cells #[.int .i64 t26] 3 (0,0)) (by refine zj ?_;refine blk_put (cs:=#[.int .i64 0]) ?_ 0 _ rfl;refine zj ?_;refine blk_far ?_ NB24_23.out _;refine zj ?_;exact BK24.out) hb);replace HB:=zA (below_step zB hb);(try clear hb);(try clear hb2);(try clear hk);(try clear hi)))
 go_ret
 exact ⟨ze,zv2 HB GE22 GE21⟩
end Go.Proofs.Ytngpkbbljnbojaa.I
