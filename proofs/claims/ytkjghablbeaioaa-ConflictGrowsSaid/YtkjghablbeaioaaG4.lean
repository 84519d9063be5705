import Derived.Test.YtkjghablbeaioaaG0
import Derived.Test.YtkjghablbeaioaaG1
import Derived.Test.YtkjghablbeaioaaG3
namespace Go.Proofs.Ytkjghablbeaioaa.G
open Go.RowKit Go.Proofs.YtkjghablbeaioaaW.PrintWords Go.Proofs.YtkjghablbeaioaaW.PrintLast Go.Proofs.YtkjghablbeaioaaW.PrintMore
attribute [local go_sem] max2_int min2_int max_two min_two max_three min_three max_four min_four
set_option linter.unusedVariables false
set_option linter.unusedSimpArgs false
def api_Table_solve_choices_fails.l0:Nat→List (S50)→Int→Int→Int→Int→Option (Int)
 | 0,_,_,_,_,_=>none
 | k+1,x0,x7,x8,x166000,x166001=>if x8<x7 then (if 0≤x8 then (if x8<(x0.length:Int) then ((solve_choices_fails.f k x166000 x166001 ((rd_T50 x0 x8).f0) ((rd_T50 x0 x8).f1)).bind fun t167=>(if t167=true then (some x8) else (api_Table_solve_choices_fails.l0 k x0 x7 (wrap64 (x8+1)) x166000 x166001))) else (none)) else (none)) else (some (-1))
def api_Table_solve_choices_fails.f (k:Nat) (l0:List (S50)) (a1_0:Int) (a1_1:Int):Option (Int):=api_Table_solve_choices_fails.l0 k l0 (l0.length:Int) 0 a1_0 a1_1
theorem api_Table_solve_choices_fails.mono_l:∀ k,(∀ y0 y1 y2 y3 y4,LeO (api_Table_solve_choices_fails.l0 k y0 y1 y2 y3 y4) (api_Table_solve_choices_fails.l0 (k+1) y0 y1 y2 y3 y4))
 | 0=>fun _ _ _ _ _ r h=>by simp [api_Table_solve_choices_fails.l0] at h
 | k+1=>by
  have ih0:=api_Table_solve_choices_fails.mono_l k
  ·intro y0 y1 y2 y3 y4
   unfold api_Table_solve_choices_fails.l0
   repeat' first
   | (with_reducible exact ih0 _ _ _ _ _)
   | (with_reducible exact solve_choices_fails.mono _ _ _ _ _)
   | (with_reducible exact LeO.refl _)
   | (with_reducible exact LeO.none _)
   | (with_reducible refine LeO.ite ?_ ?_)
   | (with_reducible refine LeO.bind ?_ (fun _=>?_))
   | exact LeO.none _
   | refine LeO.ite ?_ ?_
   | refine LeO.bind ?_ (fun _=>?_)
theorem api_Table_solve_choices_fails.mono:∀ a0 a1 a2 k,LeO (api_Table_solve_choices_fails.f k a0 a1 a2) (api_Table_solve_choices_fails.f (k+1) a0 a1 a2):=by
 intro a0 a1 a2 k
 have ih0:=api_Table_solve_choices_fails.mono_l k
 unfold api_Table_solve_choices_fails.f
 repeat' first
   | (with_reducible exact ih0 _ _ _ _ _)
   | (with_reducible exact solve_choices_fails.mono _ _ _ _ _)
   | (with_reducible exact LeO.refl _)
   | (with_reducible exact LeO.none _)
   | (with_reducible refine LeO.ite ?_ ?_)
   | (with_reducible refine LeO.bind ?_ (fun _=>?_))
   | exact LeO.none _
   | refine LeO.ite ?_ ?_
   | refine LeO.bind ?_ (fun _=>?_)
set_option maxHeartbeats 8000000 in
set_option maxRecDepth 100000 in
theorem api_Table_solve_choices_fails.calls (k:Nat) (A0:Option Addr) (c0:Nat) (l0:List (S50)) (a1_0:Int) (a1_1:Int) (r:Int) (w:World) (hr0:Kd.C k50 w A0 l0.length l0) (hc0:l0.length≤c0) (h:api_Table_solve_choices_fails.f k l0 a1_0 a1_1=some r) :
  Calls Try.prog 112 #[.slice A0 l0.length c0,.func (.func 113) #[.agg #[.int .i64 a1_0,.int .i64 a1_1]] #[]] w fun e w'=>e=.returned (.int .i64 r)∧Below w.heap.size w w':=by
 have hu50:=Try.underlying50
 have HR0:=zA hr0
 have HC0:=zA hc0
 clear hr0 hc0
 have HB:=zA (Below.refl w.heap.size w)
 have H:(api_Table_solve_choices_fails.l0 k l0 (l0.length:Int) 0 a1_0 a1_1)=some r:=h
 clear h
 have H':=zA H
 clear H
 go_enter Try.func112,Try.ntmps112
 go_wp2
 go_loopg [8] k (fun kq v8 w'=>∃ (x8_1:Int),v8=.int .i64 x8_1∧Aside0 (api_Table_solve_choices_fails.l0 kq l0 (l0.length:Int) x8_1 a1_0 a1_1=some r)∧Aside0 (kq≤k)∧Aside0 (Below w.heap.size w w'))
 case atStart=>exact ⟨(0),zT,H',⟨Nat.le_refl _⟩,⟨by repeat (first|(with_reducible first|exact HB.out|apply below_alloc|apply pw_below_drewN|apply below_drew1)|exact HB.out)⟩⟩
 case round=>
  clear H'
  obtain ⟨x8_1,rfl,HA,HK1,HB⟩:=hrel
  cases gk with
  | zero=>exact absurd HA.out (by simp [api_Table_solve_choices_fails.l0])
  | succ k1=>
   have H:=HA.out
   clear HA
   simp only [api_Table_solve_choices_fails.l0] at H
   rcases ifd H with ⟨c3b0,H⟩|⟨c3b0,H⟩
   ·obtain ⟨c4b0,H⟩:=ifd1 H
    obtain ⟨c5b0,H⟩:=ifd1 H
    obtain ⟨t167,A6,H⟩:=zo H
    have HC7:=zA H
    clear H
    obtain ⟨p166,q166,ad166,A166_0,c166_0,A166_1,c166_1,e166,hx166_0,hx166_1,hl166_0,hi166_0,hl166_1,hi166_1⟩:=zp (at_T50 HR0.out x8_1)
    cases e166
    replace hx166_0:=zd HB hx166_0
    replace hx166_1:=zd HB hx166_1
    have HR166_0:=zA hi166_0
    have HC166_0:=zA hl166_0
    clear hi166_0 hl166_0
    have HR166_1:=zA hi166_1
    have HC166_1:=zA hl166_1
    clear hi166_1 hl166_1
    replace p166:=eq_true p166
    replace q166:=eq_true q166
    go_upto_if 16 with (first|(go_at_call 113;(with_reducible refine (solve_choices_fails.calls k1 a1_0 a1_1 _ _ ((rd_T50 l0 x8_1).f0) _ _ ((rd_T50 l0 x8_1).f1) t167 _ (zD HR166_0 HB) HC166_0.out (zD HR166_1 HB) HC166_1.out A6.out).mono ?_);rintro e w8 ⟨rfl,hb⟩;replace HB:=zu hb;clear hb))
    (try simp only [Act.put,zi,zs,zt])
    have H:=HC7.out
    clear HC7
    by_cases c9:t167=true
    ·subst c9
     have H1:(some x8_1)=some r:=by rw [if_pos rfl] at H;exact H
     clear H
     have H:=H1
     clear H1
     obtain rfl:=Option.some.inj H
     go_wp2
     go_ret
     exact ⟨ze,by repeat (first|(with_reducible first|exact HB.out|apply below_alloc|apply pw_below_drewN|apply below_drew1)|exact HB.out)⟩
    ·replace c9:=Bool.eq_false_iff.mpr c9
     subst c9
     have H1:(api_Table_solve_choices_fails.l0 k1 l0 (l0.length:Int) (wrap64 (x8_1+1)) a1_0 a1_1)=some r:=by rw [if_neg (show ¬ (false=true) by decide)] at H;exact H
     clear H
     have H:=H1
     clear H1
     have H':=zA H
     clear H
     go_wp2
     go_roundg k1
     case measure=>have:=HK1.out;omega
     case rel=>exact ⟨(wrap64 (x8_1+1)),zT,H',⟨by have:=HK1.out;omega⟩,⟨by repeat (first|(with_reducible first|exact HB.out|apply below_alloc|apply pw_below_drewN|apply below_drew1)|exact HB.out)⟩⟩
   ·obtain rfl:=Option.some.inj H
    go_wp2
    go_ret
    exact ⟨ze,by repeat (first|(with_reducible first|exact HB.out|apply below_alloc|apply pw_below_drewN|apply below_drew1)|exact HB.out)⟩
def solve_choices_failing.f (k:Nat) (a0_0:Int) (a0_1:Int) (l1:List (S50)):Option (Int):=(api_Table_solve_choices_fails.f k l1 a0_0 a0_1).bind fun t169=>(some t169)
theorem solve_choices_failing.mono:∀ a0 a1 a2 k,LeO (solve_choices_failing.f k a0 a1 a2) (solve_choices_failing.f (k+1) a0 a1 a2):=by
 intro a0 a1 a2 k
 unfold solve_choices_failing.f
 repeat' first
   | (with_reducible exact api_Table_solve_choices_fails.mono _ _ _ _)
   | (with_reducible exact LeO.refl _)
   | (with_reducible exact LeO.none _)
   | (with_reducible refine LeO.ite ?_ ?_)
   | (with_reducible refine LeO.bind ?_ (fun _=>?_))
   | exact LeO.none _
   | refine LeO.ite ?_ ?_
   | refine LeO.bind ?_ (fun _=>?_)
set_option maxHeartbeats 8000000 in
set_option maxRecDepth 100000 in
theorem solve_choices_failing.calls (k:Nat) (a0_0:Int) (a0_1:Int) (A1:Option Addr) (c1:Nat) (l1:List (S50)) (r:Int) (w:World) (hr1:Kd.C k50 w A1 l1.length l1) (hc1:l1.length≤c1) (h:solve_choices_failing.f k a0_0 a0_1 l1=some r) :
  Calls Try.prog 101 #[.agg #[.int .i64 a0_0,.int .i64 a0_1],.slice A1 l1.length c1] w fun e w'=>e=.returned (.int .i64 r)∧Below w.heap.size w w':=by
 have hu83:=Try.underlying83
 have HR1:=zA hr1
 have HC1:=zA hc1
 clear hr1 hc1
 have HB:=zA (Below.refl w.heap.size w)
 have H:((api_Table_solve_choices_fails.f k l1 a0_0 a0_1).bind fun t169=>(some t169))=some r:=h
 clear h
 obtain ⟨t169,A3,H⟩:=zo H
 obtain rfl:=Option.some.inj H
 go_enter Try.func101,Try.ntmps101
 go_wp2_with (first|((with_reducible refine gd 2 rfl ?_);refine zx #[.int .i64 a0_0,.int .i64 a0_1] 83 (h:=?_);intro gb168 hg w4 BK168 hb GW168 HB1;have GE168:=GW168;clear HB hb hg;have HB:=HB1;clear HB1;have hcz5_0:=zc0 BK168;have hcz5_1:=zc1 BK168;have hfz5_0:=zf BK168 0;have hfz5_1:=zf BK168 1)|((with_reducible refine gate_callee (f:=112) rfl ?_);refine goesL_ (some 8) rfl rfl Try.func112 zK rfl #[.slice A1 l1.length c1,.func (.func 113) #[.agg #[.int .i64 a0_0,.int .i64 a0_1]] #[]] rfl zM ?_;(with_reducible refine (api_Table_solve_choices_fails.calls k _ _ l1 a0_0 a0_1 t169 _ (zD HR1 HB) HC1.out A3.out).mono ?_);rintro e w6 ⟨rfl,hb⟩;refine ⟨_,rfl,?_⟩;replace BK168:=zw BK168 hb;replace HB:=zu hb;clear hb))
 go_ret
 exact ⟨ze,by repeat (first|(with_reducible first|exact HB.out|apply below_alloc|apply pw_below_drewN|apply below_drew1|refine below_set ?_ GE168.out)|exact HB.out)⟩
def solve_choices_with.f (a0_0:Int) (a0_1:Int) (a1:Int) (a2:Int):Option (Int×Int):=if 0≤a1 then (some (Go.bits .or .i64 a0_0 (shl .i64 1 a1),Go.bits .or .i64 (Go.bits .andNot .i64 a0_1 (shl .i64 1 a1)) (shl .i64 a2 a1))) else (none)
def solve_choices_with.T1:Bool×List (List Nat×List Nat):=(true,[([],[]),([0],[0]),([],[]),([2],[2]),([1,3],[1,3]),([],[]),([5],[5]),([],[]),([7],[7]),([6,8],[6,8]),([],[]),([],[]),([10,11],[10,11]),([9,12],[9,12]),([4,13],[4,13]),([14,0,1,2,3,4,5,6,7,8,9,10,11,12,13,14],[14])])
def solve_choices_with.B1:List Nat:=[0,1,0,4,15,0,32,0,128,480,0,0,3072,8160,16383,32767]
theorem solve_choices_with.tab1:rtab .any (opsOf Try.f102 1)=solve_choices_with.T1:=by kernel_rfl
theorem solve_choices_with.bits1:waitsOk solve_choices_with.T1.2 solve_choices_with.B1=true:=by kernel_rfl
set_option maxHeartbeats 8000000 in
set_option maxRecDepth 100000 in
theorem solve_choices_with.calls (a0_0:Int) (a0_1:Int) (a1:Int) (a2:Int) (r1:Int) (r2:Int) (w:World) (h:solve_choices_with.f a0_0 a0_1 a1 a2=some (r1,r2)) :
  Calls Try.prog 102 #[.agg #[.int .i64 a0_0,.int .i64 a0_1],.int .i64 a1,.int .i64 a2] w fun e w'=>e=.returned (.agg #[.int .i64 r1,.int .i64 r2])∧Below w.heap.size w w':=by
 have hu83:=Try.underlying83
 have hu3:=Try.underlying3
 have HB:=zA (Below.refl w.heap.size w)
 have H:(if 0≤a1 then (some (Go.bits .or .i64 a0_0 (shl .i64 1 a1),Go.bits .or .i64 (Go.bits .andNot .i64 a0_1 (shl .i64 1 a1)) (shl .i64 a2 a1))) else (none))=some (r1,r2):=h
 clear h
 obtain ⟨c4,H⟩:=if1 H
 have c4b0:=eq_true c4
 have c4b1:decide (0≤a1)=true:=decide_eq_true c4
 clear c4
 obtain ⟨ji5,hji5⟩:=zZ (shl .i64 1 a1)
 first|rw [hji5] at H|simp only [hji5] at H
 have hji5_:(IntKind.i64.wrap (1 * 2 ^ min a1.toNat 64))=ji5:=hji5
 have hji5z:a1≤64→(IntKind.i64.wrap (1 * 2 ^ a1.toNat))=ji5:=shl_small hji5
 have hji5u:(IntKind.i64.wrap (2 ^ min a1.toNat 64))=ji5:=by have h_:=hji5_;rw [Int.one_mul] at h_;exact h_
 have hji5v:a1≤64→(IntKind.i64.wrap (2 ^ a1.toNat))=ji5:=fun hle_=>by have h_:=hji5z hle_;rw [Int.one_mul] at h_;exact h_
 have hji5y:(wrap64 (1 * 2 ^ min a1.toNat 64))=ji5:=(i64_w _).symm.trans hji5_
 have hji5x:a1≤64→(wrap64 (1 * 2 ^ a1.toNat))=ji5:=fun h_=>(i64_w _).symm.trans (hji5z h_)
 have c6b0:=eq_true (of_decide_eq_true zh:0≤a1)
 have c7b0:=eq_true (of_decide_eq_true zh:0≤a1)
 obtain ⟨ji8,hji8⟩:=zZ (shl .i64 a2 a1)
 first|rw [hji8] at H|simp only [hji8] at H
 have hji8_:(IntKind.i64.wrap (a2 * 2 ^ min a1.toNat 64))=ji8:=hji8
 have hji8z:a1≤64→(IntKind.i64.wrap (a2 * 2 ^ a1.toNat))=ji8:=shl_small hji8
 have hji8y:(wrap64 (a2 * 2 ^ min a1.toNat 64))=ji8:=(i64_w _).symm.trans hji8_
 have hji8x:a1≤64→(wrap64 (a2 * 2 ^ a1.toNat))=ji8:=fun h_=>(i64_w _).symm.trans (hji8z h_)
 simp only [Option.some.injEq,Prod.mk.injEq] at H
 obtain ⟨rfl,rfl⟩:=H
 go_enter Try.func102,Try.ntmps102
 try go_wp2_with (first|((with_reducible refine gd 3 rfl ?_);refine zx #[.int .i64 a0_0,.int .i64 a0_1] 83 (h:=?_);intro gb170 hg w9 BK170 hb GW170 HB1;have GE170:=GW170;clear HB hb hg;have HB:=HB1;clear HB1)|((with_reducible refine gd 6 rfl ?_);refine zx #[.int .i64 0,.int .i64 0] 83 (h:=?_);intro gb171 hg w10 BK171 hb GW171 HB1;have GE171:=GW171;have NB170_171:=zL hg BK170;have NB171_170:=zLs NB170_171;replace BK170:=zw BK170 hb;clear HB hb hg;have HB:=HB1;clear HB1))
 replace BK170:=zA (blk_drew BK170.out)
 replace BK171:=zA (blk_drew BK171.out)
 replace HB:=zA (below_drew1 HB.out)
 refine start_ (n:=16) (S:=fun w'=>w'.cell? ⟨gb170,0,none⟩=some (.int .i64 a0_0)∧w'.cell? ⟨gb170,1,none⟩=some (.int .i64 a0_1)) (ds:=[]) (bz 16 0) zK rfl rfl ⟨(blk_cell BK170.out 0).trans rfl,(blk_cell BK170.out 1).trans rfl⟩ (fun hHeld=>?_);refine with_tabW solve_choices_with.tab1 solve_choices_with.bits1 (fun HT_ HW_=>?_)
 generalize w10.drew=w11 at BK170 BK171 HB hHeld ⊢
 refine zP 0 7 (bz 16 1) HT_ (h:=?_)
 refine zP 2 9 (bz 16 5) HT_ (h:=?_)
 refine zP 3 10 (bz 16 13) HT_ (h:=?_)
 refine zP 5 12 (bz 16 45) HT_ (h:=?_)
 refine zP 7 14 (bz 16 173) HT_ (h:=?_)
 refine zP 8 15 (bz 16 429) HT_ (h:=?_)
 refine zP 10 17 (bz 16 1453) HT_ (h:=?_)
 refine zP 11 18 (bz 16 3501) HT_ (h:=?_)
 refine zP 12 19 (bz 16 7597) HT_ (h:=?_)
 refine zQ 1 8 (bz 16 7599) HT_ HW_ hHeld (h:=?_)
 refine zP 4 11 (bz 16 7615) HT_ (h:=?_)
 refine zQ 6 13 (bz 16 7679) HT_ HW_ hHeld (h:=?_)
 refine zP 9 16 (bz 16 8191) HT_ (h:=?_)
 refine zP 13 20 (bz 16 16383) HT_ (h:=?_)
 refine zP 14 21 (bz 16 32767) HT_ (h:=?_)
 refine one_ (i:=15) (N:=none) (bz 16 65535) rfl rfl (one_of HT_.out zK) (by decide) (fun K hK=>?_)
 have hs12:w11.cell? ⟨gb171,0,none⟩=some (.int .i64 0):=(blk_cell BK171.out 0).trans rfl
 have hfs12:=zf BK171 0
 have hns12_0:=NB170_171.out
 have hms12_0:=NB171_170.out
 have hs13:w11.cell? ⟨gb171,1,none⟩=some (.int .i64 0):=(blk_cell BK171.out 1).trans rfl
 have hfs13:=zf BK171 1
 have hns13_0:=NB170_171.out
 have hms13_0:=NB171_170.out
 refine skip_ (w1:=?_) (by rfl) rfl ?_ ?_
 rotate_left
 ·go_simp
  rfl
 refine hK.out _ _ ⟨((cell_far (p:=⟨gb171,_,none⟩) NB170_171.out _).trans (((cell_far (p:=⟨gb171,_,none⟩) NB170_171.out _).trans (hHeld.1)))),((cell_far (p:=⟨gb171,_,none⟩) NB170_171.out _).trans (((cell_far (p:=⟨gb171,_,none⟩) NB170_171.out _).trans (hHeld.2))))⟩ (fun hHeld=>?_)
 clear hK K
 refine done_ (done_of HT_.out zK) ?_
 try go_wp2
 refine bodyPost_ret (results_cell_row rfl _ _ gb171 83 #[.int .i64 (Go.bits .or .i64 a0_0 (ji5)),.int .i64 (Go.bits .or .i64 (Go.bits .andNot .i64 a0_1 (ji5)) (ji8))] (0,0) _ rfl (by refine zj ?_;refine blk_put (cs:=#[.int .i64 (Go.bits .or .i64 a0_0 (ji5)),.int .i64 0]) ?_ 1 _ rfl;refine zj ?_;refine blk_put (cs:=#[.int .i64 0,.int .i64 0]) ?_ 0 _ rfl;refine zj ?_;exact BK171.out) Try.underlying83 rfl zK) rfl ?_
 exact ⟨by first|rfl|(simp [errW_none,errW_some] <;> rfl)|(simp only [← hji5,← hji8];first|rfl|(simp [errW_none,errW_some] <;> rfl))|(simp [*,errW_none,errW_some] <;> rfl),by repeat (first|(with_reducible first|exact HB.out|apply below_alloc|apply pw_below_drewN|apply below_drew1|refine below_set ?_ GE170.out|refine below_set ?_ GE171.out)|exact HB.out)⟩
/-- What the body of a range over the solutions keeps: all that lay here (but the blocks from n0 to n1: the body's own variables),and the choices of the search. -/
def KpS (n0 n1 n2:Nat) (W W':World):Prop:=W.heap.size≤W'.heap.size∧∀ k,k<W.heap.size→((k<n0∨(n1≤k∧k<n2))∨∃ cs,W.heap[k]?=some (.cells cs 83 (0,0)))→W'.heap[k]?=W.heap[k]?
theorem KpS.refl {n0 n1 n2:Nat} (W:World):KpS n0 n1 n2 W W:=⟨Nat.le_refl _,fun _ _ _=>rfl⟩
theorem KpS.trans {n0 n1 n2:Nat} {A B C:World} (h:KpS n0 n1 n2 A B) (k:KpS n0 n1 n2 B C):KpS n0 n1 n2 A C:=
 ⟨Nat.le_trans h.1 k.1,fun j hj hp=>by
  have e:=h.2 j hj hp
  have e2:=k.2 j (Nat.lt_of_lt_of_le hj h.1) (hp.elim .inl (fun ⟨cs,hc⟩=>.inr ⟨cs,e.trans hc⟩))
  exact e2.trans e⟩
theorem KpS.below {n0 n1 n2:Nat} {A B:World} (h:Below A.heap.size A B):KpS n0 n1 n2 A B:=⟨h.size,fun j hj _=>h.block j hj⟩
theorem KpS.box {n0 n1 n2:Nat} {A B:World} (h:KpS n0 n1 n2 A B) {g:Nat} {cs:Array Value} (hb:A.heap[g]?=some (.cells cs 83 (0,0))):B.heap[g]?=some (.cells cs 83 (0,0)):=
 (h.2 g (blk_lt hb) (.inr ⟨cs,hb⟩)).trans hb
theorem KpS.kept {n0 n1 n2:Nat} {A B:World} (h:KpS n0 n1 n2 A B):Kept A B (fun k=>n0≤k∧(k<n1∨n2≤k)):=⟨h.1,fun i hi hn=>h.2 i hi (.inl (by omega))⟩
theorem KpS.put {n0 n1 n2:Nat} (h02:n0≤n2) (W:World) (l:Nat) (o o':Obj) (hl:n2≤l) (h:W.heap[l]?=some o) (ho:o.isCells=false):KpS n0 n1 n2 W (W.putObj l o'):=
 ⟨(grownBy_putObj' W l o').size,fun k hk hp=>(grownBy_putObj' W l o').block k hk (fun e=>by
  cases e
  rcases hp with hp|⟨cs,hc⟩
  ·omega
  ·rw [h] at hc;cases hc;simp [Obj.isCells] at ho)⟩
theorem KpS.set {n0 n1 n2:Nat} {W:World} {g t:Nat} {cs:Array Value} (hb:W.heap[g]?=some (.cells cs t (0,0))) (ht:t≠83) (h0:n0≤g) (h1:g<n1) (h2:n1≤n2) (j:Nat) (u:Value):KpS n0 n1 n2 W (W.setCell ⟨g,j,none⟩ u):=
 ⟨by simp [World.setCell],fun k hk hp=>Below.heap_setCell W _ u k (fun e=>by
  dsimp only at e
  subst e
  rcases hp with hp|⟨cs',hc⟩
  ·omega
  ·rw [hb] at hc;cases hc;exact ht rfl)⟩
theorem ne_row_ {A:World} {B:Nat} {row:Option Nat} (hr:∀ r,row=some r→B≤r∧∃ o:Obj,A.heap[r]?=some o∧o.isCells=false) {g t:Nat} {cs:Array Value} (hb:A.heap[g]?=some (.cells cs t (0,0))):some g≠row:=by
 intro e
 obtain ⟨_,o,ho,hc⟩:=hr g e.symm
 rw [hb] at ho
 cases ho
 simp [Obj.isCells] at hc
theorem run_loadVar_one {P:Program} (w:World) (g t ty:Nat) (v:Value) (fr:Nat×Nat) (d:TypeDesc) (hg:w.heap[g]?=some (.cells #[v] t fr)) (hu:P.underlying ty=some d) (hd:(match d with | .struct _ | .array _ _=>true|_=>false)=false) :
  (loadVar ty ⟨g,0,none⟩).run P w=.ok v w:=by
 have hagg:(isAgg ty).run P w=.ok false w:=by
  unfold isAgg
  rw [Sem.run_bind,run_underlying hu w]
  cases d <;> simp_all
 have hc:w.cell? ⟨g,0,none⟩=some v:=by simp [World.cell?,hg]
 simp [loadVar,Sem.run_bind,hagg,hc]
theorem results_two {P:Program} {fn:Func} {p p':Tmp} {ty ty':TypeId} (h:fn.results=#[.cell p ty,.cell p' ty']) (tmps:Array Value) (w:World) (g g':Nat) (v v':Value)
  (hp:tmps.getD p undef=.pointer (some ⟨g,0,none⟩)) (hp':tmps.getD p' undef=.pointer (some ⟨g',0,none⟩)) (h1:(loadVar ty ⟨g,0,none⟩).run P w=.ok v w) (h2:(loadVar ty' ⟨g',0,none⟩).run P w=.ok v' w) :
  (results fn tmps).run P w=.ok (.tuple #[v,v']) w:=by
 have e1:tmps[p]?.getD undef=.pointer (some ⟨g,0,none⟩):=by simpa using hp
 have e2:tmps[p']?.getD undef=.pointer (some ⟨g',0,none⟩):=by simpa using hp'
 simp [results,h,e1,e2,asAddr,h1,h2]
theorem two_set {W:World} {g g' t t':Nat} {v v':Value} (h1:W.heap[g]?=some (.cells #[v] t (0,0))) (h2:W.heap[g']?=some (.cells #[v'] t' (0,0))) (hne:g≠g') (u u':Value) :
  ((W.setCell ⟨g,0,none⟩ u).setCell ⟨g',0,none⟩ u').heap[g]?=some (.cells #[u] t (0,0))∧((W.setCell ⟨g,0,none⟩ u).setCell ⟨g',0,none⟩ u').heap[g']?=some (.cells #[u'] t' (0,0)):=
 ⟨blk_far (blk_put (cs:=#[v]) h1 0 u rfl) hne _,blk_put (cs:=#[v']) (blk_far h2 (Ne.symm hne) _) 0 u' rfl⟩
theorem two_keep (W:World) (g g':Nat) (u u':Value):KeepsOthers W ((W.setCell ⟨g,0,none⟩ u).setCell ⟨g',0,none⟩ u'):=(KeepsOthers.setCell _ _ _).trans (KeepsOthers.setCell _ _ _)
theorem blk_deferred {W:World} {D g t:Nat} {cs:Array Value} {x:Option (List Deferred)} (hb:W.heap[g]?=some (.cells cs t (0,0))) (hK:W.heap[D]?=some (.deferred x)) (o':Obj):(W.putObj D o').heap[g]?=some (.cells cs t (0,0)):=
 blk_grown hb (grownBy_putObj' W D o') (fun e=>by cases e;rw [hK] at hb;cases hb)
theorem KpS.grown {n0 n1 n2:Nat} {W W':World} {row:Option Nat} (hg:W.grownBy W' row) (h02:n0≤n2) (hr:∀ k,row=some k→n2≤k∧∃ cs t,W.heap[k]?=some (.cells cs t (0,0))∧t≠83):KpS n0 n1 n2 W W':=
 ⟨hg.size,fun k hk hp=>hg.block k hk (fun e=>by
  obtain ⟨h1,cs,t,hb,ht⟩:=hr k e.symm
  rcases hp with hp|⟨cs',hc⟩
  ·omega
  ·rw [hb] at hc;cases hc;exact ht rfl)⟩
theorem room_none_ {F:Fence} (hd:F.depth=none) (k:Nat):F.room k:=fun d h=>by rw [hd] at h;cases h
theorem RoundIn.anyDepth_ {F:Fence} (hd:F.depth=none) {m m':Nat} {P:Program} {l:Nat} {f:FuncId} {tmps:Array Value} {assign body:Code} {w:World} {R:Ending→World→Prop}
  (h:RoundIn F m P l f tmps assign body w R):RoundIn F m' P l f tmps assign body w R:=⟨h.1,fun c cs _=>h.2 c cs (room_none_ hd _)⟩
theorem YieldAt.anyDepth_ {F:Fence} (hd:F.depth=none) {m:Nat} (m':Nat) {P:Program} {l:Nat} {args:Array Value} {W:World} {R:Ending→World→Prop} (h:YieldAt F m P l args W R):YieldAt F m' P l args W R:=by
 obtain ⟨fn,tmps,assign,body,hy,hR⟩:=h
 exact ⟨fn,tmps,assign,body,hy,RoundIn.anyDepth_ hd hR⟩
/-- All solutions below some choices,in order. -/
def solve_search.f:Nat→List (S50)→List Int→Int→Int→Option (List Int)
 | 0,_,_,_,_=>none
 | k+1,l0,l1,a2_0,a2_1=>(solve_choices_failing.f k a2_0 a2_1 l0).bind fun t129=>(if t129≥0 then (some []) else (if (l1.length:Int)=0 then (some [a2_1]) else (if 0≤(wrap64 ((l1.length:Int) - 1)) then (if (wrap64 ((l1.length:Int) - 1))<(l1.length:Int) then (if (wrap64 ((l1.length:Int) - 1))≤(l1.length:Int) then ((solve_choices_with.f a2_0 a2_1 (rd l1 (wrap64 ((l1.length:Int) - 1))) 0).bind fun bt132=>((solve_search.f k l0 (l1.take ((wrap64 ((l1.length:Int) - 1)):Int).toNat) bt132.1 bt132.2).bind fun t134=>((solve_choices_with.f a2_0 a2_1 (rd l1 (wrap64 ((l1.length:Int) - 1))) 1).bind fun bt135=>((solve_search.f k l0 (l1.take ((wrap64 ((l1.length:Int) - 1)):Int).toNat) bt135.1 bt135.2).bind fun t137=>(some (t134++t137)))))) else (none)) else (none)) else (none))))
theorem solve_search.mono_l:∀ k,(∀ y0 y1 y2 y3,LeO (solve_search.f k y0 y1 y2 y3) (solve_search.f (k+1) y0 y1 y2 y3))
 | 0=>fun _ _ _ _ r h=>by simp [solve_search.f] at h
 | k+1=>by
  have ih0:=solve_search.mono_l k
  ·intro y0 y1 y2 y3
   unfold solve_search.f
   repeat' first
   | (with_reducible exact ih0 _ _ _ _)
   | (with_reducible exact solve_choices_failing.mono _ _ _ _)
   | (with_reducible exact LeO.refl _)
   | (with_reducible exact LeO.none _)
   | (with_reducible refine LeO.ite ?_ ?_)
   | (with_reducible refine LeO.bind ?_ (fun _=>?_))
   | exact LeO.none _
   | refine LeO.ite ?_ ?_
   | refine LeO.bind ?_ (fun _=>?_)
theorem solve_search.mono:∀ a0 a1 a2 a3 k,LeO (solve_search.f k a0 a1 a2 a3) (solve_search.f (k+1) a0 a1 a2 a3):=by
 intro a0 a1 a2 a3 k
 have ih0:=solve_search.mono_l k
 exact ih0 a0 a1 a2 a3
section
attribute [local go_sem] Oper.semAt_some
set_option maxHeartbeats 8000000 in
set_option maxRecDepth 100000 in
theorem solve_search.in_ (lp N n0 n1 n2:Nat) (J Jx:List Int→World→Prop) (w0:World) (A0:Option Addr) (c0:Nat) (l0:List (S50)) (hc0:l0.length≤c0)
  (hL_:∀ W',KpS n0 n1 n2 w0 W'→Kd.C k50 W' A0 l0.length l0) (hJb_:∀ s W W',J s W→Below W.heap.size W W'→J s W')
  (hY_:∀ m pre x W,J pre W→pre.length<N→YieldAt Fence.wide m Try.prog lp #[.int .i64 x] W fun e W'=>(e=.returned (.bool true)∧J (pre++[x]) W'∧KpS n0 n1 n2 W W')∨(e=.returned (.bool false)∧Jx (pre++[x]) W')) (k:Nat) :
  ∀ (A1:Option Addr) (c1:Nat) (l1:List Int) (a2_0:Int) (a2_1:Int) (r pre:List Int) (w:World) (hK_:KpS n0 n1 n2 w0 w) (hJ_:J pre w) (hV_:∀ W',KpS n0 n1 n2 w0 W'→Kd.C (Kd.int .i64) W' A1 l1.length l1) (hc1:l1.length≤c1) (hN:pre.length+r.length≤N) (h:solve_search.f k l0 l1 a2_0 a2_1=some r),
  Calls Try.prog 84 #[.slice A0 l0.length c0,.slice A1 l1.length c1,.agg #[.int .i64 a2_0,.int .i64 a2_1],.func (.yield lp) #[] #[]] w fun e w'=>(e=.returned (.bool true)∧J (pre++r) w'∧KpS n0 n1 n2 w w')∨(e=.returned (.bool false)∧∃ q,q <+: r∧Jx (pre++q) w'):=by
 have hL:=zA hL_
 have hJb:=zA hJb_
 have hY:=zA hY_
 clear hL_ hJb_ hY_
 induction k using Nat.strongRecOn with
 | _ k ih=>
 intro A1 c1 l1 a2_0 a2_1 r pre w hK_ hJ_ hV_ hc1 hN h
 cases k with
 | zero=>exact absurd h (by simp [solve_search.f])
 | succ k=>
 simp only [solve_search.f] at h
 have hu83:=Try.underlying83
 have hu3:=Try.underlying3
 have HK:=zA hK_
 have HJ:=zA hJ_
 have HV:=zA hV_
 clear hK_ hJ_ hV_
 have HC1:=zA hc1
 have HN:=zA hN
 clear hc1 hN
 have HB:=zA (Below.refl w.heap.size w)
 have H:=h
 clear h
 replace H:=Option.bind_eq_some_iff.mp H
 obtain ⟨t129,A50,H⟩:=H
 have A5:=zA A50
 clear A50
 have HC6:=zA H
 clear H
 have IH:=zA ih
 clear ih
 go_enter Try.func84,Try.ntmps84
 go_upto_if 14 with (first|((with_reducible refine gd 6 rfl ?_);refine zx #[.int .i64 a2_0,.int .i64 a2_1] 83 (h:=?_);intro gb128 hg w7 BK128 hb GW128 HB1;have GE128:=GW128;clear HB hb hg;have HB:=HB1;clear HB1;have hcz8_0:=zc0 BK128;have hcz8_1:=zc1 BK128;have hfz8_0:=zf BK128 0;have hfz8_1:=zf BK128 1)|(go_at_call 101;(with_reducible refine (solve_choices_failing.calls k a2_0 a2_1 _ _ l0 t129 _ ?side1 ?side2 A5.out).mono ?_);(case side1=>exact hL.out _ (KpS.trans HK.out (KpS.below zB)));(case side2=>exact hc0);rintro e w9 ⟨rfl,hb⟩;replace BK128:=zw BK128 hb;replace HB:=zu hb;clear hb))
 repeat (go_quiet (first|((with_reducible refine gd 6 rfl ?_);refine zx #[.int .i64 a2_0,.int .i64 a2_1] 83 (h:=?_);intro gb128 hg w7 BK128 hb GW128 HB1;have GE128:=GW128;clear HB hb hg;have HB:=HB1;clear HB1;have hcz8_0:=zc0 BK128;have hcz8_1:=zc1 BK128;have hfz8_0:=zf BK128 0;have hfz8_1:=zf BK128 1)|(go_at_call 101;(with_reducible refine (solve_choices_failing.calls k a2_0 a2_1 _ _ l0 t129 _ ?side1 ?side2 A5.out).mono ?_);(case side1=>exact hL.out _ (KpS.trans HK.out (KpS.below zB)));(case side2=>exact hc0);rintro e w9 ⟨rfl,hb⟩;replace BK128:=zw BK128 hb;replace HB:=zu hb;clear hb));go_upto_if 14 with (first|((with_reducible refine gd 6 rfl ?_);refine zx #[.int .i64 a2_0,.int .i64 a2_1] 83 (h:=?_);intro gb128 hg w7 BK128 hb GW128 HB1;have GE128:=GW128;clear HB hb hg;have HB:=HB1;clear HB1;have hcz8_0:=zc0 BK128;have hcz8_1:=zc1 BK128;have hfz8_0:=zf BK128 0;have hfz8_1:=zf BK128 1)|(go_at_call 101;(with_reducible refine (solve_choices_failing.calls k a2_0 a2_1 _ _ l0 t129 _ ?side1 ?side2 A5.out).mono ?_);(case side1=>exact hL.out _ (KpS.trans HK.out (KpS.below zB)));(case side2=>exact hc0);rintro e w9 ⟨rfl,hb⟩;replace BK128:=zw BK128 hb;replace HB:=zu hb;clear hb)))
 (try simp only [Act.put,zi,zs,zt])
 have H:=HC6.out
 clear HC6
 rcases if0 H with ⟨c10,H⟩|⟨c10,H⟩
 ·have c10b0:decide (0≤t129)=true:=decide_eq_true c10
  clear c10
  (first|rw [c10b0]|(simp only [i64_w,i32_w];rw [c10b0])|skip)
  obtain rfl:=Option.some.inj H
  go_wp2
  repeat (go_quiet (fail);try go_wp2)
  go_ret
  have hbel:Below w.heap.size w _:=zB
  exact .inl ⟨rfl,by (try rw [List.append_nil]);exact hJb.out _ _ _ HJ.out hbel,KpS.below hbel⟩
 ·have c10b0:decide (0≤t129)=false:=decide_eq_false c10
  clear c10
  (first|rw [c10b0]|(simp only [i64_w,i32_w];rw [c10b0])|skip)
  rcases ife H with ⟨c11b0,c11b1,H⟩|⟨c11,c11b0,c11b1,H⟩
  ·obtain rfl:=Option.some.inj H
   have hcz12_0:=zc0 BK128
   have hcz12_1:=zc1 BK128
   have hfz12_0:=zf BK128 0
   have hfz12_1:=zf BK128 1
   obtain ⟨fn,tmps,assign,body,hy,hR⟩:=hY.out (5 - 1) pre a2_1 w9 (hJb.out _ _ _ HJ.out HB.out) (by have:=HN.out;simp at this;omega)
   refine (wpIn_wide (n:=5)).1 ?_
   gi_wp2
   refine (wpIn_wide (n:=5)).1 ?_
   gi_wp2
   refine hR.mono ?_
   rintro e W3 (⟨rfl,hJ3,hK3⟩|⟨rfl,hJx3⟩)
   ·gi_wp2
    go_ret
    exact .inl ⟨rfl,hJ3,(KpS.below HB.out).trans hK3⟩
   ·gi_wp2
    go_ret
    exact .inr ⟨rfl,[a2_1],List.prefix_refl _,hJx3⟩
  ·have c11b2:¬ (l1=[]):=fun h_=>c11 (by rw [h_];rfl)
   obtain ⟨ji13,hji13⟩:∃ j_:Int,(wrap64 ((l1.length:Int) - 1))=j_:=⟨_,rfl⟩
   simp only [hji13] at H
   obtain ⟨lt_,hlt_⟩:∃ t_:List Int,t_=l1.take ((ji13):Int).toNat:=⟨_,rfl⟩
   simp only [← hlt_] at H
   have hji13w:(IntKind.i64.wrap ((l1.length:Int) - 1))=ji13:=(i64_w _).trans hji13
   obtain ⟨c14b0,H⟩:=ifd1 H
   obtain ⟨c15b0,H⟩:=ifd1 H
   have c16b0:=eq_true (of_decide_eq_true zh:0≤(ji13))
   obtain ⟨c17,H⟩:=if1 H
   have c17b0:=eq_true c17
   have c17b1:decide ((ji13)≤(l1.length:Int))=true:=decide_eq_true c17
   clear c17
   replace H:=Option.bind_eq_some_iff.mp H
   obtain ⟨⟨t132,t133⟩,A180,H⟩:=H
   have A18:=zA A180
   clear A180
   replace H:=Option.bind_eq_some_iff.mp H
   obtain ⟨t134,A190,H⟩:=H
   have A19:=zA A190
   clear A190
   replace H:=Option.bind_eq_some_iff.mp H
   obtain ⟨⟨t135,t136⟩,A210,H⟩:=H
   have A21:=zA A210
   clear A210
   replace H:=Option.bind_eq_some_iff.mp H
   obtain ⟨t137,A220,H⟩:=H
   have A22:=zA A220
   clear A220
   obtain rfl:=Option.some.inj H
   clear H
   obtain ⟨p130,q130,ad130,e130,hx130_0⟩:=zp (Kd.at_int (HV.out w9 (KpS.trans HK.out (KpS.below HB.out))) (ji13))
   cases e130
   replace p130:=eq_true p130
   replace q130:=eq_true q130
   obtain ⟨i023,hi023,_,hsz23,_⟩:=info_parts info3
   obtain ⟨hcut23,hA23,hC23⟩:=print_take_of (P:=Try.prog) (Value.int .i64) 0 30 3 .i64 Try.underlying30 hi023 hsz23 (some ad130) c1 l1 (ji13) (of_decide_eq_true zh) (of_decide_eq_true zh) HC1.out
   rw [← hlt_] at hcut23 hA23 hC23
   have HLT:=zA hlt_
   clear hlt_
   have HV131:=zA (fun W' hk_=>Kd.C_of_reads (h1:=fun _=>rfl) (hA23 _ (Kd.reads_of_C (HV.out W' hk_))))
   have HC131:=zA hC23
   clear hA23 hC23 hi023 hsz23
   have hcz24_0:=zc0 BK128
   have hcz24_1:=zc1 BK128
   have hfz24_0:=zf BK128 0
   have hfz24_1:=zf BK128 1
   have hn1:pre.length+t134.length≤N:=by have:=HN.out;simp at this;omega
   have hn2:(pre++t134).length+t137.length≤N:=by have:=HN.out;simp at this ⊢;omega
   have HN1:=zA hn1
   have HN2:=zA hn2
   clear hn1 hn2
   go_wp2
   go_quiet (fail)
   go_wp2_with (first
    | (go_at_call 102;(with_reducible refine (solve_choices_with.calls a2_0 a2_1 (rd l1 (ji13)) 0 t132 t133 _ A18.out).mono ?_);clear A18;rintro e w25 ⟨rfl,hb⟩;replace BK128:=zw BK128 hb;replace HB:=zu hb;clear hb)
    | (go_at_call 84;(with_reducible refine (IH.out k (by omega) _ _ _ t132 t133 t134 pre _ ?side1 ?side2 ?side3 ?side4 ?side5 A19.out).mono ?_);(case side1=>exact KpS.trans HK.out (KpS.below zB));(case side2=>exact hJb.out _ _ _ HJ.out zB);(case side3=>exact HV131.out);(case side4=>exact HC131.out);(case side5=>exact HN1.out);clear A19;rintro e w26 (⟨rfl,hJ1,hK1⟩|⟨rfl,q1,hq1,hx1⟩);(have HK1:=zA (KpS.trans (KpS.below zB) hK1);have HJ1:=zA hJ1;have HB1:=zA (Below.refl w26.heap.size w26);replace BK128:=zA (KpS.box hK1 (g:=gb128) (cs:=#[.int .i64 a2_0,.int .i64 a2_1]) (zk BK128));clear hJ1 hK1 HB;have hcz27_0:=zc0 BK128;have hcz27_1:=zc1 BK128;have hfz27_0:=zf BK128 0;have hfz27_1:=zf BK128 1))
    | (go_at_call 102;(with_reducible refine (solve_choices_with.calls a2_0 a2_1 (rd l1 (ji13)) 1 t135 t136 _ A21.out).mono ?_);clear A21;rintro e w28 ⟨rfl,hb⟩;replace BK128:=zw BK128 hb;replace HB1:=zA (below_step (by repeat (first|(with_reducible first|exact HB1.out|apply below_alloc|apply pw_below_drewN|apply below_drew1)|exact HB1.out)) hb);clear hb)
    | (go_at_call 84;(with_reducible refine (IH.out k (by omega) _ _ _ t135 t136 t137 (pre++t134) _ ?side1 ?side2 ?side3 ?side4 ?side5 A22.out).mono ?_);(case side1=>exact KpS.trans HK.out (KpS.trans HK1.out (KpS.below (by repeat (first|(with_reducible first|exact HB1.out|apply below_alloc|apply pw_below_drewN|apply below_drew1)|exact HB1.out)))));(case side2=>exact hJb.out _ _ _ HJ1.out (by repeat (first|(with_reducible first|exact HB1.out|apply below_alloc|apply pw_below_drewN|apply below_drew1)|exact HB1.out)));(case side3=>exact HV131.out);(case side4=>exact HC131.out);(case side5=>exact HN2.out);clear A22;rintro e w29 (⟨rfl,hJ2,hK2⟩|⟨rfl,q2,hq2,hx2⟩)))
   ·go_ret
    exact .inl ⟨rfl,by rw [← List.append_assoc];exact hJ2,KpS.trans HK1.out (KpS.trans (KpS.below (by repeat (first|(with_reducible first|exact HB1.out|apply below_alloc|apply pw_below_drewN|apply below_drew1)|exact HB1.out))) hK2)⟩
   ·go_ret
    obtain ⟨z2,hz2⟩:=hq2
    exact .inr ⟨rfl,t134++q2,⟨z2,by rw [List.append_assoc,hz2]⟩,by rw [← List.append_assoc];exact hx2⟩
   ·go_ret
    exact .inr ⟨rfl,q1,hq1.trans (List.prefix_append _ _),hx1⟩
set_option maxHeartbeats 8000000 in
set_option maxRecDepth 100000 in
theorem solve_solutions_1.in_ (lp N n0 n1 n2:Nat) (J Jx:List Int→World→Prop) (w0:World) (A0:Option Addr) (c0:Nat) (l0:List (S50)) (hc0:l0.length≤c0) (A1:Option Addr) (c1:Nat) (l1:List Int) (hc1:l1.length≤c1) (a2_0 a2_1:Int) (g0 g1 g2:Nat)
  (hL_:∀ W',KpS n0 n1 n2 w0 W'→Kd.C k50 W' A0 l0.length l0) (hV_:∀ W',KpS n0 n1 n2 w0 W'→Kd.C (Kd.int .i64) W' A1 l1.length l1) (hJb_:∀ s W W',J s W→Below W.heap.size W W'→J s W')
  (hY_:∀ m pre x W,J pre W→pre.length<N→YieldAt Fence.wide m Try.prog lp #[.int .i64 x] W fun e W'=>(e=.returned (.bool true)∧J (pre++[x]) W'∧KpS n0 n1 n2 W W')∨(e=.returned (.bool false)∧Jx (pre++[x]) W')) (k:Nat)
  (r:List Int) (w:World) (hK:KpS n0 n1 n2 w0 w) (hJ:J [] w) (hN:r.length≤N) (h:solve_search.f k l0 l1 a2_0 a2_1=some r)
  (hb0_:w.heap[g0]?=some (.cells #[.slice A0 l0.length c0] 22 (0,0))) (hb1_:w.heap[g1]?=some (.cells #[.slice A1 l1.length c1] 30 (0,0))) (hb2_:w.heap[g2]?=some (.cells #[.int .i64 a2_0,.int .i64 a2_1] 83 (0,0))) :
  Calls Try.prog 83 #[.func (.yield lp) #[] #[],.pointer (some ⟨g0,0,none⟩),.pointer (some ⟨g1,0,none⟩),.pointer (some ⟨g2,0,none⟩)] w fun e w'=>(∃ v,e=.returned v)∧((∃ xs,xs=r∧J xs w')∨(∃ pre,pre <+: r∧Jx pre w')):=by
 have hp:=solve_search.in_ lp N n0 n1 n2 J Jx w0 A0 c0 l0 hc0 hL_ hJb_ hY_ k A1 c1 l1 a2_0 a2_1 r [] w hK hJ hV_ hc1 (by simpa using hN) h
 have HP:=zA hp
 clear hp hL_ hV_ hJb_ hY_
 have hu83:=Try.underlying83
 have hu30:=Try.underlying30
 have hu22:=Try.underlying22
 have hcz0:w.cell? ⟨g0,0,none⟩=some (.slice A0 l0.length c0):=(blk_cell hb0_ 0).trans rfl
 have hcz1:w.cell? ⟨g1,0,none⟩=some (.slice A1 l1.length c1):=(blk_cell hb1_ 0).trans rfl
 have hcz2:w.cell? ⟨g2,0,none⟩=some (.int .i64 a2_0):=(blk_cell hb2_ 0).trans rfl
 have hcz3:w.cell? ⟨g2,1,none⟩=some (.int .i64 a2_1):=(blk_cell hb2_ 1).trans rfl
 clear hb0_ hb1_ hb2_
 go_enter Try.func83,Try.ntmps83
 go_wp2_with (go_at_call 84;(with_reducible refine HP.out.mono ?_);clear HP;rintro e W1 (⟨rfl,hJ1,_⟩|⟨rfl,q,hq,hx⟩))
 ·go_end0
  exact ⟨⟨_,rfl⟩,.inl ⟨_,rfl,by simpa using hJ1⟩⟩
 ·go_end0
  exact ⟨⟨_,rfl⟩,.inr ⟨q,hq,by simpa using hx⟩⟩
set_option maxHeartbeats 1000000 in
theorem solve_solutions.in_ (A0:Option Addr) (n0 c0:Nat) (A1:Option Addr) (n1 c1:Nat) (a2_0 a2_1:Int) (w:World) :
  Calls Try.prog 64 #[.slice A0 n0 c0,.slice A1 n1 c1,.agg #[.int .i64 a2_0,.int .i64 a2_1]] w fun e w'=>∃ g0 g1 g2:Nat,e=.returned (.func (.func 83) #[] #[.pointer (some ⟨g0,0,none⟩),.pointer (some ⟨g1,0,none⟩),.pointer (some ⟨g2,0,none⟩)])∧w.heap.size≤g0∧w.heap.size≤g1∧
   w'.heap[g0]?=some (.cells #[.slice A0 n0 c0] 22 (0,0))∧w'.heap[g1]?=some (.cells #[.slice A1 n1 c1] 30 (0,0))∧w'.heap[g2]?=some (.cells #[.int .i64 a2_0,.int .i64 a2_1] 83 (0,0))∧Below w.heap.size w w':=by
 go_enter Try.func64,Try.ntmps64
 have hu83:=Try.underlying83
 have hu30:=Try.underlying30
 have hu22:=Try.underlying22
 go_wp2
 go_ret
 refine ⟨_,_,_,rfl,?_,?_,?_,?_,?_,?_⟩
 ·exact Nat.le_refl _
 ·omega
 ·exact blk_alloc (blk_alloc (heap_alloc_new _ _) _) _
 ·exact blk_alloc (by have h_:=heap_alloc_new (w.alloc (.cells #[.slice A0 n0 c0] 22)) (.cells #[.slice A1 n1 c1] 30);rw [World.size_alloc] at h_;exact h_) _
 ·have h_:=heap_alloc_new ((w.alloc (.cells #[.slice A0 n0 c0] 22)).alloc (.cells #[.slice A1 n1 c1] 30)) (.cells #[.int .i64 a2_0,.int .i64 a2_1] 83);rw [World.size_alloc,World.size_alloc] at h_;exact h_
 ·exact below_alloc (below_alloc (below_alloc (Below.refl _ _) _) _) _
/-- What the function value that 'solutions' hands back gives: all solutions in order. -/
theorem solve_solutions_stops (n0 n1 n2:Nat) (A0:Option Addr) (c0:Nat) (l0:List (S50)) (hc0:l0.length≤c0) (A1:Option Addr) (c1:Nat) (l1:List Int) (hc1:l1.length≤c1) (a2_0 a2_1:Int) (g0 g1 g2 k:Nat) (r:List Int) (w:World) (h2:w.heap.size≤n2)
  (hL_:∀ W',KpS n0 n1 n2 w W'→Kd.C k50 W' A0 l0.length l0) (hV_:∀ W',KpS n0 n1 n2 w W'→Kd.C (Kd.int .i64) W' A1 l1.length l1) (h:solve_search.f k l0 l1 a2_0 a2_1=some r)
  (hb0_:w.heap[g0]?=some (.cells #[.slice A0 l0.length c0] 22 (0,0))) (hb1_:w.heap[g1]?=some (.cells #[.slice A1 l1.length c1] 30 (0,0))) (hb2_:w.heap[g2]?=some (.cells #[.int .i64 a2_0,.int .i64 a2_1] 83 (0,0))) :
  SeqStopsK Fence.wide 4 Try.prog 83 #[.pointer (some ⟨g0,0,none⟩),.pointer (some ⟨g1,0,none⟩),.pointer (some ⟨g2,0,none⟩)] (fun x:Int=>#[Value.int .i64 x]) (KpS n0 n1 n2) (fun ys=>ys=r) (fun pre=>pre <+: r) r.length w:=fun l J Jx W hW hJ hJx hY hj0=>by
 have hJb:∀ s W W',J s W→Below W.heap.size W W'→J s W':=fun s A B hs hb=>by
  exact hJ s A B none hs ⟨hb.os,hb.tape,hb.output,hb.size,fun k hk _=>hb.block k hk⟩ (fun r e=>by cases e)
 refine callsIn_wide.2 ?_
 exact solve_solutions_1.in_ l r.length n0 n1 n2 J Jx w A0 c0 l0 hc0 A1 c1 l1 hc1 a2_0 a2_1 g0 g1 g2 hL_ hV_ hJb (fun m pre x W1 hj hl=>YieldAt.anyDepth_ rfl m (hY pre x W1 hj hl)) k r W (KpS.below hW) hj0 (Nat.le_refl _) h
  ((hW.block _ (blk_lt hb0_)).trans hb0_) ((hW.block _ (blk_lt hb1_)).trans hb1_) ((hW.block _ (blk_lt hb2_)).trans hb2_)
end
section
open Go.Sort Go.Shelf
def slices_Sort_int_int.f (l0:List Int):Option (List Int):=if l0.length<4611686018427387904 then some (l0.mergeSort fun x y=>decide (x≤y)) else none
theorem slices_Sort_int_int.calls (P0_:Nat→Prop) (u9000_:Value) (l0:List Int) (r:List Int) (w0 w:World) (hB:Below w0.heap.size w0 w) (ho0:Kd.R (Kd.int .i64) 3 w w0.heap.size P0_ u9000_ l0) (h:slices_Sort_int_int.f l0=some r) :
 Calls Try.prog 50 #[u9000_] w fun e w'=>e=.returned (.tuple #[])∧Kd.R (Kd.int .i64) 3 w' w0.heap.size (fun k_=>(P0_ k_∨w.heap.size≤k_)) u9000_ r∧Below w0.heap.size w0 w'∧Kept w w' (fun k_=>P0_ k_):=by
 unfold slices_Sort_int_int.f at h
 by_cases hsz:l0.length<4611686018427387904
 case neg=>rw [if_neg hsz] at h;exact absurd h (by simp)
 rw [if_pos hsz] at h
 obtain rfl:=Option.some.inj h
 obtain ⟨A,c,rfl⟩:=Kd.R_slice ho0
 rcases A with _|ad
 ·have hl:l0=[]:=by
   rcases l0 with _|⟨x,xs⟩
   ·rfl
   ·have ho:=Kd.own_of_R (enc:=Value.int .i64) (h1:=fun _=>rfl) ho0
    rcases ho.2 with ⟨_,h0⟩|⟨_,_,_,h0,_⟩
    ·simp at h0
    ·simp at h0
  subst hl
  refine (Any.slices_Sort_int_none laysSort none c w).mono ?_
  rintro e w' ⟨rfl,rfl⟩
  exact ⟨rfl,by rw [List.mergeSort_nil];exact Kd.R_mono ho0 (fun k hk=>.inl hk),hB,Kept.refl _ _⟩
 ·have had:∃ g,ad=⟨g,0,none⟩:=by
   have ho:=Kd.own_of_R (enc:=Value.int .i64) (h1:=fun _=>rfl) ho0
   rcases ho.2 with ⟨h0,_⟩|⟨g,_,_,h0,_⟩
   ·simp at h0
   ·injection h0 with h0;injection h0 with h0;exact ⟨g,h0⟩
  obtain ⟨g,rfl⟩:=had
  obtain ⟨h1,h2,h3,h4,h5,h6,h7⟩:=int_row ho0
  refine (Any.slices_Sort_int laysSort g 0 c l0 w h7 h3 hsz).mono ?_
  rintro e w' ⟨rfl,n,os,rfl⟩
  have hl:(l0.mergeSort fun x y=>decide (x≤y)).length=l0.length:=List.length_mergeSort l0
  have hr:=int_row_put (ok':=fun k_=>(P0_ k_∨w.heap.size≤k_)) ho0 n os hl (Nat.le_refl _) (.inl h1)
  rw [List.take_of_length_le (by omega)] at hr
  exact ⟨rfl,hr,put_below hB h2 n os _,put_kept (ok:=fun k_=>P0_ k_) n os _ h1⟩
end
section
open Go.Sort Go.Shelf
def slices_Compact_int_int.f (l0:List Int):Option (List Int):=some (Lib.compact l0)
theorem slices_Compact_int_int.calls (P0_:Nat→Prop) (u9000_:Value) (l0:List Int) (r:List Int) (w0 w:World) (hB:Below w0.heap.size w0 w) (ho0:Kd.R (Kd.int .i64) 3 w w0.heap.size P0_ u9000_ l0) (h:slices_Compact_int_int.f l0=some r) :
 Calls Try.prog 51 #[u9000_] w fun e w'=>∃ v0_:Value,e=.returned (v0_)∧Kd.R (Kd.int .i64) 3 w' w0.heap.size (fun k_=>(P0_ k_∨w.heap.size≤k_)) v0_ r∧Below w0.heap.size w0 w'∧Kept w w' (fun k_=>P0_ k_):=by
 obtain rfl:=Option.some.inj h
 obtain ⟨A,c,rfl⟩:=Kd.R_slice ho0
 rcases A with _|ad
 ·have hl:l0=[]:=by
   rcases l0 with _|⟨x,xs⟩
   ·rfl
   ·have ho:=Kd.own_of_R (enc:=Value.int .i64) (h1:=fun _=>rfl) ho0
    rcases ho.2 with ⟨_,h0⟩|⟨_,_,_,h0,_⟩
    ·simp at h0
    ·simp at h0
  subst hl
  refine (Any.slices_Compact_int_empty laysCompact none c w).mono ?_
  rintro e w' ⟨rfl,rfl⟩
  exact ⟨_,rfl,Kd.R_mono ho0 (fun k hk=>.inl hk),hB,Kept.refl _ _⟩
 ·have had:∃ g,ad=⟨g,0,none⟩:=by
   have ho:=Kd.own_of_R (enc:=Value.int .i64) (h1:=fun _=>rfl) ho0
   rcases ho.2 with ⟨h0,_⟩|⟨g,_,_,h0,_⟩
   ·simp at h0
   ·injection h0 with h0;injection h0 with h0;exact ⟨g,h0⟩
  obtain ⟨g,rfl⟩:=had
  obtain ⟨h1,h2,h3,h4,h5,h6,h7⟩:=int_row ho0
  have hle:=Lib.compact_length_le l0
  refine (Any.slices_Compact_int laysCompact g 0 c l0 w h7 (by unfold maxLen at h6;omega) h5).mono ?_
  rintro e w' ⟨rfl,q,rfl⟩
  have hr:=int_row_put (ok':=fun k_=>(P0_ k_∨w.heap.size≤k_)) (ys:=Lib.compact l0++List.replicate (l0.length - (Lib.compact l0).length) 0) ho0 q #[] (by simp;omega) hle (.inl h1)
  rw [List.take_left,grow_empty] at hr
  have hb:=put_below hB h2 q #[] (Lib.compact l0++List.replicate (l0.length - (Lib.compact l0).length) 0).toArray
  have hk:=put_kept (ok:=fun k_=>P0_ k_) (w:=w) q #[] (Lib.compact l0++List.replicate (l0.length - (Lib.compact l0).length) 0).toArray h1
  rw [grow_empty] at hb hk
  exact ⟨_,rfl,hr,hb,hk⟩
end
def solve_occurring.l0:Nat→List Int→List (S50)→Int→Int→Option (List Int)
 | 0,_,_,_,_=>none
 | k+1,x3,x6,x7,x8=>if x8<x7 then (if 0≤x8 then (if x8<(x6.length:Int) then (if x3.length+((rd_T50 x6 x8).f0).length<17592186044416 then (solve_occurring.l0 k (x3++((rd_T50 x6 x8).f0)) x6 x7 (wrap64 (x8+1))) else (none)) else (none)) else (none)) else ((slices_Sort_int_int.f x3).bind fun t318=>((slices_Compact_int_int.f t318).bind fun t319=>(some t319)))
def solve_occurring.f (k:Nat) (l0:List (S50)):Option (List Int):=solve_occurring.l0 k ([]:List Int) l0 (l0.length:Int) 0
theorem solve_occurring.mono_l:∀ k,(∀ y0 y1 y2 y3,LeO (solve_occurring.l0 k y0 y1 y2 y3) (solve_occurring.l0 (k+1) y0 y1 y2 y3))
 | 0=>fun _ _ _ _ r h=>by simp [solve_occurring.l0] at h
 | k+1=>by
  have ih0:=solve_occurring.mono_l k
  ·intro y0 y1 y2 y3
   unfold solve_occurring.l0
   repeat' first
   | (with_reducible exact ih0 _ _ _ _)
   | (with_reducible exact LeO.refl _)
   | (with_reducible exact LeO.none _)
   | (with_reducible refine LeO.ite ?_ ?_)
   | (with_reducible refine LeO.bind ?_ (fun _=>?_))
   | exact LeO.none _
   | refine LeO.ite ?_ ?_
   | refine LeO.bind ?_ (fun _=>?_)
theorem solve_occurring.mono:∀ a0 k,LeO (solve_occurring.f k a0) (solve_occurring.f (k+1) a0):=by
 intro a0 k
 have ih0:=solve_occurring.mono_l k
 unfold solve_occurring.f
 repeat' first
   | (with_reducible exact ih0 _ _ _ _)
   | (with_reducible exact LeO.refl _)
   | (with_reducible exact LeO.none _)
   | (with_reducible refine LeO.ite ?_ ?_)
   | (with_reducible refine LeO.bind ?_ (fun _=>?_))
   | exact LeO.none _
   | refine LeO.ite ?_ ?_
   | refine LeO.bind ?_ (fun _=>?_)
set_option maxHeartbeats 8000000 in
set_option maxRecDepth 100000 in
theorem solve_occurring.calls (k:Nat) (A0:Option Addr) (c0:Nat) (l0:List (S50)) (r:List Int) (w:World) (hr0:Kd.C k50 w A0 l0.length l0) (hc0:l0.length≤c0) (h:solve_occurring.f k l0=some r) :
  Calls Try.prog 65 #[.slice A0 l0.length c0] w fun e w'=>∃ v0_:Value,e=.returned (v0_)∧Kd.R (Kd.int .i64) 3 w' w.heap.size (fun _=>True) v0_ r∧Below w.heap.size w w':=by
 have hu50:=Try.underlying50
 have hu30:=Try.underlying30
 have HR0:=zA hr0
 have HC0:=zA hc0
 clear hr0 hc0
 have HB:=zA (Below.refl w.heap.size w)
 have H:(solve_occurring.l0 k ([]:List Int) l0 (l0.length:Int) 0)=some r:=h
 clear h
 have H':=zA H
 clear H
 go_enter Try.func65,Try.ntmps65
 go_wp2
 go_loopg [3,8] k (fun kq v3 v8 w'=>∃ (x3_1:List Int) (x8_1:Int),v8=.int .i64 x8_1∧Aside0 (solve_occurring.l0 kq x3_1 l0 (l0.length:Int) x8_1=some r)∧Aside0 (kq≤k)∧Aside0 (Kd.R (Kd.int .i64) 3 w' w.heap.size (fun _=>True) v3 x3_1)∧Aside0 (Below w.heap.size w w'))
 case atStart=>exact ⟨(([]:List Int)),(0),zT,H',⟨Nat.le_refl _⟩,⟨by first|exact Kd.R_nil _ _ _ _ _|exact Kd.N_nil _ _ _ _ _|exact Kd.V_nil _ _ _ _ _|exact Kd.Q_nil _ _ _ _ _|exact Kd.S_nil _ _ _ _ _⟩,⟨by repeat (first|(with_reducible first|exact HB.out|apply below_alloc|apply pw_below_drewN|apply below_drew1)|exact HB.out)⟩⟩
 case round=>
  clear H'
  obtain ⟨x3_1,x8_1,rfl,HA,HK1,HO_3,HB⟩:=hrel
  cases gk with
  | zero=>exact absurd HA.out (by simp [solve_occurring.l0])
  | succ k1=>
   have H:=HA.out
   clear HA
   simp only [solve_occurring.l0] at H
   rcases ifd H with ⟨c2b0,H⟩|⟨c2b0,H⟩
   ·obtain ⟨c3b0,H⟩:=ifd1 H
    obtain ⟨c4b0,H⟩:=ifd1 H
    obtain ⟨c5,H⟩:=if1 H
    have LMc5:=zA c5
    clear c5
    first|(replace H:=zyb (x3_1++((rd_T50 l0 x8_1).f0)) H;obtain ⟨y315,Ny315,H⟩:=H)|(obtain ⟨y315,hy315⟩:=zY (x3_1++((rd_T50 l0 x8_1).f0));(try rw (occs:=.pos [1]) [← hy315] at H);have Ny315:=zA hy315;clear hy315)
    have H':=zA H
    clear H
    obtain ⟨p313,q313,ad313,A313_0,c313_0,A313_1,c313_1,e313,hx313_0,hx313_1,hl313_0,hi313_0,hl313_1,hi313_1⟩:=zp (at_T50 HR0.out x8_1)
    cases e313
    replace hx313_0:=zd HB hx313_0
    replace hx313_1:=zd HB hx313_1
    have HR313_0:=zA hi313_0
    have HC313_0:=zA hl313_0
    clear hi313_0 hl313_0
    have HR313_1:=zA hi313_1
    have HC313_1:=zA hl313_1
    clear hi313_1 hl313_1
    replace p313:=eq_true p313
    replace q313:=eq_true q313
    go_wp2_with (first|((with_reducible refine gd 5 rfl ?_);refine zx #[.slice none 0 0,.slice none 0 0] 50 (h:=?_);intro gb314 hg w6 BK314 hb GW314 HB1;have GE314:=GW314;replace HO_3:=zA (Kd.R_below (zR HO_3) hb);clear HB hb hg;have HB:=HB1;clear HB1;have hcz7_0:=zc0 BK314;have hcz7_1:=zc1 BK314;have hfz7_0:=zf BK314 0;have hfz7_1:=zf BK314 1)|((with_reducible refine gate_builtin (b:=.append) (xs:=#[.tmp 12,.tmp 14]) rfl ?_);at_builtin;refine Kd.R_append_rows (Kd.int .i64) (w0:=w) w.heap.size rfl (.tmp 12) (.tmp 14) 30 3 (.int .i64 0) 8 rfl Try.underlying30 info3 rfl (by decide) (by omega) u3 x3_1 ((rd_T50 l0 x8_1).f0) _ _ _ (fun _=>True) (fun _=>False) rfl rfl ?aO ?aR (fun _ _ h=>h) (fun _ h=>h.elim) ?aF ?aB ?aS ?aL ?_;(case aR=>exact Kd.C_below HR313_0.out zB);(case aB=>exact zB);(case aF=>exact (fun _ _=>trivial));(case aO=>exact (by refine zr ?_;exact Kd.R_mono (Kd.R_far (p:=⟨gb314,1,none⟩) (Kd.R_far (p:=⟨gb314,0,none⟩) (Kd.R_types HO_3.out BK314.out (by decide)) (fun _ hk=>hk.2) (.slice A313_0 ((rd_T50 l0 x8_1).f0).length c313_0)) (fun _ hk=>hk.2) (.slice A313_1 ((rd_T50 l0 x8_1).f1).length c313_1)) (fun _ hk=>trivial)));(case aS=>exact (below_size zB));(case aL=>have:=LMc5.out;omega);intro v316 w8 ho hb hg hat;rw [← Ny315.out] at ho;have HO317:=zA (ho);replace BK314:=zA (blk_grown (g:=gb314) (o:=.cells #[.slice A313_0 ((rd_T50 l0 x8_1).f0).length c313_0,.slice A313_1 ((rd_T50 l0 x8_1).f1).length c313_1] 50 (0,0)) (by refine zj ?_;refine blk_put (cs:=#[.slice A313_0 ((rd_T50 l0 x8_1).f0).length c313_0,.slice none 0 0]) ?_ 1 _ rfl;refine zj ?_;refine blk_put (cs:=#[.slice none 0 0,.slice none 0 0]) ?_ 0 _ rfl;refine zj ?_;exact BK314.out) hg (Kd.R_ne HO_3.out BK314.out (by decide)));replace HB:=zA (hb);clear HO_3;clear ho hb hg hat))
    go_roundg k1
    case measure=>have:=HK1.out;omega
    case rel=>exact ⟨(y315),(wrap64 (x8_1+1)),zT,H',⟨by have:=HK1.out;omega⟩,⟨by refine zr ?_;exact HO317.out⟩,⟨by repeat (first|(with_reducible first|exact HB.out|apply below_alloc|apply pw_below_drewN|apply below_drew1|refine below_set ?_ GE314.out)|exact HB.out)⟩⟩
   ·obtain ⟨t318,A9,H⟩:=zo H
    obtain ⟨t319,A10,H⟩:=zo H
    obtain rfl:=Option.some.inj H
    obtain ⟨Ao11,co11,eo11⟩:=Kd.R_slice HO_3.out
    subst eo11
    go_wp2_with (first|((with_reducible refine gate_callee (f:=50) rfl ?_);refine goesL_ (some 18) rfl rfl Try.func50 zK rfl #[.slice Ao11 x3_1.length co11] rfl zM ?_;(with_reducible refine (slices_Sort_int_int.calls (fun k_=>some k_=(.slice Ao11 x3_1.length co11:Value).ownBlock) (.slice Ao11 x3_1.length co11) x3_1 t318 w _ ?side1 ?side2 A9.out).mono ?_);(case side1=>repeat (first|(with_reducible first|exact HB.out|apply below_alloc|apply pw_below_drewN|apply below_drew1)|exact HB.out));(case side2=>exact Kd.R_tight rfl HO_3.out);rintro e w12 ⟨rfl,hy0,hb,hkp⟩;refine ⟨_,rfl,?_⟩;replace HO_3:=zA (Kd.R_reok rfl hy0 (fun k_ e_=>HO_3.out.1 k_ e_));replace HB:=zA (hb);(try clear hb);(try clear hkp);(try clear hy0))|((with_reducible refine gate_callee (f:=51) rfl ?_);refine goesL_ (some 20) rfl rfl Try.func51 zK rfl #[.slice Ao11 x3_1.length co11] rfl zM ?_;(with_reducible refine (slices_Compact_int_int.calls (fun k_=>some k_=(.slice Ao11 x3_1.length co11:Value).ownBlock) (.slice Ao11 x3_1.length co11) t318 t319 w _ ?side1 ?side2 A10.out).mono ?_);(case side1=>repeat (first|(with_reducible first|exact HB.out|apply below_alloc|apply pw_below_drewN|apply below_drew1)|exact HB.out));(case side2=>exact Kd.R_tight rfl HO_3.out);rintro e w13 ⟨v320,rfl,ho0,hb,hkp⟩;refine ⟨_,rfl,?_⟩;have HO321:=zA (Kd.R_mono (ok':=fun k_=>True) ho0 (fun k_ hk_=>trivial));replace HB:=zA (hb);clear HO_3;(try clear hb);(try clear hkp);(try clear ho0)))
    go_ret
    exact ⟨_,ze,by refine zr ?_;exact HO321.out,by repeat (first|(with_reducible first|exact HB.out|apply below_alloc|apply pw_below_drewN|apply below_drew1)|exact HB.out)⟩
/-- What First says of all solutions. -/
def solve_First.of:List Int→Int×Int
 | []=>(0,10)
 | x :: _=>(x,0)
def solve_First.f (k:Nat) (l0:List (S50)):Option (Int×Int):=(solve_valid.f k l0).bind fun t268=>(if t268=0 then ((solve_occurring.f k l0).bind fun t269=>((solve_search.f k l0 t269 0 0).bind fun s=>some (solve_First.of s))) else (some (0,t268)))
theorem solve_First.mono:∀ a0 k,LeO (solve_First.f k a0) (solve_First.f (k+1) a0):=by
 intro a0 k
 unfold solve_First.f
 repeat' first
   | (with_reducible exact solve_occurring.mono _ _)
   | (with_reducible exact solve_valid.mono _ _)
   | (with_reducible exact LeO.refl _)
   | (with_reducible exact LeO.none _)
   | (with_reducible refine LeO.ite ?_ ?_)
   | (with_reducible refine LeO.bind ?_ (fun _=>?_))
   | exact solve_search.mono _ _ _ _ _
   | exact LeO.none _
   | refine LeO.ite ?_ ?_
   | refine LeO.bind ?_ (fun _=>?_)
section
attribute [local go_sem] Oper.semAt_some
set_option maxHeartbeats 8000000 in
set_option maxRecDepth 100000 in
theorem solve_First.calls (k:Nat) (A0:Option Addr) (c0:Nat) (l0:List (S50)) (r1:Int) (r2:Int) (w:World) (hr0:Kd.C k50 w A0 l0.length l0) (hc0:l0.length≤c0) (h:solve_First.f k l0=some (r1,r2)) :
  Calls Try.prog 29 #[.slice A0 l0.length c0] w fun e w'=>e=.returned (.tuple #[.int .i64 r1,.int .i64 r2])∧Below w.heap.size w w':=by
 have hu3:=Try.underlying3
 have hu26:=Try.underlying26
 have hu83:=Try.underlying83
 have HR0:=zA hr0
 have HC0:=zA hc0
 clear hr0 hc0
 have HB:=zA (Below.refl w.heap.size w)
 have H:((solve_valid.f k l0).bind fun t268=>(if t268=0 then ((solve_occurring.f k l0).bind fun t269=>((solve_search.f k l0 t269 0 0).bind fun s=>some (solve_First.of s))) else (some (0,t268))))=some (r1,r2):=h
 clear h
 obtain ⟨t268,A2,H⟩:=zo H
 have HC3:=zA H
 clear H
 refine (callsIn_wide (n:=5)).1 ?_
 refine callsIn_of_wp_marks Try.func29 rfl trivial ?_ rfl
 simp only [Try.ntmps29,List.size_toArray,List.length_cons,List.length_nil,Nat.reduceAdd,Nat.reduceSub,Array.replicate_succ,Array.replicate_zero,List.push_toArray,List.append_toArray,List.nil_append,List.cons_append]
 refine wpIn_wide.2 ?_
 go_upto_if 9 with (first|((with_reducible refine gd 2 rfl ?_);refine zx #[.int .i64 0] 3 (h:=?_);intro gb266 hg w4 BK266 hb GW266 HB1;have GE266:=GW266;clear HB hb hg;have HB:=HB1;clear HB1)|((with_reducible refine gd 3 rfl ?_);refine zx #[.int .i64 0] 26 (h:=?_);intro gb267 hg w5 BK267 hb GW267 HB1;have GE267:=GW267;have NB266_267:=zL hg BK266;have NB267_266:=zLs NB266_267;replace BK266:=zw BK266 hb;clear HB hb hg;have HB:=HB1;clear HB1)|((with_reducible refine gate_callee (f:=63) rfl ?_);refine goesL_ (some 7) rfl rfl Try.func63 zK rfl #[.slice A0 l0.length c0] rfl zM ?_;(with_reducible refine (solve_valid.calls k _ _ l0 t268 _ (zD HR0 HB) HC0.out A2.out).mono ?_);rintro e w6 ⟨rfl,hb⟩;refine ⟨_,rfl,?_⟩;replace BK266:=zw BK266 hb;replace BK267:=zw BK267 hb;replace HB:=zu hb;clear hb))
 (try simp only [Act.put,zi,zs,zt])
 have H:=HC3.out
 clear HC3
 rcases ife H with ⟨c7b0,c7b1,H⟩|⟨c7,c7b0,c7b1,H⟩
 ·(first|rw [c7b0]|(simp only [i64_w,i32_w];rw [c7b0])|skip)
  (try rw [c7b1])
  obtain ⟨t269,A8,H⟩:=zo H
  replace H:=Option.bind_eq_some_iff.mp H
  obtain ⟨s_,AS0,H⟩:=H
  have AS:=zA AS0
  clear AS0
  have HFS:=zA (Option.some.inj H)
  clear H
  have HLT266:=zA (blk_lt BK266.out)
  have HLT267:=zA (blk_lt BK267.out)
  go_wp2_with (first
   | ((with_reducible refine gate_callee (f:=65) rfl ?_);refine goesL_ (some 13) rfl rfl Try.func65 zK rfl #[.slice A0 l0.length c0] rfl zM ?_;(with_reducible refine (solve_occurring.calls k _ _ l0 t269 _ (zD HR0 HB) HC0.out A8.out).mono ?_);rintro e w9 ⟨v270,rfl,ho0,hb⟩;refine ⟨_,rfl,?_⟩;have hn6:=zA hb.size;have HO271:=zA ho0;have HS6:=zA (below_size HB.out);replace BK266:=zw BK266 hb;replace BK267:=zw BK267 hb;replace HB:=zu hb;clear hb ho0;obtain ⟨A270,c270,e270⟩:=Kd.R_slice HO271.out;subst e270))
  refine (solve_solutions.in_ A0 l0.length c0 A270 t269.length c270 0 0 _).mono ?_
  rintro e w10 ⟨g0,g1,g2,rfl,hg0,hg1,hs0,hs1,hs2,hb⟩
  have n0_:=zA (Kd.R_below HO271.out hb)
  have n1_:=zA (zb BK266 hb)
  have n2_:=zA (zb BK267 hb)
  have n3_:=zA (below_step zB hb)
  have hn9:=zA hb.size
  have hc270:=zA (Kd.R_reads' HO271.out).2.1
  clear BK266 BK267 HB HO271 hb hg0 hg1
  have HO271:=n0_
  have BK266:=n1_
  have BK267:=n2_
  have HB:=n3_
  clear n0_ n1_ n2_ n3_
  go_wp2
  have h67:w6.heap.size≤w10.heap.size:=Nat.le_trans hn6.out hn9.out
  have hL:∀ W',KpS w.heap.size w6.heap.size w10.heap.size w10 W'→Kd.C k50 W' A0 l0.length l0:=fun W' hk=>Kd.C_kept_came k50_heap HR0.out HB.out (fun k hk=>hk.1) W' hk.kept
  have hV:∀ W',KpS w.heap.size w6.heap.size w10.heap.size w10 W'→Kd.C (Kd.int .i64) W' A270 t269.length t269:=fun W' hk=>Kd.C_kept_own (Kd.R_bound HO271.out) (fun k hk hs=>by have h_:=HS6.out;obtain ⟨_,h1,h2,_⟩:=hk;omega) W' hk.kept
  refine (wpIn_wide (n:=5)).1 ?_
  refine wpIn_rangeFunc_ownF (n:=5) rfl (by omega) (gf:=83) (lb:=#[.pointer (some ⟨g0,0,none⟩),.pointer (some ⟨g1,0,none⟩),.pointer (some ⟨g2,0,none⟩)]) rfl trivial (enters_of Try.func83 zK rfl)
   (solve_solutions_stops w.heap.size w6.heap.size w10.heap.size A0 c0 l0 HC0.out A270 c270 t269 hc270.out 0 0 g0 g1 g2 k s_ w10 (Nat.le_refl _) hL hV AS.out hs0 hs1 hs2)
   KpS.trans (fun W l o o' hl h ho _=>KpS.put (Nat.le_trans HS6.out h67) W l o o' hl h ho) (Below.refl _ _) (fun _=>rfl)
   (fun (pre:List Int) (W:World)=>pre=[]∧W.heap[gb266]?=some (.cells #[.int .i64 0] 3 (0,0))∧W.heap[gb267]?=some (.cells #[.int .i64 0] 26 (0,0))∧Below w.heap.size w W)
   (fun c pre W=>c=Code.ret∧∃ x:Int,pre=[x]∧W.heap[gb266]?=some (.cells #[.int .i64 x] 3 (0,0))∧W.heap[gb267]?=some (.cells #[.int .i64 0] 26 (0,0))∧Below w.heap.size w W)
   (fun s A B row hs hg hr=>⟨hs.1,blk_grown hs.2.1 hg (ne_row_ hr hs.2.1),blk_grown hs.2.2.1 hg (ne_row_ hr hs.2.2.1),hs.2.2.2.grown hg hs.2.2.2.size (fun k e=>Nat.le_trans HB.out.size (hr k e).1)⟩)
   (fun c s A B row hs hg hr=>by
    obtain ⟨e1,x,e2,h1,h2,h3⟩:=hs
    exact ⟨e1,x,e2,blk_grown h1 hg (ne_row_ hr h1),blk_grown h2 hg (ne_row_ hr h2),h3.grown hg h3.size (fun k e=>Nat.le_trans HB.out.size (hr k e).1)⟩)
   ⟨rfl,BK266.out,BK267.out,HB.out⟩
   (fun x=>{tmps:=#[.slice A0 l0.length c0,undef,.pointer (some ⟨gb266,0,none⟩),.pointer (some ⟨gb267,0,none⟩),.int .i64 t268,.int .i64 x,.slice A0 l0.length c0,.int .i64 t268,.int .i64 t268,.bool false,undef,.slice A0 l0.length c0,.slice A0 l0.length c0,.slice A270 t269.length c270,.agg #[.int .i64 0,.int .i64 0],.func (.func 83) #[] #[.pointer (some ⟨g0,0,none⟩),.pointer (some ⟨g1,0,none⟩),.pointer (some ⟨g2,0,none⟩)],.int .i64 x,undef],defers:=[]}) ?assign ?body ?done ?stop
  case assign=>
   intro l x W K hK
   gi_wp2
   exact hK
  case body=>
   rintro l pre x W ⟨rfl,hb1,hb2,hbl⟩ _
   have hcz0:W.cell? ⟨gb266,0,none⟩=some (.int .i64 0):=(blk_cell hb1 0).trans rfl
   have hfz0:=blk_frozen hb1 0
   have hcz1:W.cell? ⟨gb267,0,none⟩=some (.int .i64 0):=(blk_cell hb2 0).trans rfl
   have hfz1:=blk_frozen hb2 0
   have hnb:=NB266_267.out
   have hnc:=NB267_266.out
   gi_wp2
   have h2_:=two_set hb1 hb2 NB266_267.out (.int .i64 x) (.int .i64 0)
   exact ⟨two_keep _ _ _ _ _,rfl,x,rfl,h2_.1,h2_.2,below_set (below_set hbl GE266.out) GE267.out⟩
  case done=>
   rintro D ys W hD hys ⟨rfl,hb1,hb2,hbl⟩ hK
   have hcz0:W.cell? ⟨gb266,0,none⟩=some (.int .i64 0):=(blk_cell hb1 0).trans rfl
   have hfz0:=blk_frozen hb1 0
   have hcz1:W.cell? ⟨gb267,0,none⟩=some (.int .i64 0):=(blk_cell hb2 0).trans rfl
   have hfz1:=blk_frozen hb2 0
   have hnb:=NB266_267.out
   have hnc:=NB267_266.out
   have HKD:=zA hK
   clear hK
   go_wp2
   have h2_:=two_set hb1 hb2 NB266_267.out (.int .i64 0) (.int .i64 10)
   have hKD:=(two_keep W gb266 gb267 (.int .i64 0) (.int .i64 10)).same D _ HKD.out rfl
   have hbl2:Below w.heap.size w ((W.setCell ⟨gb266,0,none⟩ (.int .i64 0)).setCell ⟨gb267,0,none⟩ (.int .i64 10)):=below_set (below_set hbl GE266.out) GE267.out
   have e_:=HFS.out
   rw [← hys] at e_
   simp only [solve_First.of,Prod.mk.injEq] at e_
   obtain ⟨rfl,rfl⟩:=e_
   refine ⟨by simp,.inl ⟨_,_,rfl,run_takeDeferred hKD,?_⟩⟩
   exact ⟨_,results_two rfl _ _ gb266 gb267 _ _ rfl rfl (run_loadVar_one _ _ 3 3 _ (0,0) _ (blk_deferred h2_.1 hKD _) Try.underlying3 rfl) (run_loadVar_one _ _ 26 26 _ (0,0) _ (blk_deferred h2_.2 hKD _) Try.underlying26 rfl),rfl,hbl2.grown (grownBy_putObj' _ D _) hbl2.size (fun k e=>by cases e;exact Nat.le_trans HB.out.size hD)⟩
  case stop=>
   rintro D c pre W hD hSp ⟨rfl,x,rfl,hb1,hb2,hbl⟩ hK
   refine wpIn_wide.2 ?_
   go_wp2
   obtain ⟨z_,rfl⟩:=hSp
   have e_:=HFS.out
   simp only [solve_First.of,List.cons_append,List.nil_append,Prod.mk.injEq] at e_
   obtain ⟨rfl,rfl⟩:=e_
   refine ⟨by simp,.inl ⟨_,_,rfl,run_takeDeferred hK,?_⟩⟩
   exact ⟨_,results_two rfl _ _ gb266 gb267 _ _ rfl rfl (run_loadVar_one _ _ 3 3 _ (0,0) _ (blk_deferred hb1 hK _) Try.underlying3 rfl) (run_loadVar_one _ _ 26 26 _ (0,0) _ (blk_deferred hb2 hK _) Try.underlying26 rfl),rfl,hbl.grown (grownBy_putObj' _ D _) hbl.size (fun k e=>by cases e;exact Nat.le_trans HB.out.size hD)⟩
 ·(first|rw [c7b0]|(simp only [i64_w,i32_w];rw [c7b0])|skip)
  (try rw [c7b1])
  simp only [Option.some.injEq,Prod.mk.injEq] at H
  obtain ⟨rfl,rfl⟩:=H
  have hnb13:=NB266_267.out
  have hnc13:=NB267_266.out
  have hcz14_0:=zc0 BK266
  have hfz14_0:=zf BK266 0
  have hcz15_0:=zc0 BK267
  have hfz15_0:=zf BK267 0
  go_wp2
  have h2_:=two_set BK266.out BK267.out NB266_267.out (.int .i64 0) (.int .i64 t268)
  exact ⟨_,results_two rfl _ _ gb266 gb267 _ _ rfl rfl (run_loadVar_one _ _ 3 3 _ (0,0) _ h2_.1 Try.underlying3 rfl) (run_loadVar_one _ _ 26 26 _ (0,0) _ h2_.2 Try.underlying26 rfl),rfl,below_set (below_set HB.out GE266.out) GE267.out⟩
end
def conflict_system.l0:Nat→List (S50)→List (S50)→List Int→Int→Int→Option ((List (S50)))
 | 0,_,_,_,_,_=>none
 | k+1,x0,x5,x8,x9,x10=>if x10<x9 then (if 0≤x10 then (if x10<(x8.length:Int) then (if 0≤(rd x8 x10) then (if (rd x8 x10)<(x0.length:Int) then (if x5.length<2932031007402 then (conflict_system.l0 k x0 (x5++[(⟨(rd_T50 x0 (rd x8 x10)).f0,(rd_T50 x0 (rd x8 x10)).f1⟩:S50)]) x8 x9 (wrap64 (x10+1))) else (none)) else (none)) else (none)) else (none)) else (none)) else (some x5)
def conflict_system.f (k:Nat) (l0:List (S50)) (l1:List Int):Option ((List (S50))):=conflict_system.l0 k l0 ([]:List (S50)) l1 (l1.length:Int) 0
theorem conflict_system.mono_l:∀ k,(∀ y0 y1 y2 y3 y4,LeO (conflict_system.l0 k y0 y1 y2 y3 y4) (conflict_system.l0 (k+1) y0 y1 y2 y3 y4))
 | 0=>fun _ _ _ _ _ r h=>by simp [conflict_system.l0] at h
 | k+1=>by
  have ih0:=conflict_system.mono_l k
  ·intro y0 y1 y2 y3 y4
   unfold conflict_system.l0
   repeat' first
   | (with_reducible exact ih0 _ _ _ _ _)
   | (with_reducible exact LeO.refl _)
   | (with_reducible exact LeO.none _)
   | (with_reducible refine LeO.ite ?_ ?_)
   | (with_reducible refine LeO.bind ?_ (fun _=>?_))
   | exact LeO.none _
   | refine LeO.ite ?_ ?_
   | refine LeO.bind ?_ (fun _=>?_)
theorem conflict_system.mono:∀ a0 a1 k,LeO (conflict_system.f k a0 a1) (conflict_system.f (k+1) a0 a1):=by
 intro a0 a1 k
 have ih0:=conflict_system.mono_l k
 unfold conflict_system.f
 repeat' first
   | (with_reducible exact ih0 _ _ _ _ _)
   | (with_reducible exact LeO.refl _)
   | (with_reducible exact LeO.none _)
   | (with_reducible refine LeO.ite ?_ ?_)
   | (with_reducible refine LeO.bind ?_ (fun _=>?_))
   | exact LeO.none _
   | refine LeO.ite ?_ ?_
   | refine LeO.bind ?_ (fun _=>?_)
set_option maxHeartbeats 8000000 in
set_option maxRecDepth 100000 in
theorem conflict_system.calls (k:Nat) (P0_:Nat→Prop) (A0:Option Addr) (c0:Nat) (l0:List (S50)) (A1:Option Addr) (c1:Nat) (l1:List Int) (r:List (S50)) (w:World) (hs0:Kd.V k50 50 w w.heap.size (fun k_=>P0_ k_) (.slice A0 l0.length c0) l0) (hr1:Kd.C (Kd.int .i64) w A1 l1.length l1) (hc1:l1.length≤c1) (h:conflict_system.f k l0 l1=some r) :
  Calls Try.prog 67 #[.slice A0 l0.length c0,.slice A1 l1.length c1] w fun e w'=>∃ v0_:Value,e=.returned (v0_)∧Kd.N k50 50 w' w.heap.size (fun k_=>(P0_ k_∨w.heap.size≤k_)) v0_ r∧Below w.heap.size w w':=by
 have hu3:=Try.underlying3
 have hu50:=Try.underlying50
 have HO0:=zA (show Kd.V k50 50 w w.heap.size (fun k_=>(P0_ k_∨w.heap.size≤k_)) (.slice A0 l0.length c0) l0 from Kd.V_mono hs0 (fun k_ hk=>.inl hk))
 have HR1:=zA hr1
 have HC1:=zA hc1
 clear hr1 hc1
 have HB:=zA (Below.refl w.heap.size w)
 have H:(conflict_system.l0 k l0 ([]:List (S50)) l1 (l1.length:Int) 0)=some r:=h
 clear h
 have H':=zA H
 clear H
 go_enter Try.func67,Try.ntmps67
 go_wp2
 go_loopg [5,10] k (fun kq v5 v10 w'=>∃ (x5_1:List (S50)) (x10_1:Int),v10=.int .i64 x10_1∧Aside0 (conflict_system.l0 kq l0 x5_1 l1 (l1.length:Int) x10_1=some r)∧Aside0 (kq≤k)∧Aside0 (Kd.V k50 50 w' w.heap.size (fun k_=>(P0_ k_∨w.heap.size≤k_)∧some k_≠(v5:Value).ownBlock) (.slice A0 l0.length c0) l0)∧Aside0 (Kd.N k50 50 w' w.heap.size (fun k_=>(P0_ k_∨w.heap.size≤k_)) v5 x5_1)∧Aside0 (Below w.heap.size w w'))
 case atStart=>exact ⟨(([]:List (S50))),(0),zT,H',⟨Nat.le_refl _⟩,⟨by (with_reducible repeat (first|apply Kd.V_alloc|apply Kd.V_drewN|apply Kd.V_drew));exact Kd.V_mono HO0.out (fun _ hk=>⟨hk,(by simp [Value.ownBlock])⟩)⟩,⟨by first|exact Kd.S_nil _ _ _ _ _|exact Kd.N_nil _ _ _ _ _|exact Kd.V_nil _ _ _ _ _|exact Kd.Q_nil _ _ _ _ _|exact Kd.R_nil _ _ _ _ _⟩,⟨by repeat (first|(with_reducible first|exact HB.out|apply below_alloc|apply pw_below_drewN|apply below_drew1)|exact HB.out)⟩⟩
 case round=>
  clear H'
  obtain ⟨x5_1,x10_1,rfl,HA,HK1,HO_0,HO_5,HB⟩:=hrel
  cases gk with
  | zero=>exact absurd HA.out (by simp [conflict_system.l0])
  | succ k1=>
   have H:=HA.out
   clear HA
   simp only [conflict_system.l0] at H
   rcases ifd H with ⟨c3b0,H⟩|⟨c3b0,H⟩
   ·obtain ⟨c4b0,H⟩:=ifd1 H
    obtain ⟨c5b0,H⟩:=ifd1 H
    obtain ⟨c6b0,H⟩:=ifd1 H
    obtain ⟨c7b0,H⟩:=ifd1 H
    obtain ⟨c8,H⟩:=if1 H
    have LMc8:=zA c8
    clear c8
    first|(replace H:=zyb (x5_1++[(⟨(rd_T50 l0 (rd l1 x10_1)).f0,(rd_T50 l0 (rd l1 x10_1)).f1⟩:S50)]) H;obtain ⟨y324,Ny324,H⟩:=H)|(obtain ⟨y324,hy324⟩:=zY (x5_1++[(⟨(rd_T50 l0 (rd l1 x10_1)).f0,(rd_T50 l0 (rd l1 x10_1)).f1⟩:S50)]);(try rw (occs:=.pos [1]) [← hy324] at H);have Ny324:=zA hy324;clear hy324)
    have H':=zA H
    clear H
    obtain ⟨p322,q322,ad322,e322,hx322_0⟩:=zp (Kd.at_int HR1.out x10_1)
    cases e322
    replace hx322_0:=zd HB hx322_0
    replace p322:=eq_true p322
    replace q322:=eq_true q322
    obtain ⟨p323,q323,ad323,A323_0,c323_0,A323_1,c323_1,e323,hx323_0,hx323_1,hl323_0,hi323_0,hl323_1,hi323_1⟩:=zp (at_T50 (Kd.V_reads' HO_0.out).2.2 (rd l1 x10_1))
    cases e323
    obtain ⟨ce323,hce323,hMe323,hcc323⟩:=Kd.V_get HO_0.out z50 (rd l1 x10_1) p323 (by first|exact q323|exact of_decide_eq_true zh|(have e_:=(Kd.V_reads' HO_0.out).1;omega))
    obtain ⟨ua323_0,uc323_0,ua323_1,uc323_1,rfl,ul323_0,ge323_0,ul323_1,ge323_1⟩:=k50_openF hMe323
    have hv323_0:=hcc323 0 _ rfl
    rw [Nat.add_zero] at hv323_0
    replace hv323_0:=Option.some.inj (hv323_0.symm.trans hx323_0)
    injection hv323_0 with hva_ hvn_ hvc_
    rw [hva_] at ge323_0
    rw [hvc_] at ul323_0
    have HL323_0:=zA (show Kd.V (Kd.int .i64) 3 _ w.heap.size _ _ ((rd_T50 l0 (rd l1 x10_1)).f0) from Kd.V_mk ul323_0 ge323_0)
    clear hva_ hvn_ hvc_ ge323_0 ul323_0
    have hv323_1:=hcc323 1 _ rfl
    rw [add_field _ _ 1 (by omega)] at hv323_1
    replace hv323_1:=Option.some.inj (hv323_1.symm.trans hx323_1)
    injection hv323_1 with hva_ hvn_ hvc_
    rw [hva_] at ge323_1
    rw [hvc_] at ul323_1
    have HL323_1:=zA (show Kd.V (Kd.int .i64) 3 _ w.heap.size _ _ ((rd_T50 l0 (rd l1 x10_1)).f1) from Kd.V_mk ul323_1 ge323_1)
    clear hva_ hvn_ hvc_ ge323_1 ul323_1
    clear hcc323 hce323
    have HR323_0:=zA hi323_0
    have HC323_0:=zA hl323_0
    clear hi323_0 hl323_0
    have HR323_1:=zA hi323_1
    have HC323_1:=zA hl323_1
    clear hi323_1 hl323_1
    replace p323:=eq_true p323
    replace q323:=eq_true q323
    go_wp2_with (first|((with_reducible refine gate_builtin (b:=.append) (xs:=#[.tmp 14,.tmp 19]) rfl ?_);at_builtin;refine Kd.N_append k50 (w0:=w) w.heap.size rfl (.tmp 14) (.tmp 19) 22 50 (.agg #[(.slice none 0 0),(.slice none 0 0)]) 48 rfl Try.underlying22 info50 rfl (by decide) (by omega) u5 x5_1 (⟨(rd_T50 l0 (rd l1 x10_1)).f0,(rd_T50 l0 (rd l1 x10_1)).f1⟩:S50) [.slice A323_0 ((rd_T50 l0 (rd l1 x10_1)).f0).length c323_0,.slice A323_1 ((rd_T50 l0 (rd l1 x10_1)).f1).length c323_1] (fun k_=>(P0_ k_∨w.heap.size≤k_)) (fun k_=>((fun k_=>(P0_ k_∨w.heap.size≤k_))) k_∧some k_≠(u5:Value).ownBlock) rfl rfl ?aP (fun _ hk=>hk) ?aF ?aO ?aB ?aS ?aL ?_;(case aP=>exact (k50_mkF _ _ (⟨(rd_T50 l0 (rd l1 x10_1)).f0,(rd_T50 l0 (rd l1 x10_1)).f1⟩:S50) (Kd.V_reads' (Kd.V_mono (ok':=(fun k_=>((fun k_=>(P0_ k_∨w.heap.size≤k_))) k_∧some k_≠(u5:Value).ownBlock)) (HL323_0.out) (fun k_ hk=>⟨hk.1,hk.2⟩))).2.1 (Kd.V_F (Kd.V_mono (ok':=(fun k_=>((fun k_=>(P0_ k_∨w.heap.size≤k_))) k_∧some k_≠(u5:Value).ownBlock)) (HL323_0.out) (fun k_ hk=>⟨hk.1,hk.2⟩))) (Kd.V_reads' (Kd.V_mono (ok':=(fun k_=>((fun k_=>(P0_ k_∨w.heap.size≤k_))) k_∧some k_≠(u5:Value).ownBlock)) (HL323_1.out) (fun k_ hk=>⟨hk.1,hk.2⟩))).2.1 (Kd.V_F (Kd.V_mono (ok':=(fun k_=>((fun k_=>(P0_ k_∨w.heap.size≤k_))) k_∧some k_≠(u5:Value).ownBlock)) (HL323_1.out) (fun k_ hk=>⟨hk.1,hk.2⟩)))));(case aB=>exact zB);(case aF=>exact (fun k_ hk=>(.inr (Nat.le_trans (below_size zB) hk))));(case aO=>exact (zN HO_5));(case aS=>exact (below_size zB));(case aL=>have:=LMc8.out;omega);intro v325 w9 ho hb hg hat;rw [← Ny324.out] at ho;have HO326:=zA (ho);replace HO_0:=zA (Kd.V_afterv (ok:=(fun k_=>(P0_ k_∨w.heap.size≤k_))) (zV HO_0) hg hat);replace HL323_0:=zA (Kd.V_afterv (ok:=(fun k_=>(P0_ k_∨w.heap.size≤k_))) (by (with_reducible repeat (first|apply Kd.V_alloc|apply Kd.V_drewN|apply Kd.V_drew));exact HL323_0.out) hg hat);replace HL323_1:=zA (Kd.V_afterv (ok:=(fun k_=>(P0_ k_∨w.heap.size≤k_))) (by (with_reducible repeat (first|apply Kd.V_alloc|apply Kd.V_drewN|apply Kd.V_drew));exact HL323_1.out) hg hat);replace HB:=zA (hb);clear HO_5;clear ho hb hg hat))
    go_roundg k1
    case measure=>have:=HK1.out;omega
    case rel=>exact ⟨(y324),(wrap64 (x10_1+1)),zT,H',⟨by have:=HK1.out;omega⟩,⟨by (with_reducible repeat (first|apply Kd.V_alloc|apply Kd.V_drewN|apply Kd.V_drew));exact HO_0.out⟩,⟨by (with_reducible repeat (first|apply Kd.N_alloc|apply Kd.N_drewN|apply Kd.N_drew));exact HO326.out⟩,⟨by repeat (first|(with_reducible first|exact HB.out|apply below_alloc|apply pw_below_drewN|apply below_drew1)|exact HB.out)⟩⟩
   ·obtain rfl:=Option.some.inj H
    go_wp2
    go_ret
    exact ⟨_,ze,by (with_reducible repeat (first|apply Kd.N_alloc|apply Kd.N_drewN|apply Kd.N_drew));exact HO_5.out,by repeat (first|(with_reducible first|exact HB.out|apply below_alloc|apply pw_below_drewN|apply below_drew1)|exact HB.out)⟩
def conflict_solvable.f (k:Nat) (l0:List (S50)) (l1:List Int):Option (Bool):=(conflict_system.f k l0 l1).bind fun t327=>((solve_First.f k t327).bind fun bt330=>(some (bt330.2 == 0)))
theorem conflict_solvable.mono:∀ a0 a1 k,LeO (conflict_solvable.f k a0 a1) (conflict_solvable.f (k+1) a0 a1):=by
 intro a0 a1 k
 unfold conflict_solvable.f
 repeat' first
   | (with_reducible exact conflict_system.mono _ _ _)
   | (with_reducible exact solve_First.mono _ _)
   | (with_reducible exact LeO.refl _)
   | (with_reducible exact LeO.none _)
   | (with_reducible refine LeO.ite ?_ ?_)
   | (with_reducible refine LeO.bind ?_ (fun _=>?_))
   | exact LeO.none _
   | refine LeO.ite ?_ ?_
   | refine LeO.bind ?_ (fun _=>?_)
set_option maxHeartbeats 8000000 in
set_option maxRecDepth 100000 in
theorem conflict_solvable.calls (k:Nat) (A0:Option Addr) (c0:Nat) (l0:List (S50)) (A1:Option Addr) (c1:Nat) (l1:List Int) (r:Bool) (w:World) (hr0:Kd.C k50 w A0 l0.length l0) (hc0:l0.length≤c0) (hr1:Kd.C (Kd.int .i64) w A1 l1.length l1) (hc1:l1.length≤c1) (h:conflict_solvable.f k l0 l1=some r) :
  Calls Try.prog 43 #[.slice A0 l0.length c0,.slice A1 l1.length c1] w fun e w'=>e=.returned (.bool r)∧Below w.heap.size w w':=by
 have HR0:=zA hr0
 have HC0:=zA hc0
 clear hr0 hc0
 have HR1:=zA hr1
 have HC1:=zA hc1
 clear hr1 hc1
 have HB:=zA (Below.refl w.heap.size w)
 have H:((conflict_system.f k l0 l1).bind fun t327=>((solve_First.f k t327).bind fun bt330=>(some (bt330.2 == 0))))=some r:=h
 clear h
 obtain ⟨t327,A3,H⟩:=zo H
 obtain ⟨t330,t331,A4,H⟩:=zO H
 dsimp only at H
 obtain rfl:=Option.some.inj H
 go_enter Try.func43,Try.ntmps43
 go_wp2_with (first|((with_reducible refine gate_callee (f:=67) rfl ?_);refine goesL_ (some 10) rfl rfl Try.func67 zK rfl #[.slice A0 l0.length c0,.slice A1 l1.length c1] rfl zM ?_;(with_reducible refine (conflict_system.calls k (fun k_=>k_<w.heap.size) _ _ l0 _ _ l1 t327 _ ?side1 ?side2 HC1.out A3.out).mono ?_);(case side1=>exact Kd.V_mk HC0.out (Kd.F_below (Kd.C_F k50_heap HR0.out) zB));(case side2=>repeat (first|exact HR1.out|(with_reducible refine Kd.C_alloc ?_ _)|(with_reducible refine Kd.C_drewN ?_ _)|(with_reducible refine Kd.C_drew ?_)));rintro e w5 ⟨v328,rfl,ho0,hb⟩;refine ⟨_,rfl,?_⟩;have HO329:=zA (Kd.N_lower (Kd.N_mono (ok':=fun k_=>True) ho0 (fun k_ hk_=>trivial)) (below_size zB));replace HB:=zu hb;clear hb;(try clear ho0);obtain ⟨Ao6,co6,eo6⟩:=Kd.N_slice HO329.out;subst eo6)|((with_reducible refine gate_callee (f:=29) rfl ?_);refine goesL_ (some 11) rfl rfl Try.func29 zK rfl #[.slice Ao6 t327.length co6] rfl zM ?_;(with_reducible refine (solve_First.calls k _ _ t327 t330 t331 _ ?side1 ?side2 A4.out).mono ?_);(case side1=>exact zC (Kd.N_reads' HO329.out).2.2);(case side2=>exact (Kd.N_reads' HO329.out).2.1);rintro e w7 ⟨rfl,hb⟩;refine ⟨_,rfl,?_⟩;replace HO329:=zA (Kd.N_below (zN HO329) hb);replace HB:=zu hb;clear hb))
 go_ret
 exact ⟨ze,by repeat (first|(with_reducible first|exact HB.out|apply below_alloc|apply pw_below_drewN|apply below_drew1)|exact HB.out)⟩
def conflict_least_1_v1.f (k:Nat) (l0:List Int) (l1_0:List Int):Option (Bool):=(conflict_part.f k l0 l1_0).bind fun t333=>(some t333)
theorem conflict_least_1_v1.mono:∀ a0 a1 k,LeO (conflict_least_1_v1.f k a0 a1) (conflict_least_1_v1.f (k+1) a0 a1):=by
 intro a0 a1 k
 unfold conflict_least_1_v1.f
 repeat' first
   | (with_reducible exact conflict_part.mono _ _ _)
   | (with_reducible exact LeO.refl _)
   | (with_reducible exact LeO.none _)
   | (with_reducible refine LeO.ite ?_ ?_)
   | (with_reducible refine LeO.bind ?_ (fun _=>?_))
   | exact LeO.none _
   | refine LeO.ite ?_ ?_
   | refine LeO.bind ?_ (fun _=>?_)
set_option maxHeartbeats 8000000 in
set_option maxRecDepth 100000 in
theorem conflict_least_1_v1.calls (k:Nat) (A0:Option Addr) (c0:Nat) (l0:List Int) (gp1_0:Nat) (A1_0:Option Addr) (c1_0:Nat) (l1_0:List Int) (r:Bool) (w:World) (hr0:Kd.C (Kd.int .i64) w A0 l0.length l0) (hc0:l0.length≤c0) (hr1_0:Kd.C (Kd.int .i64) w A1_0 l1_0.length l1_0) (hc1_0:l1_0.length≤c1_0) (hb_gp1_0:w.heap[gp1_0]?=some (.cells #[.slice A1_0 l1_0.length c1_0] 30 (0,0))) (h:conflict_least_1_v1.f k l0 l1_0=some r) :
  Calls Try.prog 76 #[.slice A0 l0.length c0,.pointer (some ⟨gp1_0,0,none⟩)] w fun e w'=>e=.returned (.bool r)∧Below w.heap.size w w':=by
 have hu30:=Try.underlying30
 have HR0:=zA hr0
 have HC0:=zA hc0
 clear hr0 hc0
 have HR1_0:=zA hr1_0
 have HC1_0:=zA hc1_0
 clear hr1_0 hc1_0
 have BK332:=zA hb_gp1_0
 clear hb_gp1_0
 have HB:=zA (Below.refl w.heap.size w)
 have H:((conflict_part.f k l0 l1_0).bind fun t333=>(some t333))=some r:=h
 clear h
 obtain ⟨t333,A3,H⟩:=zo H
 obtain rfl:=Option.some.inj H
 have hcz4_0:w.cell? ⟨gp1_0,0,none⟩=some (.slice A1_0 l1_0.length c1_0):=(blk_cell BK332.out 0).trans rfl
 have hfz4_0:=zf BK332 0
 go_enter Try.func76,Try.ntmps76
 go_wp2_with (first|((with_reducible refine gate_callee (f:=77) rfl ?_);refine goesL_ (some 6) rfl rfl Try.func77 zK rfl #[.slice A0 l0.length c0,.slice A1_0 l1_0.length c1_0] rfl zM ?_;(with_reducible refine (conflict_part.calls k _ _ l0 _ _ l1_0 t333 _ ?side1 HC0.out ?side3 HC1_0.out A3.out).mono ?_);(case side1=>repeat (first|exact HR0.out|(with_reducible refine Kd.C_alloc ?_ _)|(with_reducible refine Kd.C_drewN ?_ _)|(with_reducible refine Kd.C_drew ?_)));(case side3=>repeat (first|exact HR1_0.out|(with_reducible refine Kd.C_alloc ?_ _)|(with_reducible refine Kd.C_drewN ?_ _)|(with_reducible refine Kd.C_drew ?_)));rintro e w5 ⟨rfl,hb⟩;refine ⟨_,rfl,?_⟩;replace BK332:=zw BK332 hb;replace HB:=zu hb;clear hb))
 go_ret
 exact ⟨ze,by repeat (first|(with_reducible first|exact HB.out|apply below_alloc|apply pw_below_drewN|apply below_drew1|refine below_set ?_ GE332.out)|exact HB.out)⟩
def slices_IndexFunc_int_int_conflict_least_1.l0:Nat→List (List Int)→Int→Int→List Int→Option (Int)
 | 0,_,_,_,_=>none
 | k+1,x0,x7,x8,x335000=>if x8<x7 then (if 0≤x8 then (if x8<(x0.length:Int) then ((conflict_least_1_v1.f k (rd_L1 x0 x8) x335000).bind fun t336=>(if t336=true then (some x8) else (slices_IndexFunc_int_int_conflict_least_1.l0 k x0 x7 (wrap64 (x8+1)) x335000))) else (none)) else (none)) else (some (-1))
def slices_IndexFunc_int_int_conflict_least_1.f (k:Nat) (l0:List (List Int)) (l1_0:List Int):Option (Int):=slices_IndexFunc_int_int_conflict_least_1.l0 k l0 (l0.length:Int) 0 l1_0
theorem slices_IndexFunc_int_int_conflict_least_1.mono_l:∀ k,(∀ y0 y1 y2 y3,LeO (slices_IndexFunc_int_int_conflict_least_1.l0 k y0 y1 y2 y3) (slices_IndexFunc_int_int_conflict_least_1.l0 (k+1) y0 y1 y2 y3))
 | 0=>fun _ _ _ _ r h=>by simp [slices_IndexFunc_int_int_conflict_least_1.l0] at h
 | k+1=>by
  have ih0:=slices_IndexFunc_int_int_conflict_least_1.mono_l k
  ·intro y0 y1 y2 y3
   unfold slices_IndexFunc_int_int_conflict_least_1.l0
   repeat' first
   | (with_reducible exact ih0 _ _ _ _)
   | (with_reducible exact conflict_least_1_v1.mono _ _ _)
   | (with_reducible exact LeO.refl _)
   | (with_reducible exact LeO.none _)
   | (with_reducible refine LeO.ite ?_ ?_)
   | (with_reducible refine LeO.bind ?_ (fun _=>?_))
   | exact LeO.none _
   | refine LeO.ite ?_ ?_
   | refine LeO.bind ?_ (fun _=>?_)
theorem slices_IndexFunc_int_int_conflict_least_1.mono:∀ a0 a1 k,LeO (slices_IndexFunc_int_int_conflict_least_1.f k a0 a1) (slices_IndexFunc_int_int_conflict_least_1.f (k+1) a0 a1):=by
 intro a0 a1 k
 have ih0:=slices_IndexFunc_int_int_conflict_least_1.mono_l k
 unfold slices_IndexFunc_int_int_conflict_least_1.f
 repeat' first
   | (with_reducible exact ih0 _ _ _ _)
   | (with_reducible exact conflict_least_1_v1.mono _ _ _)
   | (with_reducible exact LeO.refl _)
   | (with_reducible exact LeO.none _)
   | (with_reducible refine LeO.ite ?_ ?_)
   | (with_reducible refine LeO.bind ?_ (fun _=>?_))
   | exact LeO.none _
   | refine LeO.ite ?_ ?_
   | refine LeO.bind ?_ (fun _=>?_)
set_option maxHeartbeats 8000000 in
set_option maxRecDepth 100000 in
theorem slices_IndexFunc_int_int_conflict_least_1.calls (k:Nat) (A0:Option Addr) (c0:Nat) (l0:List (List Int)) (gp1_0:Nat) (A1_0:Option Addr) (c1_0:Nat) (l1_0:List Int) (r:Int) (w:World) (hr0:Kd.C (Kd.slice 3 (Kd.int .i64)) w A0 l0.length l0) (hc0:l0.length≤c0) (hr1_0:Kd.C (Kd.int .i64) w A1_0 l1_0.length l1_0) (hc1_0:l1_0.length≤c1_0) (hb_gp1_0:w.heap[gp1_0]?=some (.cells #[.slice A1_0 l1_0.length c1_0] 30 (0,0))) (h:slices_IndexFunc_int_int_conflict_least_1.f k l0 l1_0=some r) :
  Calls Try.prog 59 #[.slice A0 l0.length c0,.func (.func 76) #[] #[.pointer (some ⟨gp1_0,0,none⟩)]] w fun e w'=>e=.returned (.int .i64 r)∧Below w.heap.size w w':=by
 have hu30:=Try.underlying30
 have HR0:=zA hr0
 have HC0:=zA hc0
 clear hr0 hc0
 have HR1_0:=zA hr1_0
 have HC1_0:=zA hc1_0
 clear hr1_0 hc1_0
 have BK334:=zA hb_gp1_0
 clear hb_gp1_0
 have HB:=zA (Below.refl w.heap.size w)
 have H:(slices_IndexFunc_int_int_conflict_least_1.l0 k l0 (l0.length:Int) 0 l1_0)=some r:=h
 clear h
 have H':=zA H
 clear H
 go_enter Try.func59,Try.ntmps59
 go_wp2
 go_loopg [8] k (fun kq v8 w'=>∃ (x8_1:Int),v8=.int .i64 x8_1∧Aside0 (slices_IndexFunc_int_int_conflict_least_1.l0 kq l0 (l0.length:Int) x8_1 l1_0=some r)∧Aside0 (kq≤k)∧Aside0 (w'.heap[gp1_0]?=some (.cells #[(.slice A1_0 l1_0.length c1_0)] 30 (0,0)))∧Aside0 (Below w.heap.size w w'))
 case atStart=>exact ⟨(0),zT,H',⟨Nat.le_refl _⟩,⟨by refine zj ?_;exact BK334.out⟩,⟨by repeat (first|(with_reducible first|exact HB.out|apply below_alloc|apply pw_below_drewN|apply below_drew1|refine below_set ?_ GE334.out)|exact HB.out)⟩⟩
 case round=>
  clear H'
  obtain ⟨x8_1,rfl,HA,HK1,BK334,HB⟩:=hrel
  cases gk with
  | zero=>exact absurd HA.out (by simp [slices_IndexFunc_int_int_conflict_least_1.l0])
  | succ k1=>
   have H:=HA.out
   clear HA
   simp only [slices_IndexFunc_int_int_conflict_least_1.l0] at H
   rcases ifd H with ⟨c3b0,H⟩|⟨c3b0,H⟩
   ·obtain ⟨c4b0,H⟩:=ifd1 H
    obtain ⟨c5b0,H⟩:=ifd1 H
    obtain ⟨t336,A6,H⟩:=zo H
    have HC7:=zA H
    clear H
    obtain ⟨p335,q335,ad335,A335_0,c335_0,e335,hx335_0,hl335_0,hi335_0⟩:=zp (at_L1 HR0.out x8_1)
    cases e335
    replace hx335_0:=zd HB hx335_0
    have HR335_0:=zA hi335_0
    have HC335_0:=zA hl335_0
    clear hi335_0 hl335_0
    replace p335:=eq_true p335
    replace q335:=eq_true q335
    go_upto_if 16 with (first|(go_at_call 76;(with_reducible refine (conflict_least_1_v1.calls k1 _ _ (rd_L1 l0 x8_1) gp1_0 A1_0 c1_0 l1_0 t336 _ (zD HR335_0 HB) HC335_0.out (zD HR1_0 HB) HC1_0.out ?side5 A6.out).mono ?_);(case side5=>refine zj ?_;exact BK334.out);rintro e w8 ⟨rfl,hb⟩;replace BK334:=zw BK334 hb;replace HB:=zu hb;clear hb))
    (try simp only [Act.put,zi,zs,zt])
    have H:=HC7.out
    clear HC7
    by_cases c9:t336=true
    ·subst c9
     have H1:(some x8_1)=some r:=by rw [if_pos rfl] at H;exact H
     clear H
     have H:=H1
     clear H1
     obtain rfl:=Option.some.inj H
     go_wp2
     go_ret
     exact ⟨ze,by repeat (first|(with_reducible first|exact HB.out|apply below_alloc|apply pw_below_drewN|apply below_drew1|refine below_set ?_ GE334.out)|exact HB.out)⟩
    ·replace c9:=Bool.eq_false_iff.mpr c9
     subst c9
     have H1:(slices_IndexFunc_int_int_conflict_least_1.l0 k1 l0 (l0.length:Int) (wrap64 (x8_1+1)) l1_0)=some r:=by rw [if_neg (show ¬ (false=true) by decide)] at H;exact H
     clear H
     have H:=H1
     clear H1
     have H':=zA H
     clear H
     go_wp2
     go_roundg k1
     case measure=>have:=HK1.out;omega
     case rel=>exact ⟨(wrap64 (x8_1+1)),zT,H',⟨by have:=HK1.out;omega⟩,⟨by refine zj ?_;exact BK334.out⟩,⟨by repeat (first|(with_reducible first|exact HB.out|apply below_alloc|apply pw_below_drewN|apply below_drew1|refine below_set ?_ GE334.out)|exact HB.out)⟩⟩
   ·obtain rfl:=Option.some.inj H
    go_wp2
    go_ret
    exact ⟨ze,by repeat (first|(with_reducible first|exact HB.out|apply below_alloc|apply pw_below_drewN|apply below_drew1|refine below_set ?_ GE334.out)|exact HB.out)⟩
def slices_ContainsFunc_int_int_conflict_least_1.f (k:Nat) (l0:List (List Int)) (l1_0:List Int):Option (Bool):=(slices_IndexFunc_int_int_conflict_least_1.f k l0 l1_0).bind fun t338=>(some (decide (t338≥0)))
theorem slices_ContainsFunc_int_int_conflict_least_1.mono:∀ a0 a1 k,LeO (slices_ContainsFunc_int_int_conflict_least_1.f k a0 a1) (slices_ContainsFunc_int_int_conflict_least_1.f (k+1) a0 a1):=by
 intro a0 a1 k
 unfold slices_ContainsFunc_int_int_conflict_least_1.f
 repeat' first
   | (with_reducible exact slices_IndexFunc_int_int_conflict_least_1.mono _ _ _)
   | (with_reducible exact LeO.refl _)
   | (with_reducible exact LeO.none _)
   | (with_reducible refine LeO.ite ?_ ?_)
   | (with_reducible refine LeO.bind ?_ (fun _=>?_))
   | exact LeO.none _
   | refine LeO.ite ?_ ?_
   | refine LeO.bind ?_ (fun _=>?_)
set_option maxHeartbeats 8000000 in
set_option maxRecDepth 100000 in
theorem slices_ContainsFunc_int_int_conflict_least_1.calls (k:Nat) (A0:Option Addr) (c0:Nat) (l0:List (List Int)) (gp1_0:Nat) (A1_0:Option Addr) (c1_0:Nat) (l1_0:List Int) (r:Bool) (w:World) (hr0:Kd.C (Kd.slice 3 (Kd.int .i64)) w A0 l0.length l0) (hc0:l0.length≤c0) (hr1_0:Kd.C (Kd.int .i64) w A1_0 l1_0.length l1_0) (hc1_0:l1_0.length≤c1_0) (hb_gp1_0:w.heap[gp1_0]?=some (.cells #[.slice A1_0 l1_0.length c1_0] 30 (0,0))) (h:slices_ContainsFunc_int_int_conflict_least_1.f k l0 l1_0=some r) :
  Calls Try.prog 23 #[.slice A0 l0.length c0,.func (.func 76) #[] #[.pointer (some ⟨gp1_0,0,none⟩)]] w fun e w'=>e=.returned (.bool r)∧Below w.heap.size w w':=by
 have HR0:=zA hr0
 have HC0:=zA hc0
 clear hr0 hc0
 have HR1_0:=zA hr1_0
 have HC1_0:=zA hc1_0
 clear hr1_0 hc1_0
 have BK337:=zA hb_gp1_0
 clear hb_gp1_0
 have HB:=zA (Below.refl w.heap.size w)
 have H:((slices_IndexFunc_int_int_conflict_least_1.f k l0 l1_0).bind fun t338=>(some (decide (t338≥0))))=some r:=h
 clear h
 obtain ⟨t338,A3,H⟩:=zo H
 obtain rfl:=Option.some.inj H
 go_enter Try.func23,Try.ntmps23
 go_wp2_with (first|((with_reducible refine gate_callee (f:=59) rfl ?_);refine goesL_ (some 7) rfl rfl Try.func59 zK rfl #[.slice A0 l0.length c0,.func (.func 76) #[] #[.pointer (some ⟨gp1_0,0,none⟩)]] rfl zM ?_;(with_reducible refine (slices_IndexFunc_int_int_conflict_least_1.calls k _ _ l0 gp1_0 A1_0 c1_0 l1_0 t338 _ ?side1 HC0.out ?side3 HC1_0.out ?side5 A3.out).mono ?_);(case side1=>repeat (first|exact HR0.out|(with_reducible refine Kd.C_alloc ?_ _)|(with_reducible refine Kd.C_drewN ?_ _)|(with_reducible refine Kd.C_drew ?_)));(case side3=>repeat (first|exact HR1_0.out|(with_reducible refine Kd.C_alloc ?_ _)|(with_reducible refine Kd.C_drewN ?_ _)|(with_reducible refine Kd.C_drew ?_)));(case side5=>refine zj ?_;exact BK337.out);rintro e w4 ⟨rfl,hb⟩;refine ⟨_,rfl,?_⟩;replace BK337:=zw BK337 hb;replace HB:=zu hb;clear hb))
 go_ret
 exact ⟨ze,by repeat (first|(with_reducible first|exact HB.out|apply below_alloc|apply pw_below_drewN|apply below_drew1|refine below_set ?_ GE337.out)|exact HB.out)⟩
def conflict_Cores_1_v1.f (k:Nat) (l0:List Int) (l1_0:List (S50)):Option (Bool):=(conflict_solvable.f k l1_0 l0).bind fun t333=>(some (!t333))
theorem conflict_Cores_1_v1.mono:∀ a0 a1 k,LeO (conflict_Cores_1_v1.f k a0 a1) (conflict_Cores_1_v1.f (k+1) a0 a1):=by
 intro a0 a1 k
 unfold conflict_Cores_1_v1.f
 repeat' first
   | (with_reducible exact conflict_solvable.mono _ _ _)
   | (with_reducible exact LeO.refl _)
   | (with_reducible exact LeO.none _)
   | (with_reducible refine LeO.ite ?_ ?_)
   | (with_reducible refine LeO.bind ?_ (fun _=>?_))
   | exact LeO.none _
   | refine LeO.ite ?_ ?_
   | refine LeO.bind ?_ (fun _=>?_)
set_option maxHeartbeats 8000000 in
set_option maxRecDepth 100000 in
theorem conflict_Cores_1_v1.calls (k:Nat) (A0:Option Addr) (c0:Nat) (l0:List Int) (gp1_0:Nat) (A1_0:Option Addr) (c1_0:Nat) (l1_0:List (S50)) (r:Bool) (w:World) (hr0:Kd.C (Kd.int .i64) w A0 l0.length l0) (hc0:l0.length≤c0) (hr1_0:Kd.C k50 w A1_0 l1_0.length l1_0) (hc1_0:l1_0.length≤c1_0) (hb_gp1_0:w.heap[gp1_0]?=some (.cells #[.slice A1_0 l1_0.length c1_0] 22 (0,0))) (h:conflict_Cores_1_v1.f k l0 l1_0=some r) :
  Calls Try.prog 42 #[.slice A0 l0.length c0,.pointer (some ⟨gp1_0,0,none⟩)] w fun e w'=>e=.returned (.bool r)∧Below w.heap.size w w':=by
 have hu22:=Try.underlying22
 have HR0:=zA hr0
 have HC0:=zA hc0
 clear hr0 hc0
 have HR1_0:=zA hr1_0
 have HC1_0:=zA hc1_0
 clear hr1_0 hc1_0
 have BK332:=zA hb_gp1_0
 clear hb_gp1_0
 have HB:=zA (Below.refl w.heap.size w)
 have H:((conflict_solvable.f k l1_0 l0).bind fun t333=>(some (!t333)))=some r:=h
 clear h
 obtain ⟨t333,A3,H⟩:=zo H
 obtain rfl:=Option.some.inj H
 have hcz4_0:w.cell? ⟨gp1_0,0,none⟩=some (.slice A1_0 l1_0.length c1_0):=(blk_cell BK332.out 0).trans rfl
 have hfz4_0:=zf BK332 0
 go_enter Try.func42,Try.ntmps42
 go_wp2_with (first|((with_reducible refine gate_callee (f:=43) rfl ?_);refine goesL_ (some 6) rfl rfl Try.func43 zK rfl #[.slice A1_0 l1_0.length c1_0,.slice A0 l0.length c0] rfl zM ?_;(with_reducible refine (conflict_solvable.calls k _ _ l1_0 _ _ l0 t333 _ ?side1 HC1_0.out ?side3 HC0.out A3.out).mono ?_);(case side1=>repeat (first|exact HR1_0.out|(with_reducible refine Kd.C_alloc ?_ _)|(with_reducible refine Kd.C_drewN ?_ _)|(with_reducible refine Kd.C_drew ?_)));(case side3=>repeat (first|exact HR0.out|(with_reducible refine Kd.C_alloc ?_ _)|(with_reducible refine Kd.C_drewN ?_ _)|(with_reducible refine Kd.C_drew ?_)));rintro e w5 ⟨rfl,hb⟩;refine ⟨_,rfl,?_⟩;replace BK332:=zw BK332 hb;replace HB:=zu hb;clear hb))
 go_ret
 exact ⟨ze,by repeat (first|(with_reducible first|exact HB.out|apply below_alloc|apply pw_below_drewN|apply below_drew1|refine below_set ?_ GE332.out)|exact HB.out)⟩
end Go.Proofs.Ytkjghablbeaioaa.G
