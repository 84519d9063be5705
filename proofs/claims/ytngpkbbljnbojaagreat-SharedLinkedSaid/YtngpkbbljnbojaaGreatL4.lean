import Derived.Test.YtngpkbbljnbojaaGreatL0
import Derived.Test.YtngpkbbljnbojaaGreatL2
import Derived.Test.YtngpkbbljnbojaaGreatL3
namespace Go.Proofs.YtngpkbbljnbojaaGreat.L
open Go.RowKit Go.Proofs.YtngpkbbljnbojaaGreatW.PrintWords Go.Proofs.YtngpkbbljnbojaaGreatW.PrintLast Go.Proofs.YtngpkbbljnbojaaGreatW.PrintMore
attribute [local go_sem] max2_int min2_int max_two min_two max_three min_three max_four min_four Tryz.underlying108 Tryz.underlying22 Tryz.underlying26 Tryz.underlying3 Tryz.underlying43 Tryz.underlying63
set_option linter.unusedVariables false
set_option linter.unusedSimpArgs false
def api_Table_solve_choices_fails.l0:Nat→List (S63)→Int→Int→Int→Int→Option (Int)
 | 0,_,_,_,_,_=>none
 | k+1,x0,x7,x8,x79,x80=>if x8<x7 then (if 0≤x8 then (if x8<(x0.length:Int) then ((solve_choices_fails.f k x79 x80 ((rd_T63 x0 x8).f0) ((rd_T63 x0 x8).f1)).bind fun t89=>(if t89=true then (some x8) else (api_Table_solve_choices_fails.l0 k x0 x7 (wrap64 (x8+1)) x79 x80))) else (none)) else (none)) else (some (-1))
def api_Table_solve_choices_fails.f (k:Nat) (l0:List (S63)) (a1_0:Int) (a1_1:Int):Option (Int):=api_Table_solve_choices_fails.l0 k l0 (l0.length:Int) 0 a1_0 a1_1
theorem api_Table_solve_choices_fails.mono_l:∀ k,(∀ y0 y1 y2 y3 y4,LeO (api_Table_solve_choices_fails.l0 k y0 y1 y2 y3 y4) (api_Table_solve_choices_fails.l0 (k+1) y0 y1 y2 y3 y4))
 | 0=>fun _ _ _ _ _ r h=>by simp [api_Table_solve_choices_fails.l0] at h
 | k+1=>by
  have ih0:=api_Table_solve_choices_fails.mono_l k
  ·intro y0 y1 y2 y3 y4
   unfold api_Table_solve_choices_fails.l0
   repeat' first
   | (with_reducible exact ih0 _ _ _ _ _)
   | (with_reducible exact solve_choices_fails.mono _ _ _ _ _)
   | (with_reducible exact LeO.refl _)
   | (with_reducible exact LeO.none _)
   | (with_reducible refine LeO.ite ?_ ?_)
   | (with_reducible refine LeO.bind ?_ (fun _=>?_))
   | exact LeO.none _
   | refine LeO.ite ?_ ?_
   | refine LeO.bind ?_ (fun _=>?_)
theorem api_Table_solve_choices_fails.mono:∀ a0 a1 a2 k,LeO (api_Table_solve_choices_fails.f k a0 a1 a2) (api_Table_solve_choices_fails.f (k+1) a0 a1 a2):=by
 intro a0 a1 a2 k;have ih0:=api_Table_solve_choices_fails.mono_l k
 unfold api_Table_solve_choices_fails.f
 repeat' first
   | (with_reducible exact ih0 _ _ _ _ _)
   | (with_reducible exact solve_choices_fails.mono _ _ _ _ _)
   | (with_reducible exact LeO.refl _)
   | (with_reducible exact LeO.none _)
   | (with_reducible refine LeO.ite ?_ ?_)
   | (with_reducible refine LeO.bind ?_ (fun _=>?_))
   | exact LeO.none _
   | refine LeO.ite ?_ ?_
   | refine LeO.bind ?_ (fun _=>?_)
set_option maxHeartbeats 8000000 in
set_option maxRecDepth 100000 in
theorem api_Table_solve_choices_fails.calls (k:Nat) (A0:Option Addr) (c0:Nat) (l0:List (S63)) (a1_0:Int) (a1_1:Int) (r:Int) (w:World) (hr0:Kd.C k63 w A0 l0.length l0) (hc0:l0.length≤c0) (h:api_Table_solve_choices_fails.f k l0 a1_0 a1_1=some r) :
  Calls Tryz.prog 123 #[.slice A0 l0.length c0,.func (.func 125) #[.agg #[.int .i64 a1_0,.int .i64 a1_1]] #[]] w fun e w'=>e=.returned (.int .i64 r)∧Below w.heap.size w w':=by
 have HR0:=zA hr0;have HC0:=zA hc0;clear hr0 hc0;have HB:=zA (Below.refl w.heap.size w);have H:(api_Table_solve_choices_fails.l0 k l0 (l0.length:Int) 0 a1_0 a1_1)=some r:=h;clear h;have H':=zA H;clear H
 go_enter Tryz.func123,Tryz.ntmps123
 go_wp2
 go_loopg [8] k (fun kq v8 w'=>∃ (x8_1:Int),v8=.int .i64 x8_1∧Aside0 (api_Table_solve_choices_fails.l0 kq l0 (l0.length:Int) x8_1 a1_0 a1_1=some r)∧Aside0 (kq≤k)∧Aside0 (Below w.heap.size w w'))
 case atStart=>exact ⟨(0),zT,H',⟨Nat.le_refl _⟩,⟨zv0 HB⟩⟩
 case round=>
  clear H';obtain ⟨x8_1,rfl,HA,HK1,HB⟩:=hrel
  cases gk with
  | zero=>exact absurd HA.out (by simp [api_Table_solve_choices_fails.l0])
  | succ k1=>
   have H:=HA.out;clear HA;simp only [api_Table_solve_choices_fails.l0] at H
   rcases ifd H with ⟨c3b0,H⟩|⟨c3b0,H⟩
   ·obtain ⟨c4b0,H⟩:=ifd1 H;obtain ⟨c5b0,H⟩:=ifd1 H;obtain ⟨t89,A6,H⟩:=zo H;have HC7:=zA H;clear H;obtain ⟨p45,q45,ad45,A45_0,c45_0,A45_1,c45_1,e45,hx45_0,hx45_1,hl45_0,hi45_0,hl45_1,hi45_1⟩:=zp (at_T63 HR0.out x8_1)
    cases e45
    replace hx45_0:=zd HB hx45_0;replace hx45_1:=zd HB hx45_1;have HR45_0:=zA hi45_0;have HC45_0:=zA hl45_0;clear hi45_0 hl45_0;have HR45_1:=zA hi45_1;have HC45_1:=zA hl45_1;clear hi45_1 hl45_1;replace p45:=eq_true p45;replace q45:=eq_true q45
    go_upto_if 16 with (first|(go_at_call 125;(with_reducible refine (solve_choices_fails.calls k1 a1_0 a1_1 _ _ ((rd_T63 l0 x8_1).f0) _ _ ((rd_T63 l0 x8_1).f1) t89 _ (zD HR45_0 HB) HC45_0.out (zD HR45_1 HB) HC45_1.out A6.out).mono ?_);rintro e w8 ⟨rfl,hb⟩;replace HB:=zu hb;clear hb))
    (try simp only [Act.put,zi,zs,zt]);have H:=HC7.out;clear HC7
    by_cases c9:t89=true
    ·subst c9
     have H1:(some x8_1)=some r:=by rw [if_pos rfl] at H;exact H
     clear H;have H:=H1;clear H1;obtain rfl:=Option.some.inj H
     go_wp2
     go_ret
     exact ⟨ze,zv0 HB⟩
    ·replace c9:=Bool.eq_false_iff.mpr c9;subst c9
     have H1:(api_Table_solve_choices_fails.l0 k1 l0 (l0.length:Int) (wrap64 (x8_1+1)) a1_0 a1_1)=some r:=by rw [if_neg (show ¬ (false=true) by decide)] at H;exact H
     clear H;have H:=H1;clear H1;have H':=zA H;clear H
     go_wp2
     go_roundg k1
     case measure=>have:=HK1.out;omega
     case rel=>exact ⟨(wrap64 (x8_1+1)),zT,H',⟨by have:=HK1.out;omega⟩,⟨zv0 HB⟩⟩
   ·obtain rfl:=Option.some.inj H
    go_wp2
    go_ret
    exact ⟨ze,zv0 HB⟩
def solve_choices_failing.f (k:Nat) (a0_0:Int) (a0_1:Int) (l1:List (S63)):Option (Int):=(api_Table_solve_choices_fails.f k l1 a0_0 a0_1).bind fun t82=>(some t82)
theorem solve_choices_failing.mono:∀ a0 a1 a2 k,LeO (solve_choices_failing.f k a0 a1 a2) (solve_choices_failing.f (k+1) a0 a1 a2):=by
 intro a0 a1 a2 k
 unfold solve_choices_failing.f
 repeat' first
   | (with_reducible exact api_Table_solve_choices_fails.mono _ _ _ _)
   | (with_reducible exact LeO.refl _)
   | (with_reducible exact LeO.none _)
   | (with_reducible refine LeO.ite ?_ ?_)
   | (with_reducible refine LeO.bind ?_ (fun _=>?_))
   | exact LeO.none _
   | refine LeO.ite ?_ ?_
   | refine LeO.bind ?_ (fun _=>?_)
set_option maxHeartbeats 8000000 in
set_option maxRecDepth 100000 in
theorem solve_choices_failing.calls (k:Nat) (a0_0:Int) (a0_1:Int) (A1:Option Addr) (c1:Nat) (l1:List (S63)) (r:Int) (w:World) (hr1:Kd.C k63 w A1 l1.length l1) (hc1:l1.length≤c1) (h:solve_choices_failing.f k a0_0 a0_1 l1=some r) :
  Calls Tryz.prog 119 #[.agg #[.int .i64 a0_0,.int .i64 a0_1],.slice A1 l1.length c1] w fun e w'=>e=.returned (.int .i64 r)∧Below w.heap.size w w':=by
 have HR1:=zA hr1;have HC1:=zA hc1;clear hr1 hc1;have HB:=zA (Below.refl w.heap.size w);have H:((api_Table_solve_choices_fails.f k l1 a0_0 a0_1).bind fun t82=>(some t82))=some r:=h;clear h;obtain ⟨t82,A3,H⟩:=zo H;obtain rfl:=Option.some.inj H
 go_enter Tryz.func119,Tryz.ntmps119
 go_wp2_with (first|((with_reducible refine gd 2 rfl ?_);refine zx #[.int .i64 a0_0,.int .i64 a0_1] 108 ?_;intro gb53 hg w4 BK53 hb GW53 HB1;have GE53:=GW53;clear HB hb hg;have HB:=HB1;clear HB1;have hcz5_0:=zc0 BK53;have hcz5_1:=zc1 BK53;have hfz5_0:=zf BK53)|((with_reducible refine gate_callee (f:=123) rfl ?_);refine zgo 8 Tryz.func123 #[.slice A1 l1.length c1,.func (.func 125) #[.agg #[.int .i64 a0_0,.int .i64 a0_1]] #[]] ?_;(with_reducible refine (api_Table_solve_choices_fails.calls k _ _ l1 a0_0 a0_1 t82 _ (zD HR1 HB) HC1.out A3.out).mono ?_);rintro e w6 ⟨rfl,hb⟩;refine ⟨_,rfl,?_⟩;replace BK53:=zw BK53 hb;replace HB:=zu hb;clear hb))
 go_ret
 exact ⟨ze,zv1 HB GE53⟩
def solve_choices_with.f (a0_0:Int) (a0_1:Int) (a1:Int) (a2:Int):Option (Int×Int):=if 0≤a1 then (some (Go.bits .or .i64 a0_0 (shl .i64 1 a1),Go.bits .or .i64 (Go.bits .andNot .i64 a0_1 (shl .i64 1 a1)) (shl .i64 a2 a1))) else (none)
def solve_choices_with.T1:Bool×List (List Nat×List Nat):=(true,[([],[]),([0],[0]),([],[]),([2],[2]),([1,3],[1,3]),([],[]),([5],[5]),([],[]),([7],[7]),([6,8],[6,8]),([],[]),([],[]),([10,11],[10,11]),([9,12],[9,12]),([4,13],[4,13]),([14,0,1,2,3,4,5,6,7,8,9,10,11,12,13,14],[14])])
def solve_choices_with.B1:List Nat:=[0,1,0,4,15,0,32,0,128,480,0,0,3072,8160,16383,32767]
theorem solve_choices_with.tab1:rtab .any (opsOf Tryz.f120 1)=solve_choices_with.T1:=by kernel_rfl
theorem solve_choices_with.bits1:waitsOk solve_choices_with.T1.2 solve_choices_with.B1=true:=by kernel_rfl
set_option maxHeartbeats 8000000 in
set_option maxRecDepth 100000 in
theorem solve_choices_with.calls (a0_0:Int) (a0_1:Int) (a1:Int) (a2:Int) (r1:Int) (r2:Int) (w:World) (h:solve_choices_with.f a0_0 a0_1 a1 a2=some (r1,r2)) :
  Calls Tryz.prog 120 #[.agg #[.int .i64 a0_0,.int .i64 a0_1],.int .i64 a1,.int .i64 a2] w fun e w'=>e=.returned (.agg #[.int .i64 r1,.int .i64 r2])∧Below w.heap.size w w':=by
 have HB:=zA (Below.refl w.heap.size w);have H:(if 0≤a1 then (some (Go.bits .or .i64 a0_0 (shl .i64 1 a1),Go.bits .or .i64 (Go.bits .andNot .i64 a0_1 (shl .i64 1 a1)) (shl .i64 a2 a1))) else (none))=some (r1,r2):=h;clear h;obtain ⟨c4,H⟩:=if1 H;have c4b0:=eq_true c4;have c4b1:decide (0≤a1)=true:=decide_eq_true c4;clear c4;obtain ⟨ji5,hji5⟩:=zZ (shl .i64 1 a1)
 first|rw [hji5] at H|simp only [hji5] at H
 have hji5_:(IntKind.i64.wrap (1 * 2 ^ min a1.toNat 64))=ji5:=hji5;have hji5z:a1≤64→(IntKind.i64.wrap (1 * 2 ^ a1.toNat))=ji5:=shl_small hji5
 have hji5u:(IntKind.i64.wrap (2 ^ min a1.toNat 64))=ji5:=by have h_:=hji5_;rw [Int.one_mul] at h_;exact h_
 have hji5v:a1≤64→(IntKind.i64.wrap (2 ^ a1.toNat))=ji5:=fun hle_=>by have h_:=hji5z hle_;rw [Int.one_mul] at h_;exact h_
 have hji5y:(wrap64 (1 * 2 ^ min a1.toNat 64))=ji5:=(i64_w _).symm.trans hji5_
 have hji5x:a1≤64→(wrap64 (1 * 2 ^ a1.toNat))=ji5:=fun h_=>(i64_w _).symm.trans (hji5z h_)
 have c6b0:=eq_true (of_decide_eq_true zh:0≤a1);have c7b0:=eq_true (of_decide_eq_true zh:0≤a1);obtain ⟨ji8,hji8⟩:=zZ (shl .i64 a2 a1)
 first|rw [hji8] at H|simp only [hji8] at H
 have hji8_:(IntKind.i64.wrap (a2 * 2 ^ min a1.toNat 64))=ji8:=hji8;have hji8z:a1≤64→(IntKind.i64.wrap (a2 * 2 ^ a1.toNat))=ji8:=shl_small hji8;have hji8y:(wrap64 (a2 * 2 ^ min a1.toNat 64))=ji8:=(i64_w _).symm.trans hji8_
 have hji8x:a1≤64→(wrap64 (a2 * 2 ^ a1.toNat))=ji8:=fun h_=>(i64_w _).symm.trans (hji8z h_)
 simp only [Option.some.injEq,Prod.mk.injEq] at H;obtain ⟨rfl,rfl⟩:=H
 go_enter Tryz.func120,Tryz.ntmps120
 try go_wp2_with (first|((with_reducible refine gd 3 rfl ?_);refine zx #[.int .i64 a0_0,.int .i64 a0_1] 108 ?_;intro gb47 hg w9 BK47 hb GW47 HB1;have GE47:=GW47;clear HB hb hg;have HB:=HB1;clear HB1)|((with_reducible refine gd 6 rfl ?_);refine zx #[.int .i64 0,.int .i64 0] 108 ?_;intro gb46 hg w10 BK46 hb GW46 HB1;have GE46:=GW46;have NB47_46:=zL hg BK47;have NB46_47:=zLs NB47_46;replace BK47:=zw BK47 hb;clear HB hb hg;have HB:=HB1;clear HB1))
 replace BK47:=zA (blk_drew BK47.out);replace BK46:=zA (blk_drew BK46.out);replace HB:=zA (below_drew1 HB.out);refine start_ (n:=16) (S:=fun w'=>w'.cell? ⟨gb47,0,none⟩=some (.int .i64 a0_0)∧w'.cell? ⟨gb47,1,none⟩=some (.int .i64 a0_1)) (ds:=[]) (bz 16 0) zK rfl rfl ⟨zc0 BK47,zc1 BK47⟩ (fun hHeld=>?_);refine with_tabW solve_choices_with.tab1 solve_choices_with.bits1 (fun HT_ HW_=>?_)
 generalize w10.drew=w11 at BK47 BK46 HB hHeld ⊢
 refine zP 0 7 (bz 16 1) HT_ ?_;refine zP 2 9 (bz 16 5) HT_ ?_;refine zP 3 10 (bz 16 13) HT_ ?_;refine zP 5 12 (bz 16 45) HT_ ?_;refine zP 7 14 (bz 16 173) HT_ ?_;refine zP 8 15 (bz 16 429) HT_ ?_;refine zP 10 17 (bz 16 1453) HT_ ?_;refine zP 11 18 (bz 16 3501) HT_ ?_;refine zP 12 19 (bz 16 7597) HT_ ?_;refine zQ 1 8 (bz 16 7599) HT_ HW_ hHeld ?_;refine zP 4 11 (bz 16 7615) HT_ ?_;refine zQ 6 13 (bz 16 7679) HT_ HW_ hHeld ?_;refine zP 9 16 (bz 16 8191) HT_ ?_;refine zP 13 20 (bz 16 16383) HT_ ?_;refine zP 14 21 (bz 16 32767) HT_ ?_;refine one_ (i:=15) (N:=none) (bz 16 65535) rfl rfl (one_of HT_.out zK) (by decide) (fun K hK=>?_);have hs12:w11.cell? ⟨gb46,0,none⟩=some (.int .i64 0):=zc0 BK46;have hfs12:=zf BK46 0;have hns12_0:=NB47_46.out;have hms12_0:=NB46_47.out;have hs13:w11.cell? ⟨gb46,1,none⟩=some (.int .i64 0):=zc1 BK46;have hfs13:=zf BK46 1;have hns13_0:=NB47_46.out;have hms13_0:=NB46_47.out;refine skip_ (w1:=?_) (by rfl) rfl ?_ ?_;rotate_left
 ·go_simp
  rfl
 refine hK.out _ _ ⟨((cell_far (p:=⟨gb46,_,none⟩) NB47_46.out _).trans (((cell_far (p:=⟨gb46,_,none⟩) NB47_46.out _).trans (hHeld.1)))),((cell_far (p:=⟨gb46,_,none⟩) NB47_46.out _).trans (((cell_far (p:=⟨gb46,_,none⟩) NB47_46.out _).trans (hHeld.2))))⟩ (fun hHeld=>?_);clear hK K;refine done_ (done_of HT_.out zK) ?_
 try go_wp2
 refine bodyPost_ret (results_cell_row rfl _ _ gb46 108 #[.int .i64 (Go.bits .or .i64 a0_0 (ji5)),.int .i64 (Go.bits .or .i64 (Go.bits .andNot .i64 a0_1 (ji5)) (ji8))] (0,0) _ rfl (by refine zj ?_;refine blk_put (cs:=#[.int .i64 (Go.bits .or .i64 a0_0 (ji5)),.int .i64 0]) ?_ 1 _ rfl;refine zj ?_;refine blk_put (cs:=#[.int .i64 0,.int .i64 0]) ?_ 0 _ rfl;refine zj ?_;exact BK46.out) Tryz.underlying108 rfl zK) rfl ?_;exact ⟨by first|rfl|(simp [errW_none,errW_some] <;> rfl)|(simp only [← hji5,← hji8];first|rfl|(simp [errW_none,errW_some] <;> rfl))|(simp [*,errW_none,errW_some] <;> rfl),zv2 HB GE47 GE46⟩
/-- What the body of a range over the solutions keeps: all that lay here (but the blocks from n0 to n1: the body's own variables),and the choices of the search. -/
def KpS (n0 n1 n2:Nat) (W W':World):Prop:=W.heap.size≤W'.heap.size∧∀ k,k<W.heap.size→((k<n0∨(n1≤k∧k<n2))∨∃ cs,W.heap[k]?=some (.cells cs 108 (0,0)))→W'.heap[k]?=W.heap[k]?
theorem KpS.refl {n0 n1 n2:Nat} (W:World):KpS n0 n1 n2 W W:=⟨Nat.le_refl _,fun _ _ _=>rfl⟩
theorem KpS.trans {n0 n1 n2:Nat} {A B C:World} (h:KpS n0 n1 n2 A B) (k:KpS n0 n1 n2 B C):KpS n0 n1 n2 A C:=
 ⟨Nat.le_trans h.1 k.1,fun j hj hp=>by
  have e:=h.2 j hj hp;have e2:=k.2 j (Nat.lt_of_lt_of_le hj h.1) (hp.elim .inl (fun ⟨cs,hc⟩=>.inr ⟨cs,e.trans hc⟩))
  exact e2.trans e⟩
theorem KpS.below {n0 n1 n2:Nat} {A B:World} (h:Below A.heap.size A B):KpS n0 n1 n2 A B:=⟨h.size,fun j hj _=>h.block j hj⟩
theorem KpS.box {n0 n1 n2:Nat} {A B:World} (h:KpS n0 n1 n2 A B) {g:Nat} {cs:Array Value} (hb:A.heap[g]?=some (.cells cs 108 (0,0))):B.heap[g]?=some (.cells cs 108 (0,0)):=
 (h.2 g (blk_lt hb) (.inr ⟨cs,hb⟩)).trans hb
theorem KpS.kept {n0 n1 n2:Nat} {A B:World} (h:KpS n0 n1 n2 A B):Kept A B (fun k=>n0≤k∧(k<n1∨n2≤k)):=⟨h.1,fun i hi hn=>h.2 i hi (.inl (by omega))⟩
theorem KpS.put {n0 n1 n2:Nat} (h02:n0≤n2) (W:World) (l:Nat) (o o':Obj) (hl:n2≤l) (h:W.heap[l]?=some o) (ho:o.isCells=false):KpS n0 n1 n2 W (W.putObj l o'):=
 ⟨(grownBy_putObj' W l o').size,fun k hk hp=>(grownBy_putObj' W l o').block k hk (fun e=>by
  cases e
  rcases hp with hp|⟨cs,hc⟩
  ·omega
  ·rw [h] at hc;cases hc;simp [Obj.isCells] at ho)⟩
theorem KpS.set {n0 n1 n2:Nat} {W:World} {g t:Nat} {cs:Array Value} (hb:W.heap[g]?=some (.cells cs t (0,0))) (ht:t≠108) (h0:n0≤g) (h1:g<n1) (h2:n1≤n2) (j:Nat) (u:Value):KpS n0 n1 n2 W (W.setCell ⟨g,j,none⟩ u):=
 ⟨by simp [World.setCell],fun k hk hp=>Below.heap_setCell W _ u k (fun e=>by
  dsimp only at e
  subst e
  rcases hp with hp|⟨cs',hc⟩
  ·omega
  ·rw [hb] at hc;cases hc;exact ht rfl)⟩
theorem ne_row_ {A:World} {B:Nat} {row:Option Nat} (hr:∀ r,row=some r→B≤r∧∃ o:Obj,A.heap[r]?=some o∧o.isCells=false) {g t:Nat} {cs:Array Value} (hb:A.heap[g]?=some (.cells cs t (0,0))):some g≠row:=by
 intro e;obtain ⟨_,o,ho,hc⟩:=hr g e.symm;rw [hb] at ho
 cases ho
 simp [Obj.isCells] at hc
theorem run_loadVar_one {P:Program} (w:World) (g t ty:Nat) (v:Value) (fr:Nat×Nat) (d:TypeDesc) (hg:w.heap[g]?=some (.cells #[v] t fr)) (hu:P.underlying ty=some d) (hd:(match d with | .struct _ | .array _ _=>true|_=>false)=false) :
  (loadVar ty ⟨g,0,none⟩).run P w=.ok v w:=by
 have hagg:(isAgg ty).run P w=.ok false w:=by
  unfold isAgg
  rw [Sem.run_bind,run_underlying hu w]
  cases d <;> simp_all
 have hc:w.cell? ⟨g,0,none⟩=some v:=by simp [World.cell?,hg]
 simp [loadVar,Sem.run_bind,hagg,hc]
theorem results_two {P:Program} {fn:Func} {p p':Tmp} {ty ty':TypeId} (h:fn.results=#[.cell p ty,.cell p' ty']) (tmps:Array Value) (w:World) (g g':Nat) (v v':Value)
  (hp:tmps.getD p undef=.pointer (some ⟨g,0,none⟩)) (hp':tmps.getD p' undef=.pointer (some ⟨g',0,none⟩)) (h1:(loadVar ty ⟨g,0,none⟩).run P w=.ok v w) (h2:(loadVar ty' ⟨g',0,none⟩).run P w=.ok v' w) :
  (results fn tmps).run P w=.ok (.tuple #[v,v']) w:=by
 have e1:tmps[p]?.getD undef=.pointer (some ⟨g,0,none⟩):=by simpa using hp
 have e2:tmps[p']?.getD undef=.pointer (some ⟨g',0,none⟩):=by simpa using hp'
 simp [results,h,e1,e2,asAddr,h1,h2]
theorem two_set {W:World} {g g' t t':Nat} {v v':Value} (h1:W.heap[g]?=some (.cells #[v] t (0,0))) (h2:W.heap[g']?=some (.cells #[v'] t' (0,0))) (hne:g≠g') (u u':Value) :
  ((W.setCell ⟨g,0,none⟩ u).setCell ⟨g',0,none⟩ u').heap[g]?=some (.cells #[u] t (0,0))∧((W.setCell ⟨g,0,none⟩ u).setCell ⟨g',0,none⟩ u').heap[g']?=some (.cells #[u'] t' (0,0)):=
 ⟨blk_far (blk_put (cs:=#[v]) h1 0 u rfl) hne _,blk_put (cs:=#[v']) (blk_far h2 (Ne.symm hne) _) 0 u' rfl⟩
theorem two_keep (W:World) (g g':Nat) (u u':Value):KeepsOthers W ((W.setCell ⟨g,0,none⟩ u).setCell ⟨g',0,none⟩ u'):=(KeepsOthers.setCell _ _ _).trans (KeepsOthers.setCell _ _ _)
theorem blk_deferred {W:World} {D g t:Nat} {cs:Array Value} {x:Option (List Deferred)} (hb:W.heap[g]?=some (.cells cs t (0,0))) (hK:W.heap[D]?=some (.deferred x)) (o':Obj):(W.putObj D o').heap[g]?=some (.cells cs t (0,0)):=
 blk_grown hb (grownBy_putObj' W D o') (fun e=>by cases e;rw [hK] at hb;cases hb)
theorem KpS.grown {n0 n1 n2:Nat} {W W':World} {row:Option Nat} (hg:W.grownBy W' row) (h02:n0≤n2) (hr:∀ k,row=some k→n2≤k∧∃ cs t,W.heap[k]?=some (.cells cs t (0,0))∧t≠108):KpS n0 n1 n2 W W':=
 ⟨hg.size,fun k hk hp=>hg.block k hk (fun e=>by
  obtain ⟨h1,cs,t,hb,ht⟩:=hr k e.symm
  rcases hp with hp|⟨cs',hc⟩
  ·omega
  ·rw [hb] at hc;cases hc;exact ht rfl)⟩
theorem room_none_ {F:Fence} (hd:F.depth=none) (k:Nat):F.room k:=fun d h=>by rw [hd] at h;cases h
theorem RoundIn.anyDepth_ {F:Fence} (hd:F.depth=none) {m m':Nat} {P:Program} {l:Nat} {f:FuncId} {tmps:Array Value} {assign body:Code} {w:World} {R:Ending→World→Prop}
  (h:RoundIn F m P l f tmps assign body w R):RoundIn F m' P l f tmps assign body w R:=⟨h.1,fun c cs _=>h.2 c cs (room_none_ hd _)⟩
theorem YieldAt.anyDepth_ {F:Fence} (hd:F.depth=none) {m:Nat} (m':Nat) {P:Program} {l:Nat} {args:Array Value} {W:World} {R:Ending→World→Prop} (h:YieldAt F m P l args W R):YieldAt F m' P l args W R:=by
 obtain ⟨fn,tmps,assign,body,hy,hR⟩:=h;exact ⟨fn,tmps,assign,body,hy,RoundIn.anyDepth_ hd hR⟩
/-- All solutions below some choices,in order. -/
def solve_search.f:Nat→List (S63)→List Int→Int→Int→Option (List Int)
 | 0,_,_,_,_=>none
 | k+1,l0,l1,a2_0,a2_1=>(solve_choices_failing.f k a2_0 a2_1 l0).bind fun t65=>(if t65≥0 then (some []) else (if (l1.length:Int)=0 then (some [a2_1]) else (if 0≤(wrap64 ((l1.length:Int) - 1)) then (if (wrap64 ((l1.length:Int) - 1))<(l1.length:Int) then (if (wrap64 ((l1.length:Int) - 1))≤(l1.length:Int) then ((solve_choices_with.f a2_0 a2_1 (rd l1 (wrap64 ((l1.length:Int) - 1))) 0).bind fun bt83=>((solve_search.f k l0 (l1.take ((wrap64 ((l1.length:Int) - 1)):Int).toNat) bt83.1 bt83.2).bind fun t66=>((solve_choices_with.f a2_0 a2_1 (rd l1 (wrap64 ((l1.length:Int) - 1))) 1).bind fun bt84=>((solve_search.f k l0 (l1.take ((wrap64 ((l1.length:Int) - 1)):Int).toNat) bt84.1 bt84.2).bind fun t90=>(some (t66++t90)))))) else (none)) else (none)) else (none))))
theorem solve_search.mono_l:∀ k,(∀ y0 y1 y2 y3,LeO (solve_search.f k y0 y1 y2 y3) (solve_search.f (k+1) y0 y1 y2 y3))
 | 0=>fun _ _ _ _ r h=>by simp [solve_search.f] at h
 | k+1=>by
  have ih0:=solve_search.mono_l k
  ·intro y0 y1 y2 y3
   unfold solve_search.f
   repeat' first
   | (with_reducible exact ih0 _ _ _ _)
   | (with_reducible exact solve_choices_failing.mono _ _ _ _)
   | (with_reducible exact LeO.refl _)
   | (with_reducible exact LeO.none _)
   | (with_reducible refine LeO.ite ?_ ?_)
   | (with_reducible refine LeO.bind ?_ (fun _=>?_))
   | exact LeO.none _
   | refine LeO.ite ?_ ?_
   | refine LeO.bind ?_ (fun _=>?_)
theorem solve_search.mono:∀ a0 a1 a2 a3 k,LeO (solve_search.f k a0 a1 a2 a3) (solve_search.f (k+1) a0 a1 a2 a3):=by
 intro a0 a1 a2 a3 k;have ih0:=solve_search.mono_l k;exact ih0 a0 a1 a2 a3
section
attribute [local go_sem] Oper.semAt_some
set_option maxHeartbeats 8000000 in
set_option maxRecDepth 100000 in
theorem solve_search.in_ (lp N n0 n1 n2:Nat) (J Jx:List Int→World→Prop) (w0:World) (A0:Option Addr) (c0:Nat) (l0:List (S63)) (hc0:l0.length≤c0)
  (hL_:∀ W',KpS n0 n1 n2 w0 W'→Kd.C k63 W' A0 l0.length l0) (hJb_:∀ s W W',J s W→Below W.heap.size W W'→J s W')
  (hY_:∀ m pre x W,J pre W→pre.length<N→YieldAt Fence.wide m Tryz.prog lp #[.int .i64 x] W fun e W'=>(e=.returned (.bool true)∧J (pre++[x]) W'∧KpS n0 n1 n2 W W')∨(e=.returned (.bool false)∧Jx (pre++[x]) W')) (k:Nat) :
  ∀ (A1:Option Addr) (c1:Nat) (l1:List Int) (a2_0:Int) (a2_1:Int) (r pre:List Int) (w:World) (hK_:KpS n0 n1 n2 w0 w) (hJ_:J pre w) (hV_:∀ W',KpS n0 n1 n2 w0 W'→Kd.C (Kd.int .i64) W' A1 l1.length l1) (hc1:l1.length≤c1) (hN:pre.length+r.length≤N) (h:solve_search.f k l0 l1 a2_0 a2_1=some r),
  Calls Tryz.prog 104 #[.slice A0 l0.length c0,.slice A1 l1.length c1,.agg #[.int .i64 a2_0,.int .i64 a2_1],.func (.yield lp) #[] #[]] w fun e w'=>(e=.returned (.bool true)∧J (pre++r) w'∧KpS n0 n1 n2 w w')∨(e=.returned (.bool false)∧∃ q,q <+: r∧Jx (pre++q) w'):=by
 have hL:=zA hL_;have hJb:=zA hJb_;have hY:=zA hY_;clear hL_ hJb_ hY_
 induction k using Nat.strongRecOn with
 | _ k ih=>
 intro A1 c1 l1 a2_0 a2_1 r pre w hK_ hJ_ hV_ hc1 hN h
 cases k with
 | zero=>exact absurd h (by simp [solve_search.f])
 | succ k=>
 simp only [solve_search.f] at h;have HK:=zA hK_;have HJ:=zA hJ_;have HV:=zA hV_;clear hK_ hJ_ hV_;have HC1:=zA hc1;have HN:=zA hN;clear hc1 hN;have HB:=zA (Below.refl w.heap.size w);have H:=h;clear h;replace H:=Option.bind_eq_some_iff.mp H;obtain ⟨t65,A50,H⟩:=H;have A5:=zA A50;clear A50;have HC6:=zA H;clear H;have IH:=zA ih;clear ih
 go_enter Tryz.func104,Tryz.ntmps104
 go_upto_if 14 with (first|((with_reducible refine gd 6 rfl ?_);refine zx #[.int .i64 a2_0,.int .i64 a2_1] 108 ?_;intro gb40 hg w7 BK40 hb GW40 HB1;have GE40:=GW40;clear HB hb hg;have HB:=HB1;clear HB1;have hcz8_0:=zc0 BK40;have hcz8_1:=zc1 BK40;have hfz8_0:=zf BK40)|(go_at_call 119;(with_reducible refine (solve_choices_failing.calls k a2_0 a2_1 _ _ l0 t65 _ ?side1 ?side2 A5.out).mono ?_);(case side1=>exact hL.out _ (KpS.trans HK.out (KpS.below zB)));(case side2=>exact hc0);rintro e w9 ⟨rfl,hb⟩;replace BK40:=zw BK40 hb;replace HB:=zu hb;clear hb))
 repeat (go_quiet (first|((with_reducible refine gd 6 rfl ?_);refine zx #[.int .i64 a2_0,.int .i64 a2_1] 108 ?_;intro gb40 hg w7 BK40 hb GW40 HB1;have GE40:=GW40;clear HB hb hg;have HB:=HB1;clear HB1;have hcz8_0:=zc0 BK40;have hcz8_1:=zc1 BK40;have hfz8_0:=zf BK40)|(go_at_call 119;(with_reducible refine (solve_choices_failing.calls k a2_0 a2_1 _ _ l0 t65 _ ?side1 ?side2 A5.out).mono ?_);(case side1=>exact hL.out _ (KpS.trans HK.out (KpS.below zB)));(case side2=>exact hc0);rintro e w9 ⟨rfl,hb⟩;replace BK40:=zw BK40 hb;replace HB:=zu hb;clear hb));go_upto_if 14 with (first|((with_reducible refine gd 6 rfl ?_);refine zx #[.int .i64 a2_0,.int .i64 a2_1] 108 ?_;intro gb40 hg w7 BK40 hb GW40 HB1;have GE40:=GW40;clear HB hb hg;have HB:=HB1;clear HB1;have hcz8_0:=zc0 BK40;have hcz8_1:=zc1 BK40;have hfz8_0:=zf BK40)|(go_at_call 119;(with_reducible refine (solve_choices_failing.calls k a2_0 a2_1 _ _ l0 t65 _ ?side1 ?side2 A5.out).mono ?_);(case side1=>exact hL.out _ (KpS.trans HK.out (KpS.below zB)));(case side2=>exact hc0);rintro e w9 ⟨rfl,hb⟩;replace BK40:=zw BK40 hb;replace HB:=zu hb;clear hb)))
 (try simp only [Act.put,zi,zs,zt]);have H:=HC6.out;clear HC6
 rcases if0 H with ⟨c10,H⟩|⟨c10,H⟩
 ·have c10b0:decide (0≤t65)=true:=decide_eq_true c10;clear c10
  (first|rw [c10b0]|(simp only [i64_w,i32_w];rw [c10b0])|skip)
  obtain rfl:=Option.some.inj H
  go_wp2
  repeat (go_quiet (fail);try go_wp2)
  go_ret
  have hbel:Below w.heap.size w _:=zB;exact .inl ⟨rfl,by (try rw [List.append_nil]);exact hJb.out _ _ _ HJ.out hbel,KpS.below hbel⟩
 ·have c10b0:decide (0≤t65)=false:=decide_eq_false c10;clear c10
  (first|rw [c10b0]|(simp only [i64_w,i32_w];rw [c10b0])|skip)
  rcases ife H with ⟨c11b0,c11b1,H⟩|⟨c11,c11b0,c11b1,H⟩
  ·obtain rfl:=Option.some.inj H;have hcz12_0:=zc0 BK40;have hcz12_1:=zc1 BK40;have hfz12_0:=zf BK40;obtain ⟨fn,tmps,assign,body,hy,hR⟩:=hY.out (5 - 1) pre a2_1 w9 (hJb.out _ _ _ HJ.out HB.out) (by have:=HN.out;simp at this;omega);refine (wpIn_wide (n:=5)).1 ?_
   gi_wp2
   refine (wpIn_wide (n:=5)).1 ?_
   gi_wp2
   refine hR.mono ?_;rintro e W3 (⟨rfl,hJ3,hK3⟩|⟨rfl,hJx3⟩)
   ·gi_wp2
    go_ret
    exact .inl ⟨rfl,hJ3,(KpS.below HB.out).trans hK3⟩
   ·gi_wp2
    go_ret
    exact .inr ⟨rfl,[a2_1],List.prefix_refl _,hJx3⟩
  ·have c11b2:¬ (l1=[]):=fun h_=>c11 (by rw [h_];rfl)
   obtain ⟨ji13,hji13⟩:∃ j_:Int,(wrap64 ((l1.length:Int) - 1))=j_:=⟨_,rfl⟩
   simp only [hji13] at H
   obtain ⟨lt_,hlt_⟩:∃ t_:List Int,t_=l1.take ((ji13):Int).toNat:=⟨_,rfl⟩
   simp only [← hlt_] at H;have hji13w:(IntKind.i64.wrap ((l1.length:Int) - 1))=ji13:=(i64_w _).trans hji13;obtain ⟨c14b0,H⟩:=ifd1 H;obtain ⟨c15b0,H⟩:=ifd1 H;have c16b0:=eq_true (of_decide_eq_true zh:0≤(ji13));obtain ⟨c17,H⟩:=if1 H;have c17b0:=eq_true c17;have c17b1:decide ((ji13)≤(l1.length:Int))=true:=decide_eq_true c17;clear c17;replace H:=Option.bind_eq_some_iff.mp H;obtain ⟨⟨t83,t94⟩,A95,H⟩:=H;have A18:=zA A95;clear A95;replace H:=Option.bind_eq_some_iff.mp H;obtain ⟨t66,A96,H⟩:=H;have A19:=zA A96;clear A96;replace H:=Option.bind_eq_some_iff.mp H;obtain ⟨⟨t84,t97⟩,A98,H⟩:=H;have A21:=zA A98;clear A98;replace H:=Option.bind_eq_some_iff.mp H;obtain ⟨t90,A99,H⟩:=H;have A22:=zA A99;clear A99;obtain rfl:=Option.some.inj H;clear H;obtain ⟨p55,q55,ad55,e55,hx55_0⟩:=zp (Kd.at_int (HV.out w9 (KpS.trans HK.out (KpS.below HB.out))) (ji13))
   cases e55
   replace p55:=eq_true p55;replace q55:=eq_true q55;obtain ⟨i93,hi93,_,hsz23,_⟩:=info_parts info3;obtain ⟨hcut23,hA23,hC23⟩:=print_take_of (P:=Tryz.prog) (Value.int .i64) 0 43 3 .i64 Tryz.underlying43 hi93 hsz23 (some ad55) c1 l1 (ji13) (of_decide_eq_true zh) (of_decide_eq_true zh) HC1.out;rw [← hlt_] at hcut23 hA23 hC23;have HLT:=zA hlt_;clear hlt_;have HV85:=zA (fun W' hk_=>Kd.C_of_reads (h1:=fun _=>rfl) (hA23 _ (Kd.reads_of_C (HV.out W' hk_))));have HC85:=zA hC23;clear hA23 hC23 hi93 hsz23;have hcz24_0:=zc0 BK40;have hcz24_1:=zc1 BK40;have hfz24_0:=zf BK40
   have hn1:pre.length+t66.length≤N:=by have:=HN.out;simp at this;omega
   have hn2:(pre++t66).length+t90.length≤N:=by have:=HN.out;simp at this ⊢;omega
   have HN1:=zA hn1;have HN2:=zA hn2;clear hn1 hn2
   go_wp2
   go_quiet (fail)
   go_wp2_with (first
    | (go_at_call 120;(with_reducible refine (solve_choices_with.calls a2_0 a2_1 (rd l1 (ji13)) 0 t83 t94 _ A18.out).mono ?_);clear A18;rintro e w25 ⟨rfl,hb⟩;replace BK40:=zw BK40 hb;replace HB:=zu hb;clear hb)
    | (go_at_call 104;(with_reducible refine (IH.out k (by omega) _ _ _ t83 t94 t66 pre _ ?side1 ?side2 ?side3 ?side4 ?side5 A19.out).mono ?_);(case side1=>exact KpS.trans HK.out (KpS.below zB));(case side2=>exact hJb.out _ _ _ HJ.out zB);(case side3=>exact HV85.out);(case side4=>exact HC85.out);(case side5=>exact HN1.out);clear A19;rintro e w26 (⟨rfl,hJ1,hK1⟩|⟨rfl,q1,hq1,hx1⟩);(have HK1:=zA (KpS.trans (KpS.below zB) hK1);have HJ1:=zA hJ1;have HB1:=zA (Below.refl w26.heap.size w26);replace BK40:=zA (KpS.box hK1 (g:=gb40) (cs:=#[.int .i64 a2_0,.int .i64 a2_1]) (zk BK40));clear hJ1 hK1 HB;have hcz27_0:=zc0 BK40;have hcz27_1:=zc1 BK40;have hfz27_0:=zf BK40))
    | (go_at_call 120;(with_reducible refine (solve_choices_with.calls a2_0 a2_1 (rd l1 (ji13)) 1 t84 t97 _ A21.out).mono ?_);clear A21;rintro e w28 ⟨rfl,hb⟩;replace BK40:=zw BK40 hb;replace HB1:=zA (below_step (zv0 HB1) hb);clear hb)
    | (go_at_call 104;(with_reducible refine (IH.out k (by omega) _ _ _ t84 t97 t90 (pre++t66) _ ?side1 ?side2 ?side3 ?side4 ?side5 A22.out).mono ?_);(case side1=>exact KpS.trans HK.out (KpS.trans HK1.out (KpS.below (zv0 HB1))));(case side2=>exact hJb.out _ _ _ HJ1.out (zv0 HB1));(case side3=>exact HV85.out);(case side4=>exact HC85.out);(case side5=>exact HN2.out);clear A22;rintro e w29 (⟨rfl,hJ2,hK2⟩|⟨rfl,q2,hq2,hx2⟩)))
   ·go_ret
    exact .inl ⟨rfl,by rw [← List.append_assoc];exact hJ2,KpS.trans HK1.out (KpS.trans (KpS.below (zv0 HB1)) hK2)⟩
   ·go_ret
    obtain ⟨z2,hz2⟩:=hq2;exact .inr ⟨rfl,t66++q2,⟨z2,by rw [List.append_assoc,hz2]⟩,by rw [← List.append_assoc];exact hx2⟩
   ·go_ret
    exact .inr ⟨rfl,q1,hq1.trans (List.prefix_append _ _),hx1⟩
set_option maxHeartbeats 8000000 in
set_option maxRecDepth 100000 in
theorem solve_solutions_1.in_ (lp N n0 n1 n2:Nat) (J Jx:List Int→World→Prop) (w0:World) (A0:Option Addr) (c0:Nat) (l0:List (S63)) (hc0:l0.length≤c0) (A1:Option Addr) (c1:Nat) (l1:List Int) (hc1:l1.length≤c1) (a2_0 a2_1:Int) (g0 g1 g2:Nat)
  (hL_:∀ W',KpS n0 n1 n2 w0 W'→Kd.C k63 W' A0 l0.length l0) (hV_:∀ W',KpS n0 n1 n2 w0 W'→Kd.C (Kd.int .i64) W' A1 l1.length l1) (hJb_:∀ s W W',J s W→Below W.heap.size W W'→J s W')
  (hY_:∀ m pre x W,J pre W→pre.length<N→YieldAt Fence.wide m Tryz.prog lp #[.int .i64 x] W fun e W'=>(e=.returned (.bool true)∧J (pre++[x]) W'∧KpS n0 n1 n2 W W')∨(e=.returned (.bool false)∧Jx (pre++[x]) W')) (k:Nat)
  (r:List Int) (w:World) (hK:KpS n0 n1 n2 w0 w) (hJ:J [] w) (hN:r.length≤N) (h:solve_search.f k l0 l1 a2_0 a2_1=some r)
  (hb0_:w.heap[g0]?=some (.cells #[.slice A0 l0.length c0] 22 (0,0))) (hb1_:w.heap[g1]?=some (.cells #[.slice A1 l1.length c1] 43 (0,0))) (hb2_:w.heap[g2]?=some (.cells #[.int .i64 a2_0,.int .i64 a2_1] 108 (0,0))) :
  Calls Tryz.prog 103 #[.func (.yield lp) #[] #[],.pointer (some ⟨g0,0,none⟩),.pointer (some ⟨g1,0,none⟩),.pointer (some ⟨g2,0,none⟩)] w fun e w'=>(∃ v,e=.returned v)∧((∃ xs,xs=r∧J xs w')∨(∃ pre,pre <+: r∧Jx pre w')):=by
 have hp:=solve_search.in_ lp N n0 n1 n2 J Jx w0 A0 c0 l0 hc0 hL_ hJb_ hY_ k A1 c1 l1 a2_0 a2_1 r [] w hK hJ hV_ hc1 (by simpa using hN) h;have HP:=zA hp;clear hp hL_ hV_ hJb_ hY_;have hcz0:w.cell? ⟨g0,0,none⟩=some (.slice A0 l0.length c0):=(blk_cell hb0_ 0).trans rfl;have hcz1:w.cell? ⟨g1,0,none⟩=some (.slice A1 l1.length c1):=(blk_cell hb1_ 0).trans rfl;have hcz2:w.cell? ⟨g2,0,none⟩=some (.int .i64 a2_0):=(blk_cell hb2_ 0).trans rfl;have hcz3:w.cell? ⟨g2,1,none⟩=some (.int .i64 a2_1):=(blk_cell hb2_ 1).trans rfl;clear hb0_ hb1_ hb2_
 go_enter Tryz.func103,Tryz.ntmps103
 go_wp2_with (go_at_call 104;(with_reducible refine HP.out.mono ?_);clear HP;rintro e W1 (⟨rfl,hJ1,_⟩|⟨rfl,q,hq,hx⟩))
 ·go_end0
  exact ⟨⟨_,rfl⟩,.inl ⟨_,rfl,by simpa using hJ1⟩⟩
 ·go_end0
  exact ⟨⟨_,rfl⟩,.inr ⟨q,hq,by simpa using hx⟩⟩
set_option maxHeartbeats 1000000 in
theorem solve_solutions.in_ (A0:Option Addr) (n0 c0:Nat) (A1:Option Addr) (n1 c1:Nat) (a2_0 a2_1:Int) (w:World) :
  Calls Tryz.prog 77 #[.slice A0 n0 c0,.slice A1 n1 c1,.agg #[.int .i64 a2_0,.int .i64 a2_1]] w fun e w'=>∃ g0 g1 g2:Nat,e=.returned (.func (.func 103) #[] #[.pointer (some ⟨g0,0,none⟩),.pointer (some ⟨g1,0,none⟩),.pointer (some ⟨g2,0,none⟩)])∧w.heap.size≤g0∧w.heap.size≤g1∧
   w'.heap[g0]?=some (.cells #[.slice A0 n0 c0] 22 (0,0))∧w'.heap[g1]?=some (.cells #[.slice A1 n1 c1] 43 (0,0))∧w'.heap[g2]?=some (.cells #[.int .i64 a2_0,.int .i64 a2_1] 108 (0,0))∧Below w.heap.size w w':=by
 go_enter Tryz.func77,Tryz.ntmps77
 go_wp2
 go_ret
 refine ⟨_,_,_,rfl,?_,?_,?_,?_,?_,?_⟩
 ·exact Nat.le_refl _
 ·omega
 ·exact blk_alloc (blk_alloc (heap_alloc_new _ _) _) _
 ·exact blk_alloc (by have h_:=heap_alloc_new (w.alloc (.cells #[.slice A0 n0 c0] 22)) (.cells #[.slice A1 n1 c1] 43);rw [World.size_alloc] at h_;exact h_) _
 ·have h_:=heap_alloc_new ((w.alloc (.cells #[.slice A0 n0 c0] 22)).alloc (.cells #[.slice A1 n1 c1] 43)) (.cells #[.int .i64 a2_0,.int .i64 a2_1] 108);rw [World.size_alloc,World.size_alloc] at h_;exact h_
 ·exact below_alloc (below_alloc (below_alloc (Below.refl _ _) _) _) _
/-- What the function value that 'solutions' hands back gives: all solutions in order. -/
theorem solve_solutions_stops (n0 n1 n2:Nat) (A0:Option Addr) (c0:Nat) (l0:List (S63)) (hc0:l0.length≤c0) (A1:Option Addr) (c1:Nat) (l1:List Int) (hc1:l1.length≤c1) (a2_0 a2_1:Int) (g0 g1 g2 k:Nat) (r:List Int) (w:World) (h2:w.heap.size≤n2)
  (hL_:∀ W',KpS n0 n1 n2 w W'→Kd.C k63 W' A0 l0.length l0) (hV_:∀ W',KpS n0 n1 n2 w W'→Kd.C (Kd.int .i64) W' A1 l1.length l1) (h:solve_search.f k l0 l1 a2_0 a2_1=some r)
  (hb0_:w.heap[g0]?=some (.cells #[.slice A0 l0.length c0] 22 (0,0))) (hb1_:w.heap[g1]?=some (.cells #[.slice A1 l1.length c1] 43 (0,0))) (hb2_:w.heap[g2]?=some (.cells #[.int .i64 a2_0,.int .i64 a2_1] 108 (0,0))) :
  SeqStopsK Fence.wide 4 Tryz.prog 103 #[.pointer (some ⟨g0,0,none⟩),.pointer (some ⟨g1,0,none⟩),.pointer (some ⟨g2,0,none⟩)] (fun x:Int=>#[Value.int .i64 x]) (KpS n0 n1 n2) (fun ys=>ys=r) (fun pre=>pre <+: r) r.length w:=fun l J Jx W hW hJ hJx hY hj0=>by
 have hJb:∀ s W W',J s W→Below W.heap.size W W'→J s W':=fun s A B hs hb=>by
  exact hJ s A B none hs ⟨hb.os,hb.tape,hb.output,hb.size,fun k hk _=>hb.block k hk⟩ (fun r e=>by cases e)
 refine callsIn_wide.2 ?_;exact solve_solutions_1.in_ l r.length n0 n1 n2 J Jx w A0 c0 l0 hc0 A1 c1 l1 hc1 a2_0 a2_1 g0 g1 g2 hL_ hV_ hJb (fun m pre x W1 hj hl=>YieldAt.anyDepth_ rfl m (hY pre x W1 hj hl)) k r W (KpS.below hW) hj0 (Nat.le_refl _) h
  ((hW.block _ (blk_lt hb0_)).trans hb0_) ((hW.block _ (blk_lt hb1_)).trans hb1_) ((hW.block _ (blk_lt hb2_)).trans hb2_)
end
/-- What First says of all solutions. -/
def solve_First.of:List Int→Int×Int
 | []=>(0,10)
 | x :: _=>(x,0)
def solve_First.f (k:Nat) (l0:List (S63)):Option (Int×Int):=(solve_valid.f k l0).bind fun t54=>(if t54=0 then ((solve_occurring.f k l0).bind fun t56=>((solve_search.f k l0 t56 0 0).bind fun s=>some (solve_First.of s))) else (some (0,t54)))
section
attribute [local go_sem] Oper.semAt_some
set_option maxHeartbeats 8000000 in
set_option maxRecDepth 100000 in
theorem solve_First.calls (k:Nat) (A0:Option Addr) (c0:Nat) (l0:List (S63)) (r1:Int) (r2:Int) (w:World) (hr0:Kd.C k63 w A0 l0.length l0) (hc0:l0.length≤c0) (h:solve_First.f k l0=some (r1,r2)) :
  Calls Tryz.prog 44 #[.slice A0 l0.length c0] w fun e w'=>e=.returned (.tuple #[.int .i64 r1,.int .i64 r2])∧Below w.heap.size w w':=by
 have HR0:=zA hr0;have HC0:=zA hc0;clear hr0 hc0;have HB:=zA (Below.refl w.heap.size w);have H:((solve_valid.f k l0).bind fun t54=>(if t54=0 then ((solve_occurring.f k l0).bind fun t56=>((solve_search.f k l0 t56 0 0).bind fun s=>some (solve_First.of s))) else (some (0,t54))))=some (r1,r2):=h;clear h;obtain ⟨t54,A2,H⟩:=zo H;have HC3:=zA H;clear H;refine (callsIn_wide (n:=5)).1 ?_;refine callsIn_of_wp_marks Tryz.func44 rfl trivial ?_ rfl;simp only [Tryz.ntmps44,List.size_toArray,List.length_cons,List.length_nil,Nat.reduceAdd,Nat.reduceSub,Array.replicate_succ,Array.replicate_zero,List.push_toArray,List.append_toArray,List.nil_append,List.cons_append];refine wpIn_wide.2 ?_
 go_upto_if 9 with (first|((with_reducible refine gd 2 rfl ?_);refine zx #[.int .i64 0] 3 ?_;intro gb41 hg w4 BK41 hb GW41 HB1;have GE41:=GW41;clear HB hb hg;have HB:=HB1;clear HB1)|((with_reducible refine gd 3 rfl ?_);refine zx #[.int .i64 0] 26 ?_;intro gb42 hg w5 BK42 hb GW42 HB1;have GE42:=GW42;have NB41_42:=zL hg BK41;have NB42_41:=zLs NB41_42;replace BK41:=zw BK41 hb;clear HB hb hg;have HB:=HB1;clear HB1)|((with_reducible refine gate_callee (f:=69) rfl ?_);refine zgo 7 Tryz.func69 #[.slice A0 l0.length c0] ?_;(with_reducible refine (solve_valid.calls k _ _ l0 t54 _ (zD HR0 HB) HC0.out A2.out).mono ?_);rintro e w6 ⟨rfl,hb⟩;refine ⟨_,rfl,?_⟩;replace BK41:=zw BK41 hb;replace BK42:=zw BK42 hb;replace HB:=zu hb;clear hb))
 (try simp only [Act.put,zi,zs,zt]);have H:=HC3.out;clear HC3
 rcases ife H with ⟨c7b0,c7b1,H⟩|⟨c7,c7b0,c7b1,H⟩
 ·(first|rw [c7b0]|(simp only [i64_w,i32_w];rw [c7b0])|skip)
  (try rw [c7b1]);obtain ⟨t56,A8,H⟩:=zo H;replace H:=Option.bind_eq_some_iff.mp H;obtain ⟨s_,AS0,H⟩:=H;have AS:=zA AS0;clear AS0;have HFS:=zA (Option.some.inj H);clear H;have HLT41:=zA (blk_lt BK41.out);have HLT42:=zA (blk_lt BK42.out)
  go_wp2_with (first
   | ((with_reducible refine gate_callee (f:=70) rfl ?_);refine zgo 13 Tryz.func70 #[.slice A0 l0.length c0] ?_;(with_reducible refine (solve_occurring.calls k _ _ l0 t56 _ (zD HR0 HB) HC0.out A8.out).mono ?_);rintro e w9 ⟨v52,rfl,ho0,hb⟩;refine ⟨_,rfl,?_⟩;have hn6:=zA hb.size;have HO76:=zA ho0;have HS6:=zA (below_size HB.out);replace BK41:=zw BK41 hb;replace BK42:=zw BK42 hb;replace HB:=zu hb;clear hb ho0;obtain ⟨A52,c52,e52⟩:=Kd.R_slice HO76.out;subst e52))
  refine (solve_solutions.in_ A0 l0.length c0 A52 t56.length c52 0 0 _).mono ?_;rintro e w10 ⟨g0,g1,g2,rfl,hg0,hg1,hs0,hs1,hs2,hb⟩;have n0_:=zA (Kd.R_below HO76.out hb);have n1_:=zA (zb BK41 hb);have n2_:=zA (zb BK42 hb);have n3_:=zA (below_step zB hb);have hn9:=zA hb.size;have hc52:=zA (Kd.R_reads' HO76.out).2.1;clear BK41 BK42 HB HO76 hb hg0 hg1;have HO76:=n0_;have BK41:=n1_;have BK42:=n2_;have HB:=n3_;clear n0_ n1_ n2_ n3_
  go_wp2
  have h67:w6.heap.size≤w10.heap.size:=Nat.le_trans hn6.out hn9.out
  have hL:∀ W',KpS w.heap.size w6.heap.size w10.heap.size w10 W'→Kd.C k63 W' A0 l0.length l0:=fun W' hk=>Kd.C_kept_came k63_heap HR0.out HB.out (fun k hk=>hk.1) W' hk.kept
  have hV:∀ W',KpS w.heap.size w6.heap.size w10.heap.size w10 W'→Kd.C (Kd.int .i64) W' A52 t56.length t56:=fun W' hk=>Kd.C_kept_own (Kd.R_bound HO76.out) (fun k hk hs=>by have h_:=HS6.out;obtain ⟨_,h1,h2,_⟩:=hk;omega) W' hk.kept
  refine (wpIn_wide (n:=5)).1 ?_;refine wpIn_rangeFunc_ownF (n:=5) rfl (by omega) (gf:=103) (lb:=#[.pointer (some ⟨g0,0,none⟩),.pointer (some ⟨g1,0,none⟩),.pointer (some ⟨g2,0,none⟩)]) rfl trivial (enters_of Tryz.func103 zK rfl)
   (solve_solutions_stops w.heap.size w6.heap.size w10.heap.size A0 c0 l0 HC0.out A52 c52 t56 hc52.out 0 0 g0 g1 g2 k s_ w10 (Nat.le_refl _) hL hV AS.out hs0 hs1 hs2)
   KpS.trans (fun W l o o' hl h ho _=>KpS.put (Nat.le_trans HS6.out h67) W l o o' hl h ho) (Below.refl _ _) (fun _=>rfl)
   (fun (pre:List Int) (W:World)=>pre=[]∧W.heap[gb41]?=some (.cells #[.int .i64 0] 3 (0,0))∧W.heap[gb42]?=some (.cells #[.int .i64 0] 26 (0,0))∧Below w.heap.size w W)
   (fun c pre W=>c=Code.ret∧∃ x:Int,pre=[x]∧W.heap[gb41]?=some (.cells #[.int .i64 x] 3 (0,0))∧W.heap[gb42]?=some (.cells #[.int .i64 0] 26 (0,0))∧Below w.heap.size w W)
   (fun s A B row hs hg hr=>⟨hs.1,blk_grown hs.2.1 hg (ne_row_ hr hs.2.1),blk_grown hs.2.2.1 hg (ne_row_ hr hs.2.2.1),hs.2.2.2.grown hg hs.2.2.2.size (fun k e=>Nat.le_trans HB.out.size (hr k e).1)⟩)
   (fun c s A B row hs hg hr=>by
    obtain ⟨e1,x,e2,h1,h2,h3⟩:=hs
    exact ⟨e1,x,e2,blk_grown h1 hg (ne_row_ hr h1),blk_grown h2 hg (ne_row_ hr h2),h3.grown hg h3.size (fun k e=>Nat.le_trans HB.out.size (hr k e).1)⟩)
   ⟨rfl,BK41.out,BK42.out,HB.out⟩
   (fun x=>{tmps:=#[.slice A0 l0.length c0,undef,.pointer (some ⟨gb41,0,none⟩),.pointer (some ⟨gb42,0,none⟩),.int .i64 t54,.int .i64 x,.slice A0 l0.length c0,.int .i64 t54,.int .i64 t54,.bool false,undef,.slice A0 l0.length c0,.slice A0 l0.length c0,.slice A52 t56.length c52,.agg #[.int .i64 0,.int .i64 0],.func (.func 103) #[] #[.pointer (some ⟨g0,0,none⟩),.pointer (some ⟨g1,0,none⟩),.pointer (some ⟨g2,0,none⟩)],.int .i64 x,undef],defers:=[]}) ?assign ?body ?done ?stop
  case assign=>
   intro l x W K hK
   gi_wp2
   exact hK
  case body=>
   rintro l pre x W ⟨rfl,hb1,hb2,hbl⟩ _;have hcz0:W.cell? ⟨gb41,0,none⟩=some (.int .i64 0):=(blk_cell hb1 0).trans rfl;have hfz0:=blk_frozen hb1 0;have hcz1:W.cell? ⟨gb42,0,none⟩=some (.int .i64 0):=(blk_cell hb2 0).trans rfl;have hfz1:=blk_frozen hb2 0;have hnb:=NB41_42.out;have hnc:=NB42_41.out
   gi_wp2
   have h2_:=two_set hb1 hb2 NB41_42.out (.int .i64 x) (.int .i64 0);exact ⟨two_keep _ _ _ _ _,rfl,x,rfl,h2_.1,h2_.2,below_set (below_set hbl GE41.out) GE42.out⟩
  case done=>
   rintro D ys W hD hys ⟨rfl,hb1,hb2,hbl⟩ hK;have hcz0:W.cell? ⟨gb41,0,none⟩=some (.int .i64 0):=(blk_cell hb1 0).trans rfl;have hfz0:=blk_frozen hb1 0;have hcz1:W.cell? ⟨gb42,0,none⟩=some (.int .i64 0):=(blk_cell hb2 0).trans rfl;have hfz1:=blk_frozen hb2 0;have hnb:=NB41_42.out;have hnc:=NB42_41.out;have HKD:=zA hK;clear hK
   go_wp2
   have h2_:=two_set hb1 hb2 NB41_42.out (.int .i64 0) (.int .i64 10);have hKD:=(two_keep W gb41 gb42 (.int .i64 0) (.int .i64 10)).same D _ HKD.out rfl;have hbl2:Below w.heap.size w ((W.setCell ⟨gb41,0,none⟩ (.int .i64 0)).setCell ⟨gb42,0,none⟩ (.int .i64 10)):=below_set (below_set hbl GE41.out) GE42.out;have e_:=HFS.out;rw [← hys] at e_;simp only [solve_First.of,Prod.mk.injEq] at e_;obtain ⟨rfl,rfl⟩:=e_;refine ⟨by simp,.inl ⟨_,_,rfl,run_takeDeferred hKD,?_⟩⟩;exact ⟨_,results_two rfl _ _ gb41 gb42 _ _ rfl rfl (run_loadVar_one _ _ 3 3 _ (0,0) _ (blk_deferred h2_.1 hKD _) Tryz.underlying3 rfl) (run_loadVar_one _ _ 26 26 _ (0,0) _ (blk_deferred h2_.2 hKD _) Tryz.underlying26 rfl),rfl,hbl2.grown (grownBy_putObj' _ D _) hbl2.size (fun k e=>by cases e;exact Nat.le_trans HB.out.size hD)⟩
  case stop=>
   rintro D c pre W hD hSp ⟨rfl,x,rfl,hb1,hb2,hbl⟩ hK;refine wpIn_wide.2 ?_
   go_wp2
   obtain ⟨z_,rfl⟩:=hSp;have e_:=HFS.out;simp only [solve_First.of,List.cons_append,List.nil_append,Prod.mk.injEq] at e_;obtain ⟨rfl,rfl⟩:=e_;refine ⟨by simp,.inl ⟨_,_,rfl,run_takeDeferred hK,?_⟩⟩;exact ⟨_,results_two rfl _ _ gb41 gb42 _ _ rfl rfl (run_loadVar_one _ _ 3 3 _ (0,0) _ (blk_deferred hb1 hK _) Tryz.underlying3 rfl) (run_loadVar_one _ _ 26 26 _ (0,0) _ (blk_deferred hb2 hK _) Tryz.underlying26 rfl),rfl,hbl.grown (grownBy_putObj' _ D _) hbl.size (fun k e=>by cases e;exact Nat.le_trans HB.out.size hD)⟩
 ·(first|rw [c7b0]|(simp only [i64_w,i32_w];rw [c7b0])|skip)
  (try rw [c7b1]);simp only [Option.some.injEq,Prod.mk.injEq] at H;obtain ⟨rfl,rfl⟩:=H;have hnb13:=NB41_42.out;have hnc13:=NB42_41.out;have hcz14_0:=zc0 BK41;have hfz14_0:=zf BK41 0;have hcz15_0:=zc0 BK42;have hfz15_0:=zf BK42 0
  go_wp2
  have h2_:=two_set BK41.out BK42.out NB41_42.out (.int .i64 0) (.int .i64 t54);exact ⟨_,results_two rfl _ _ gb41 gb42 _ _ rfl rfl (run_loadVar_one _ _ 3 3 _ (0,0) _ h2_.1 Tryz.underlying3 rfl) (run_loadVar_one _ _ 26 26 _ (0,0) _ h2_.2 Tryz.underlying26 rfl),rfl,below_set (below_set HB.out GE41.out) GE42.out⟩
end
def shared_solvable.f (k:Nat) (l0:List (S63)):Option (Int):=(shared_given.f k l0).bind fun t68=>(if t68=0 then ((solve_First.f k l0).bind fun bt86=>(if bt86.2=0 then (some 0) else (some 12))) else (some t68))
set_option maxHeartbeats 8000000 in
set_option maxRecDepth 100000 in
theorem shared_solvable.calls (k:Nat) (A0:Option Addr) (c0:Nat) (l0:List (S63)) (r:Int) (w:World) (hr0:Kd.C k63 w A0 l0.length l0) (hc0:l0.length≤c0) (h:shared_solvable.f k l0=some r) :
  Calls Tryz.prog 35 #[.slice A0 l0.length c0] w fun e w'=>e=.returned (.int .i64 r)∧Below w.heap.size w w':=by
 have HR0:=zA hr0;have HC0:=zA hc0;clear hr0 hc0;have HB:=zA (Below.refl w.heap.size w);have H:((shared_given.f k l0).bind fun t68=>(if t68=0 then ((solve_First.f k l0).bind fun bt86=>(if bt86.2=0 then (some 0) else (some 12))) else (some t68)))=some r:=h;clear h;obtain ⟨t68,A2,H⟩:=zo H;have HC3:=zA H;clear H
 go_enter Tryz.func35,Tryz.ntmps35
 go_upto_if 9 with (first|((with_reducible refine gate_callee (f:=43) rfl ?_);refine zgo 7 Tryz.func43 #[.slice A0 l0.length c0] ?_;(with_reducible refine (shared_given.calls k _ _ l0 t68 _ ?side1 HC0.out A2.out).mono ?_);(case side1=>repeat (first|exact HR0.out|(with_reducible refine Kd.C_alloc ?_ _)|(with_reducible refine Kd.C_drewN ?_ _)|(with_reducible refine Kd.C_drew ?_)));rintro e w4 ⟨rfl,hb⟩;refine ⟨_,rfl,?_⟩;replace HB:=zu hb;clear hb))
 (try simp only [Act.put,zi,zs,zt]);have H:=HC3.out;clear HC3
 rcases ife H with ⟨c5b0,c5b1,H⟩|⟨c5,c5b0,c5b1,H⟩
 ·(first|rw [c5b0]|(simp only [i64_w,i32_w];rw [c5b0])|skip)
  (try rw [c5b1]);obtain ⟨t86,t290,A6,H⟩:=zO H
  dsimp only at H
  have HC7:=zA H;clear H
  go_upto_if 17 with (first|((with_reducible refine gate_callee (f:=44) rfl ?_);refine zgo 13 Tryz.func44 #[.slice A0 l0.length c0] ?_;(with_reducible refine (solve_First.calls k _ _ l0 t86 t290 _ (zD HR0 HB) HC0.out A6.out).mono ?_);rintro e w8 ⟨rfl,hb⟩;refine ⟨_,rfl,?_⟩;replace HB:=zu hb;clear hb))
  (try simp only [Act.put,zi,zs,zt]);have H:=HC7.out;clear HC7
  rcases ife H with ⟨c9b0,c9b1,H⟩|⟨c9,c9b0,c9b1,H⟩
  ·(first|rw [c9b0]|(simp only [i64_w,i32_w];rw [c9b0])|skip)
   (try rw [c9b1]);obtain rfl:=Option.some.inj H
   go_wp2
   go_ret
   exact ⟨ze,zv0 HB⟩
  ·(first|rw [c9b0]|(simp only [i64_w,i32_w];rw [c9b0])|skip)
   (try rw [c9b1]);obtain rfl:=Option.some.inj H
   go_wp2
   go_ret
   exact ⟨ze,zv0 HB⟩
 ·(first|rw [c5b0]|(simp only [i64_w,i32_w];rw [c5b0])|skip)
  (try rw [c5b1]);obtain rfl:=Option.some.inj H
  go_wp2
  go_ret
  exact ⟨ze,zv0 HB⟩
def solve_Vars.f (k:Nat) (l0:List (S63)):Option (List Int):=(solve_valid.f k l0).bind fun t87=>(if t87=0 then ((solve_occurring.f k l0).bind fun t88=>(some t88)) else (some ([]:List Int)))
set_option maxHeartbeats 8000000 in
set_option maxRecDepth 100000 in
theorem solve_Vars.calls (k:Nat) (A0:Option Addr) (c0:Nat) (l0:List (S63)) (r:List Int) (w:World) (hr0:Kd.C k63 w A0 l0.length l0) (hc0:l0.length≤c0) (h:solve_Vars.f k l0=some r) :
  Calls Tryz.prog 36 #[.slice A0 l0.length c0] w fun e w'=>∃ v0_:Value,e=.returned (v0_)∧Kd.R (Kd.int .i64) 3 w' w.heap.size (fun _=>True) v0_ r∧Below w.heap.size w w':=by
 have HR0:=zA hr0;have HC0:=zA hc0;clear hr0 hc0;have HB:=zA (Below.refl w.heap.size w);have H:((solve_valid.f k l0).bind fun t87=>(if t87=0 then ((solve_occurring.f k l0).bind fun t88=>(some t88)) else (some ([]:List Int))))=some r:=h;clear h;obtain ⟨t87,A2,H⟩:=zo H;have HC3:=zA H;clear H
 go_enter Tryz.func36,Tryz.ntmps36
 go_upto_if 5 with (first|((with_reducible refine gate_callee (f:=69) rfl ?_);refine zgo 4 Tryz.func69 #[.slice A0 l0.length c0] ?_;(with_reducible refine (solve_valid.calls k _ _ l0 t87 _ ?side1 HC0.out A2.out).mono ?_);(case side1=>repeat (first|exact HR0.out|(with_reducible refine Kd.C_alloc ?_ _)|(with_reducible refine Kd.C_drewN ?_ _)|(with_reducible refine Kd.C_drew ?_)));rintro e w4 ⟨rfl,hb⟩;refine ⟨_,rfl,?_⟩;replace HB:=zu hb;clear hb))
 (try simp only [Act.put,zi,zs,zt]);have H:=HC3.out;clear HC3
 rcases ife H with ⟨c5b0,c5b1,H⟩|⟨c5,c5b0,c5b1,H⟩
 ·(first|rw [c5b0]|(simp only [i64_w,i32_w];rw [c5b0])|skip)
  (try rw [c5b1]);obtain ⟨t88,A6,H⟩:=zo H;obtain rfl:=Option.some.inj H
  go_wp2_with (first|((with_reducible refine gate_callee (f:=70) rfl ?_);refine zgo 7 Tryz.func70 #[.slice A0 l0.length c0] ?_;(with_reducible refine (solve_occurring.calls k _ _ l0 t88 _ (zD HR0 HB) HC0.out A6.out).mono ?_);rintro e w7 ⟨v293,rfl,ho0,hb⟩;refine ⟨_,rfl,?_⟩;have HO294:=zA (Kd.R_lower ho0 (below_size zB));replace HB:=zu hb;clear hb;(try clear ho0)))
  go_ret
  exact ⟨_,ze,by refine zr ?_;exact HO294.out,zv0 HB⟩
 ·(first|rw [c5b0]|(simp only [i64_w,i32_w];rw [c5b0])|skip)
  (try rw [c5b1]);obtain rfl:=Option.some.inj H
  go_wp2
  go_ret
  exact ⟨_,ze,by first|exact Kd.R_nil _ _ _ _ _|exact Kd.N_nil _ _ _ _ _|exact Kd.V_nil _ _ _ _ _|exact Kd.Q_nil _ _ _ _ _|exact Kd.S_nil _ _ _ _ _,zv0 HB⟩
def slices_Clone_int_int.f (l0:List Int):Option (List Int):=(some (([]:List Int):List Int)).bind fun y48=>(if y48.length+l0.length<17592186044416 then (some (y48++l0)) else (none))
set_option maxHeartbeats 8000000 in
set_option maxRecDepth 100000 in
theorem slices_Clone_int_int.calls (A0:Option Addr) (c0:Nat) (l0:List Int) (r:List Int) (w:World) (hr0:Kd.C (Kd.int .i64) w A0 l0.length l0) (hc0:l0.length≤c0) (h:slices_Clone_int_int.f l0=some r) :
  Calls Tryz.prog 38 #[.slice A0 l0.length c0] w fun e w'=>∃ v0_:Value,e=.returned (v0_)∧Kd.R (Kd.int .i64) 3 w' w.heap.size (fun _=>True) v0_ r∧Below w.heap.size w w':=by
 have HR0:=zA hr0;have HC0:=zA hc0;clear hr0 hc0;have HB:=zA (Below.refl w.heap.size w);have H:((some (([]:List Int):List Int)).bind fun y48=>(if y48.length+l0.length<17592186044416 then (some (y48++l0)) else (none)))=some r:=h;clear h
 have hnq_:∀ (w:World) (a:Option Addr) (n c n' c':Nat),(binOp .eql 43 (.slice a n c) (.slice none n' c')).run Tryz.prog w=.ok (.bool a.isNone) w:=fun w a n c n' c'=>Lib.run_eql_slice_nil w _ _ a n c n' c' Tryz.underlying43
 rcases A0 with _|adn0
 ·obtain rfl:l0=[]:=(by rcases l0 with _|⟨x_,xs_⟩;(· rfl);(· obtain ⟨_,_,e_,_⟩:=Kd.C_get HR0.out 0 0 (by omega) (by simp);cases e_))
  simp only [List.length_nil,List.nil_append] at H
  (first|rw [if_pos (by omega)] at H|simp at H)
  try simp only [Option.some.injEq] at H
  subst H
  go_enter Tryz.func38,Tryz.ntmps38
  go_wp2
  go_ret
  first|exact ⟨_,rfl,Kd.R_nil _ _ _ _ _,Below.refl _ _⟩|exact ⟨_,rfl,Kd.S_nil _ _ _ _ _,Below.refl _ _⟩|exact ⟨_,rfl,Kd.V_nil _ _ _ _ _,Below.refl _ _⟩|exact ⟨_,rfl,Kd.N_nil _ _ _ _ _,Below.refl _ _⟩
 ·replace H:=H
  first|(replace H:=zyb (([]:List Int)) H;obtain ⟨y48,Ny48,H⟩:=H)|(obtain ⟨y48,hy48⟩:=zY (([]:List Int));(try rw (occs:=.pos [1]) [← hy48] at H);have Ny48:=zA hy48;clear hy48)
  obtain ⟨c2,H⟩:=if1 H;have LMc2:=zA c2;clear c2
  first|(replace H:=zyb (y48++l0) H;obtain ⟨y61,Ny61,H⟩:=H)|(obtain ⟨y61,hy61⟩:=zY (y48++l0);(try rw (occs:=.pos [1]) [← hy61] at H);have Ny61:=zA hy61;clear hy61)
  obtain rfl:=Option.some.inj H
  go_enter Tryz.func38,Tryz.ntmps38
  go_wp2_with (first|((with_reducible refine gate_dst (N:=5) rfl ?_);refine Kd.R_lit (Kd.int .i64) _ 3 ?hg (N:=5) ?hd (xs:=([]:List Int)) (inner:=[]) (ok:=fun _=>True) (okp:=fun _=>True) ?hr ?hp (fun _ hk=>hk) trivial (Below.refl _ _) (Nat.le_refl _) (by simp) ?_;(case hd=>rfl);(case hg=>rfl);(case hr=>first|(go_simp;done)|(go_simp;rfl));(case hp=>exact (Reps.none _ _));intro v296 w3 ho4 hb hg_ hnew_;clear hg_ hnew_;(first|rw [← Ny48.out] at ho4|(simp only [Int.reduceToNat] at ho4;rw [← Ny48.out] at ho4));have HO297:=zA (Kd.R_lower ho4 (below_size zB));replace HB:=zu hb;clear hb ho4)|((with_reducible refine gate_builtin (b:=.append) (xs:=#[.tmp 5,.tmp 6]) rfl ?_);at_builtin;refine Kd.R_append_rows (Kd.int .i64) (w0:=w) w.heap.size rfl (.tmp 5) (.tmp 6) 43 3 (.int .i64 0) 8 rfl Tryz.underlying43 info3 rfl (by decide) (by omega) v296 y48 l0 _ _ _ (fun _=>True) (fun _=>False) rfl rfl ?aO ?aR (fun _ _ h=>h) (fun _ h=>h.elim) ?aF ?aB ?aS ?aL ?_;(case aR=>exact zC (Kd.C_below HR0.out HB.out));(case aB=>exact zB);(case aF=>exact (fun _ _=>trivial));(case aO=>exact (zR HO297));(case aS=>exact (below_size zB));(case aL=>have:=LMc2.out;omega);intro v299 w5 ho hb hg hat;rw [← Ny61.out] at ho;have HO300:=zA (ho);replace HB:=zA (hb);clear HO297;clear ho hb hg hat))
  go_ret
  exact ⟨_,ze,by refine zr ?_;exact HO300.out,zv0 HB⟩
def solve_Given.l0:Nat→Int→Int→List (S63)→List (S63)→Int→Int→Option ((List (S63))×Int)
 | 0,_,_,_,_,_,_=>none
 | k+1,x1,x2,x9,x34,x35,x36=>if x36<x35 then (if 0≤x36 then (if x36<(x34.length:Int) then ((slices_Clone_int_int.f ((rd_T63 x34 x36).f0)).bind fun t57=>((slices_Clone_int_int.f ((rd_T63 x34 x36).f1)).bind fun t58=>(if x9.length<2932031007402 then (solve_Given.l0 k x1 x2 (x9++[(⟨t57,t58⟩:S63)]) x34 x35 (wrap64 (x36+1))) else (none)))) else (none)) else (none)) else (if x9.length<2932031007402 then (some ((x9++[(⟨(([x1]:List Int)),(([x2]:List Int))⟩:S63)]),0)) else (none))
def solve_Given.f (k:Nat) (l0:List (S63)) (a1:Int) (a2:Int):Option ((List (S63))×Int):=(solve_valid.f k l0).bind fun t72=>(if t72=0 then (if a1<0 then (some (([]:List (S63)),6)) else (if a1≥24 then (some (([]:List (S63)),6)) else (if a2<0 then (some (([]:List (S63)),6)) else (if a2>1 then (some (([]:List (S63)),6)) else (if (l0.length:Int)=16 then (some (([]:List (S63)),3)) else (solve_Given.l0 k a1 a2 ([]:List (S63)) l0 (l0.length:Int) 0)))))) else (some (([]:List (S63)),t72)))
def solve_Given.T12:Bool×List (List Nat×List Nat):=(true,[([],[]),([],[]),([1],[1]),([2],[2]),([],[]),([4],[4]),([5,3],[5]),([3,6],[3,6]),([7],[7]),([0,8,6],[0,8]),([9,9,0,1,2,3,4,5,6,7,8,9],[0,9])])
def solve_Given.B12:List Nat:=[0,0,2,6,0,16,62,126,254,511,1023]
theorem solve_Given.tab12:rtab .any (opsOf Tryz.f81 12)=solve_Given.T12:=by kernel_rfl
theorem solve_Given.bits12:waitsOk solve_Given.T12.2 solve_Given.B12=true:=by kernel_rfl
set_option maxHeartbeats 8000000 in
set_option maxRecDepth 100000 in
theorem solve_Given.calls (k:Nat) (A0:Option Addr) (c0:Nat) (l0:List (S63)) (a1:Int) (a2:Int) (r1:List (S63)) (r2:Int) (w:World) (hr0:Kd.C k63 w A0 l0.length l0) (hc0:l0.length≤c0) (h:solve_Given.f k l0 a1 a2=some (r1,r2)) :
  Calls Tryz.prog 81 #[.slice A0 l0.length c0,.int .i64 a1,.int .i64 a2] w fun e w'=>∃ v0_:Value,e=.returned (.tuple #[v0_,.int .i64 r2])∧Kd.S k63 63 w' w.heap.size (fun _=>True) v0_ r1∧Below w.heap.size w w':=by
 have HR0:=zA hr0;have HC0:=zA hc0;clear hr0 hc0;have HB:=zA (Below.refl w.heap.size w);have H:((solve_valid.f k l0).bind fun t72=>(if t72=0 then (if a1<0 then (some (([]:List (S63)),6)) else (if a1≥24 then (some (([]:List (S63)),6)) else (if a2<0 then (some (([]:List (S63)),6)) else (if a2>1 then (some (([]:List (S63)),6)) else (if (l0.length:Int)=16 then (some (([]:List (S63)),3)) else (solve_Given.l0 k a1 a2 ([]:List (S63)) l0 (l0.length:Int) 0)))))) else (some (([]:List (S63)),t72))))=some (r1,r2):=h;clear h;obtain ⟨t72,A4,H⟩:=zo H;have HC5:=zA H;clear H
 go_enter Tryz.func81,Tryz.ntmps81
 go_upto_if 15 with (first|((with_reducible refine gate_callee (f:=69) rfl ?_);refine zgo 13 Tryz.func69 #[.slice A0 l0.length c0] ?_;(with_reducible refine (solve_valid.calls k _ _ l0 t72 _ ?side1 HC0.out A4.out).mono ?_);(case side1=>repeat (first|exact HR0.out|(with_reducible refine Kd.C_alloc ?_ _)|(with_reducible refine Kd.C_drewN ?_ _)|(with_reducible refine Kd.C_drew ?_)));rintro e w6 ⟨rfl,hb⟩;refine ⟨_,rfl,?_⟩;replace HB:=zu hb;clear hb))
 (try simp only [Act.put,zi,zs,zt]);have H:=HC5.out;clear HC5
 rcases ife H with ⟨c7b0,c7b1,H⟩|⟨c7,c7b0,c7b1,H⟩
 ·(first|rw [c7b0]|(simp only [i64_w,i32_w];rw [c7b0])|skip)
  (try rw [c7b1])
  rcases ifd H with ⟨c8b0,H⟩|⟨c8b0,H⟩
  ·simp only [Option.some.injEq,Prod.mk.injEq] at H;obtain ⟨rfl,rfl⟩:=H
   go_wp2
   go_ret2
   exact ⟨_,ze,by first|exact Kd.S_nil _ _ _ _ _|exact Kd.N_nil _ _ _ _ _|exact Kd.V_nil _ _ _ _ _|exact Kd.Q_nil _ _ _ _ _|exact Kd.R_nil _ _ _ _ _,zv0 HB⟩
  ·rcases if0 H with ⟨c9,H⟩|⟨c9,H⟩
   ·have c9b0:decide (24≤a1)=true:=decide_eq_true c9;clear c9;simp only [Option.some.injEq,Prod.mk.injEq] at H;obtain ⟨rfl,rfl⟩:=H
    go_wp2
    go_ret2
    exact ⟨_,ze,by first|exact Kd.S_nil _ _ _ _ _|exact Kd.N_nil _ _ _ _ _|exact Kd.V_nil _ _ _ _ _|exact Kd.Q_nil _ _ _ _ _|exact Kd.R_nil _ _ _ _ _,zv0 HB⟩
   ·have c9b0:decide (24≤a1)=false:=decide_eq_false c9;clear c9
    rcases ifd H with ⟨c10b0,H⟩|⟨c10b0,H⟩
    ·simp only [Option.some.injEq,Prod.mk.injEq] at H;obtain ⟨rfl,rfl⟩:=H
     go_wp2
     go_ret2
     exact ⟨_,ze,by first|exact Kd.S_nil _ _ _ _ _|exact Kd.N_nil _ _ _ _ _|exact Kd.V_nil _ _ _ _ _|exact Kd.Q_nil _ _ _ _ _|exact Kd.R_nil _ _ _ _ _,zv0 HB⟩
    ·rcases if0 H with ⟨c11,H⟩|⟨c11,H⟩
     ·have c11b0:decide (1<a2)=true:=decide_eq_true c11;clear c11;simp only [Option.some.injEq,Prod.mk.injEq] at H;obtain ⟨rfl,rfl⟩:=H
      go_wp2
      go_ret2
      exact ⟨_,ze,by first|exact Kd.S_nil _ _ _ _ _|exact Kd.N_nil _ _ _ _ _|exact Kd.V_nil _ _ _ _ _|exact Kd.Q_nil _ _ _ _ _|exact Kd.R_nil _ _ _ _ _,zv0 HB⟩
     ·have c11b0:decide (1<a2)=false:=decide_eq_false c11;clear c11
      rcases ife H with ⟨c12b0,c12b1,H⟩|⟨c12,c12b0,c12b1,H⟩
      ·simp only [Option.some.injEq,Prod.mk.injEq] at H;obtain ⟨rfl,rfl⟩:=H
       go_wp2
       go_ret2
       exact ⟨_,ze,by first|exact Kd.S_nil _ _ _ _ _|exact Kd.N_nil _ _ _ _ _|exact Kd.V_nil _ _ _ _ _|exact Kd.Q_nil _ _ _ _ _|exact Kd.R_nil _ _ _ _ _,zv0 HB⟩
      ·have H':=zA H;clear H
       go_wp2
       go_loopg [9,36] k (fun kq v9 v36 w'=>∃ (x9_1:List (S63)) (x36_1:Int),v36=.int .i64 x36_1∧Aside0 (solve_Given.l0 kq a1 a2 x9_1 l0 (l0.length:Int) x36_1=some (r1,r2))∧Aside0 (kq≤k)∧Aside0 (Kd.S k63 63 w' w.heap.size (fun _=>True) v9 x9_1)∧Aside0 (Below w.heap.size w w'))
       case atStart=>exact ⟨(([]:List (S63))),(0),zT,H',⟨Nat.le_refl _⟩,⟨by first|exact Kd.S_nil _ _ _ _ _|exact Kd.N_nil _ _ _ _ _|exact Kd.V_nil _ _ _ _ _|exact Kd.Q_nil _ _ _ _ _|exact Kd.R_nil _ _ _ _ _⟩,⟨zv0 HB⟩⟩
       case round=>
        clear H'
        try clear c7
        try clear c7b0
        try clear c7b1
        try clear c8
        try clear c8b0
        try clear c9
        try clear c9b0
        try clear c10
        try clear c10b0
        try clear c11
        try clear c11b0
        try clear c12
        try clear c12b0
        try clear c12b1
        obtain ⟨x9_1,x36_1,rfl,HA,HK1,HO_9,HB⟩:=hrel
        cases gk with
        | zero=>exact absurd HA.out (by simp [solve_Given.l0])
        | succ k1=>
         have H:=HA.out;clear HA;simp only [solve_Given.l0] at H
         rcases ifd H with ⟨c13b0,H⟩|⟨c13b0,H⟩
         ·obtain ⟨c14b0,H⟩:=ifd1 H;obtain ⟨c15b0,H⟩:=ifd1 H;obtain ⟨t57,A16,H⟩:=zo H;obtain ⟨t58,A17,H⟩:=zo H;obtain ⟨c18,H⟩:=if1 H;have LMc18:=zA c18;clear c18
          first|(replace H:=zyb (x9_1++[(⟨t57,t58⟩:S63)]) H;obtain ⟨y59,Ny59,H⟩:=H)|(obtain ⟨y59,hy59⟩:=zY (x9_1++[(⟨t57,t58⟩:S63)]);(try rw (occs:=.pos [1]) [← hy59] at H);have Ny59:=zA hy59;clear hy59)
          have H':=zA H;clear H;obtain ⟨p37,q37,ad37,A37_0,c37_0,A37_1,c37_1,e37,hx37_0,hx37_1,hl37_0,hi37_0,hl37_1,hi37_1⟩:=zp (at_T63 HR0.out x36_1)
          cases e37
          replace hx37_0:=zd HB hx37_0;replace hx37_1:=zd HB hx37_1;have HR37_0:=zA hi37_0;have HC37_0:=zA hl37_0;clear hi37_0 hl37_0;have HR37_1:=zA hi37_1;have HC37_1:=zA hl37_1;clear hi37_1 hl37_1;replace p37:=eq_true p37;replace q37:=eq_true q37
          try go_wp2_with (first|((with_reducible refine gd 11 rfl ?_);refine zx #[.slice none 0 0,.slice none 0 0] 63 ?_;intro gb39 hg w19 BK39 hb GW39 HB1;have GE39:=GW39;replace HO_9:=zA (Kd.S_below (Kd.S_elderB (zS HO_9) gb39 (Nat.le_of_eq hg.symm)) hb);clear HB hb hg;have HB:=HB1;clear HB1;have hcz20_0:=zc0 BK39;have hcz20_1:=zc1 BK39;have hfz20_0:=zf BK39))
          have n0_:Aside0 (Kd.S k63 63 ((w19.setCell ⟨gb39,0,none⟩ (.slice A37_0 ((rd_T63 l0 x36_1).f0).length c37_0)).setCell ⟨gb39,1,none⟩ (.slice A37_1 ((rd_T63 l0 x36_1).f1).length c37_1)) w.heap.size (fun k_=>k_≠gb39) u9 x9_1):=⟨by (with_reducible repeat (first|apply Kd.S_alloc|apply Kd.S_drewN|apply Kd.S_drew));exact Kd.S_mono (Kd.S_far (p:=⟨gb39,1,none⟩) (Kd.S_far (p:=⟨gb39,0,none⟩) (Kd.S_mono HO_9.out (fun k_ hk=>(⟨hk,hk.2⟩:_∧k_≠gb39))) (fun _ hk=>hk.2) (.slice A37_0 ((rd_T63 l0 x36_1).f0).length c37_0)) (fun _ hk=>hk.2) (.slice A37_1 ((rd_T63 l0 x36_1).f1).length c37_1)) (fun _ hk=>hk.1.2)⟩
          have n1_:Aside0 (((w19.setCell ⟨gb39,0,none⟩ (.slice A37_0 ((rd_T63 l0 x36_1).f0).length c37_0)).setCell ⟨gb39,1,none⟩ (.slice A37_1 ((rd_T63 l0 x36_1).f1).length c37_1)).heap[gb39]?=some (.cells #[.slice A37_0 ((rd_T63 l0 x36_1).f0).length c37_0,.slice A37_1 ((rd_T63 l0 x36_1).f1).length c37_1] 63 (0,0))):=⟨by refine zj ?_;refine blk_put (cs:=#[.slice A37_0 ((rd_T63 l0 x36_1).f0).length c37_0,.slice none 0 0]) ?_ 1 _ rfl;refine zj ?_;refine blk_put (cs:=#[.slice none 0 0,.slice none 0 0]) ?_ 0 _ rfl;refine zj ?_;exact BK39.out⟩
          have n2_:Aside0 (Below w.heap.size w ((w19.setCell ⟨gb39,0,none⟩ (.slice A37_0 ((rd_T63 l0 x36_1).f0).length c37_0)).setCell ⟨gb39,1,none⟩ (.slice A37_1 ((rd_T63 l0 x36_1).f1).length c37_1))):=⟨zv1 HB GE39⟩
          (try clear HO_9);(try clear BK39);(try clear HB)
          generalize ((w19.setCell ⟨gb39,0,none⟩ (.slice A37_0 ((rd_T63 l0 x36_1).f0).length c37_0)).setCell ⟨gb39,1,none⟩ (.slice A37_1 ((rd_T63 l0 x36_1).f1).length c37_1))=w21 at n0_ n1_ n2_ ⊢
          have HO_9:=n0_;have BK39:=n1_;have HB:=n2_;clear n0_ n1_ n2_;replace HO_9:=zA (Kd.S_drew HO_9.out);replace BK39:=zA (blk_drew BK39.out);replace HB:=zA (below_drew1 HB.out);refine start_ (n:=11) (S:=fun w'=>w'.cell? ⟨gb39,0,none⟩=some (.slice A37_0 ((rd_T63 l0 x36_1).f0).length c37_0)∧w'.cell? ⟨gb39,1,none⟩=some (.slice A37_1 ((rd_T63 l0 x36_1).f1).length c37_1)) (ds:=[]) (bz 11 0) zK rfl rfl ⟨zc0 BK39,zc1 BK39⟩ (fun hHeld=>?_);refine with_tabW solve_Given.tab12 solve_Given.bits12 (fun HT_ HW_=>?_)
          generalize w21.drew=w22 at HO_9 BK39 HB hHeld ⊢
          refine zP 0 40 (bz 11 1) HT_ ?_;refine zP 1 41 (bz 11 3) HT_ ?_;refine zP 4 44 (bz 11 19) HT_ ?_;refine zQ 2 42 (bz 11 23) HT_ HW_ hHeld ?_;refine zQ 5 45 (bz 11 55) HT_ HW_ hHeld ?_;refine one_ (i:=3) (N:=some 43) (bz 11 63) rfl rfl (one_of HT_.out zK) (by decide) (fun K hK=>?_);refine goes_ Tryz.func38 zK rfl #[.slice A37_0 ((rd_T63 l0 x36_1).f0).length c37_0] (by rfl) rfl rfl zM ?_
          with_reducible refine (slices_Clone_int_int.calls _ _ ((rd_T63 l0 x36_1).f0) t57 _ ?side1 ?side2 A16.out).mono ?_
          (case side1=>exact zC (Kd.C_below HR37_0.out HB.out));(case side2=>exact HC37_0.out);rintro e w23 ⟨v305,rfl,ho0,hb⟩;refine ⟨_,rfl,?_⟩;have HO73:=zA (Kd.R_lower ho0 (below_size zB));replace HO_9:=zA (Kd.S_elder' (zS HO_9) (Kd.R_base ho0) hb);replace BK39:=zw BK39 hb;replace HB:=zu hb;(try clear hb);(try clear hb2);(try clear hk);(try clear hi);(try clear ho0);refine hK.out _ _ ⟨zc0 BK39,zc1 BK39⟩ (fun hHeld=>?_);clear hK K;refine norm_ (a':=?_) ?_ ?_;rotate_left
          ·show Act.put _ (some 43) _=_
           simp only [Act.put,zi,zs,zt,i64_w,i32_w];rfl
          refine one_ (i:=6) (N:=some 46) (bz 11 127) rfl rfl (one_of HT_.out zK) (by decide) (fun K hK=>?_);refine goes_ Tryz.func38 zK rfl #[.slice A37_1 ((rd_T63 l0 x36_1).f1).length c37_1] (by rfl) rfl rfl zM ?_
          with_reducible refine (slices_Clone_int_int.calls _ _ ((rd_T63 l0 x36_1).f1) t58 _ ?side1 ?side2 A17.out).mono ?_
          (case side1=>exact zC (Kd.C_below HR37_1.out HB.out));(case side2=>exact HC37_1.out);rintro e w24 ⟨v308,rfl,ho0,hb⟩;refine ⟨_,rfl,?_⟩;have HO91:=zA (Kd.R_lower (Kd.R_new' ho0 (Kd.R_lt (zR HO73))) (below_size zB));replace HO_9:=zA (Kd.S_elder' (zS HO_9) (Kd.R_base ho0) hb);replace HO73:=zA (Kd.R_elder' (zR HO73) (Kd.R_base ho0) hb);replace BK39:=zw BK39 hb;replace HB:=zu hb;(try clear hb);(try clear hb2);(try clear hk);(try clear hi);(try clear ho0);obtain ⟨Ao25,co25,eo25⟩:=Kd.R_slice HO91.out
          (first|subst eo25|(injection eo25 with f1_ f2_ f3_;have f4_:=f1_.symm;have f5_:=f3_.symm;clear f1_ f2_ f3_;subst f4_;subst f5_))
          obtain ⟨Ao26,co26,eo26⟩:=Kd.R_slice HO73.out
          (first|subst eo26|(injection eo26 with f1_ f2_ f3_;have f4_:=f1_.symm;have f5_:=f3_.symm;clear f1_ f2_ f3_;subst f4_;subst f5_))
          refine hK.out _ _ ⟨zc0 BK39,zc1 BK39⟩ (fun hHeld=>?_);clear hK K;refine norm_ (a':=?_) ?_ ?_;rotate_left
          ·show Act.put _ (some 46) _=_
           simp only [Act.put,zi,zs,zt,i64_w,i32_w];rfl
          refine zP 7 47 (bz 11 255) HT_ ?_;refine one_ (i:=8) (N:=some 48) (bz 11 511) rfl rfl (one_of HT_.out zK) (by decide) (fun K hK=>?_);refine value_ (w1:=?_) (v:=?_) (by rfl) rfl ?_ ?_;rotate_left 2
          ·go_simp
           constructor
           ·rfl
           ·rfl
          refine hK.out _ _ ⟨(blk_cell (blk_alloc BK39.out _) 0).trans rfl,(blk_cell (blk_alloc BK39.out _) 1).trans rfl⟩ (fun hHeld=>?_);clear hK K;refine norm_ (a':=?_) ?_ ?_;rotate_left
          ·show Act.put _ (some 48) _=_
           simp only [Act.put,zi,zs,zt,i64_w,i32_w];rfl
          refine one_ (i:=9) (N:=some 49) (bz 11 1023) rfl rfl (one_of HT_.out zK) (by decide) (fun K hK=>?_);refine Kd.S_append_step k63 (w0:=w) w.heap.size (by rfl) (.tmp 40) (.tmp 48) 22 63 (.agg #[(.slice none 0 0),(.slice none 0 0)]) 48 rfl Tryz.underlying22 info63 rfl (by decide) (by omega) u9 x9_1 (⟨t57,t58⟩:S63) [.slice Ao26 t57.length co26,.slice Ao25 t58.length co25] (fun k_=>k_≠gb39) (fun k_=>some k_=(.slice Ao26 t57.length co26:Value).ownBlock∨some k_=(.slice Ao25 t58.length co25:Value).ownBlock) rfl rfl ?aP (fun k_ hk_=>hk_.elim (fun h_=>((Kd.R_mono (ok':=fun k_=>((fun k_=>k_≠gb39)) k_∧some k_≠(u9:Value).ownBlock) (Kd.R_types (Kd.R_apart' (HO73.out) (Kd.S_typed HO_9.out) (by decide)) BK39.out (by decide)) (fun k_ hk=>⟨hk.2,hk.1.2⟩))).1 k_ h_.symm) (fun h_=>((Kd.R_mono (ok':=fun k_=>((fun k_=>k_≠gb39)) k_∧some k_≠(u9:Value).ownBlock) (Kd.R_types (Kd.R_apart' (HO91.out) (Kd.S_typed HO_9.out) (by decide)) BK39.out (by decide)) (fun k_ hk=>⟨hk.2,hk.1.2⟩))).1 k_ h_.symm)) ?aF ?aO ?aB ?aS ?aL ?_;(case aP=>exact k63_mkM _ _ _ (⟨t57,t58⟩:S63) (Kd.R_mono (Kd.R_tight rfl (Kd.R_mono (ok':=fun k_=>((fun k_=>k_≠gb39)) k_∧some k_≠(u9:Value).ownBlock) (Kd.R_types (Kd.R_apart' (HO73.out) (Kd.S_typed HO_9.out) (by decide)) BK39.out (by decide)) (fun k_ hk=>⟨hk.2,hk.1.2⟩))) (fun _ h_=>Or.inl h_)) (Kd.R_mono (Kd.R_tight rfl (Kd.R_mono (ok':=fun k_=>((fun k_=>k_≠gb39)) k_∧some k_≠(u9:Value).ownBlock) (Kd.R_types (Kd.R_apart' (HO91.out) (Kd.S_typed HO_9.out) (by decide)) BK39.out (by decide)) (fun k_ hk=>⟨hk.2,hk.1.2⟩))) (fun _ h_=>Or.inr (h_))));(case aB=>exact zB);(case aF=>exact (fun k_ hk=>Kd.freshB (g:=gb39) (o:=.cells #[.slice A37_0 ((rd_T63 l0 x36_1).f0).length c37_0,.slice A37_1 ((rd_T63 l0 x36_1).f1).length c37_1] 63 (0,0)) (zk BK39) k_ hk));(case aO=>exact (by (with_reducible repeat (first|apply Kd.S_alloc|apply Kd.S_drewN|apply Kd.S_drew));exact Kd.S_mono HO_9.out (fun k_ hk=>⟨hk.1.1,fun e_=>e_.elim (fun h_=>hk.1.2 h_) (fun h_=>hk.2 h_)⟩)));(case aS=>exact (below_size zB));(case aL=>have:=LMc18.out;omega);intro v311 w27 ho hb hg hat;rw [← Ny59.out] at ho;have HO312:=zA (ho);replace BK39:=zA (blk_grown (g:=gb39) (o:=.cells #[.slice A37_0 ((rd_T63 l0 x36_1).f0).length c37_0,.slice A37_1 ((rd_T63 l0 x36_1).f1).length c37_1] 63 (0,0)) (zk BK39) hg (Kd.S_away HO_9.out (fun _ hk=>hk.1.1)));replace HB:=zA (hb);clear HO_9 HO73 HO91;clear ho hb hg hat;refine hK.out _ _ ⟨zc0 BK39,zc1 BK39⟩ (fun hHeld=>?_);clear hK K;refine norm_ (a':=?_) ?_ ?_;rotate_left
          ·show Act.put _ (some 49) _=_
           simp only [Act.put,zi,zs,zt,i64_w,i32_w];rfl
          refine zP 10 9 (bz 11 2047) HT_ ?_;refine done_ (done_of HT_.out zK) ?_
          try go_wp2
          go_roundg k1
          case measure=>have:=HK1.out;omega
          case rel=>exact ⟨(y59),(wrap64 (x36_1+1)),zT,H',⟨by have:=HK1.out;omega⟩,⟨by (with_reducible repeat (first|apply Kd.S_alloc|apply Kd.S_drewN|apply Kd.S_drew));exact Kd.S_mono HO312.out (fun _ hk=>trivial)⟩,⟨zv1 HB GE39⟩⟩
         ·first|(replace H:=zyb (([a1]:List Int)) H;obtain ⟨y49,Ny49,H⟩:=H)|(obtain ⟨y49,hy49⟩:=zY (([a1]:List Int));(try rw (occs:=.pos [1]) [← hy49] at H);have Ny49:=zA hy49;clear hy49)
          first|(replace H:=zyb (([a2]:List Int)) H;obtain ⟨y51,Ny51,H⟩:=H)|(obtain ⟨y51,hy51⟩:=zY (([a2]:List Int));(try rw (occs:=.pos [1]) [← hy51] at H);have Ny51:=zA hy51;clear hy51)
          obtain ⟨c28,H⟩:=if1 H;have LMc28:=zA c28;clear c28
          first|(replace H:=zyb (x9_1++[(⟨y49,y51⟩:S63)]) H;obtain ⟨y62,Ny62,H⟩:=H)|(obtain ⟨y62,hy62⟩:=zY (x9_1++[(⟨y49,y51⟩:S63)]);(try rw (occs:=.pos [1]) [← hy62] at H);have Ny62:=zA hy62;clear hy62)
          simp only [Option.some.injEq,Prod.mk.injEq] at H;obtain ⟨rfl,rfl⟩:=H
          go_wp2_with (first|((with_reducible refine gate_dst (N:=53) rfl ?_);refine Kd.R_lit (Kd.int .i64) _ 3 ?hg (N:=53) ?hd (xs:=([a1]:List Int)) (inner:=[.int .i64 a1]) (ok:=fun _=>True) (okp:=fun _=>True) ?hr ?hp (fun _ hk=>hk) trivial (Below.refl _ _) (Nat.le_refl _) (by simp) ?_;(case hd=>rfl);(case hg=>rfl);(case hr=>first|(go_simp;done)|(go_simp;rfl));(case hp=>exact (Reps.one (show Kd.M (Kd.int .i64) _ _ _ a1 [.int .i64 a1] from rfl) (Reps.none _ _)));intro v314 w29 ho30 hb hg_ hnew_;clear hg_ hnew_;(first|rw [← Ny49.out] at ho30|(simp only [Int.reduceToNat] at ho30;rw [← Ny49.out] at ho30));have HO74:=zA (Kd.R_lower ho30 (below_size zB));replace HO_9:=zA (Kd.S_elder' (zS HO_9) (Kd.R_base ho30) hb);replace HB:=zu hb;clear hb ho30)|((with_reducible refine gate_dst (N:=55) rfl ?_);refine Kd.R_lit (Kd.int .i64) _ 3 ?hg (N:=55) ?hd (xs:=([a2]:List Int)) (inner:=[.int .i64 a2]) (ok:=fun _=>True) (okp:=fun _=>True) ?hr ?hp (fun _ hk=>hk) trivial (Below.refl _ _) (Nat.le_refl _) (by simp) ?_;(case hd=>rfl);(case hg=>rfl);(case hr=>first|(go_simp;done)|(go_simp;rfl));(case hp=>exact (Reps.one (show Kd.M (Kd.int .i64) _ _ _ a2 [.int .i64 a2] from rfl) (Reps.none _ _)));intro v317 w31 ho32 hb hg_ hnew_;clear hg_ hnew_;(first|rw [← Ny51.out] at ho32|(simp only [Int.reduceToNat] at ho32;rw [← Ny51.out] at ho32));have HO92:=zA (Kd.R_lower (Kd.R_new' ho32 (Kd.R_lt (zR HO74))) (below_size zB));replace HO_9:=zA (Kd.S_elder' (zS HO_9) (Kd.R_base ho32) hb);replace HO74:=zA (Kd.R_elder' (zR HO74) (Kd.R_base ho32) hb);replace HB:=zu hb;clear hb ho32;obtain ⟨Ao33,co33,eo33⟩:=Kd.R_slice HO92.out;subst eo33;obtain ⟨Ao34,co34,eo34⟩:=Kd.R_slice HO74.out;subst eo34)|((with_reducible refine gate_builtin (b:=.append) (xs:=#[.tmp 51,.tmp 57]) rfl ?_);at_builtin;refine Kd.S_append k63 (w0:=w) w.heap.size rfl (.tmp 51) (.tmp 57) 22 63 (.agg #[(.slice none 0 0),(.slice none 0 0)]) 48 rfl Tryz.underlying22 info63 rfl (by decide) (by omega) u9 x9_1 (⟨y49,y51⟩:S63) [.slice Ao34 y49.length co34,.slice Ao33 y51.length co33] (fun _=>True) (fun k_=>some k_=(.slice Ao34 y49.length co34:Value).ownBlock∨some k_=(.slice Ao33 y51.length co33:Value).ownBlock) rfl rfl ?aP (fun k_ hk_=>hk_.elim (fun h_=>((Kd.R_mono (ok':=fun k_=>((fun _=>True)) k_∧some k_≠(u9:Value).ownBlock) (Kd.R_apart' (HO74.out) (Kd.S_typed HO_9.out) (by decide)) (fun k_ hk=>⟨trivial,hk.2⟩))).1 k_ h_.symm) (fun h_=>((Kd.R_mono (ok':=fun k_=>((fun _=>True)) k_∧some k_≠(u9:Value).ownBlock) (Kd.R_apart' (HO92.out) (Kd.S_typed HO_9.out) (by decide)) (fun k_ hk=>⟨trivial,hk.2⟩))).1 k_ h_.symm)) ?aF ?aO ?aB ?aS ?aL ?_;(case aP=>exact k63_mkM _ _ _ (⟨y49,y51⟩:S63) (Kd.R_mono (Kd.R_tight rfl (Kd.R_mono (ok':=fun k_=>((fun _=>True)) k_∧some k_≠(u9:Value).ownBlock) (Kd.R_apart' (HO74.out) (Kd.S_typed HO_9.out) (by decide)) (fun k_ hk=>⟨trivial,hk.2⟩))) (fun _ h_=>Or.inl h_)) (Kd.R_mono (Kd.R_tight rfl (Kd.R_mono (ok':=fun k_=>((fun _=>True)) k_∧some k_≠(u9:Value).ownBlock) (Kd.R_apart' (HO92.out) (Kd.S_typed HO_9.out) (by decide)) (fun k_ hk=>⟨trivial,hk.2⟩))) (fun _ h_=>Or.inr (h_))));(case aB=>exact zB);(case aF=>exact (fun _ _=>trivial));(case aO=>exact (by (with_reducible repeat (first|apply Kd.S_alloc|apply Kd.S_drewN|apply Kd.S_drew));exact Kd.S_mono HO_9.out (fun k_ hk=>⟨trivial,fun e_=>e_.elim (fun h_=>hk.1.2 h_) (fun h_=>hk.2 h_)⟩)));(case aS=>exact (below_size zB));(case aL=>have:=LMc28.out;omega);intro v320 w35 ho hb hg hat;rw [← Ny62.out] at ho;have HO321:=zA (ho);replace HB:=zA (hb);clear HO_9 HO74 HO92;clear ho hb hg hat))
          go_ret2
          exact ⟨_,ze,by (with_reducible repeat (first|apply Kd.S_alloc|apply Kd.S_drewN|apply Kd.S_drew));exact HO321.out,zv0 HB⟩
 ·(first|rw [c7b0]|(simp only [i64_w,i32_w];rw [c7b0])|skip)
  (try rw [c7b1]);simp only [Option.some.injEq,Prod.mk.injEq] at H;obtain ⟨rfl,rfl⟩:=H
  go_wp2
  go_ret2
  exact ⟨_,ze,by first|exact Kd.S_nil _ _ _ _ _|exact Kd.N_nil _ _ _ _ _|exact Kd.V_nil _ _ _ _ _|exact Kd.Q_nil _ _ _ _ _|exact Kd.R_nil _ _ _ _ _,zv0 HB⟩
def shared_with.f (k:Nat) (l0:List (S63)) (a1:Int) (a2:Int):Option ((List (S63))×Int×Bool):=(solve_Given.f k l0 a1 a2).bind fun bt60=>((solve_First.f k bt60.1).bind fun bt75=>(some (bt60.1,bt75.1,(bt75.2 == 0))))
set_option maxHeartbeats 8000000 in
set_option maxRecDepth 100000 in
theorem shared_with.calls (k:Nat) (A0:Option Addr) (c0:Nat) (l0:List (S63)) (a1:Int) (a2:Int) (r1:List (S63)) (r2:Int) (r3:Bool) (w:World) (hr0:Kd.C k63 w A0 l0.length l0) (hc0:l0.length≤c0) (h:shared_with.f k l0 a1 a2=some (r1,r2,r3)) :
  Calls Tryz.prog 71 #[.slice A0 l0.length c0,.int .i64 a1,.int .i64 a2] w fun e w'=>∃ v0_:Value,e=.returned (.tuple #[v0_,.int .i64 r2,.bool r3])∧Kd.S k63 63 w' w.heap.size (fun _=>True) v0_ r1∧Below w.heap.size w w':=by
 have HR0:=zA hr0;have HC0:=zA hc0;clear hr0 hc0;have HB:=zA (Below.refl w.heap.size w);have H:((solve_Given.f k l0 a1 a2).bind fun bt60=>((solve_First.f k bt60.1).bind fun bt75=>(some (bt60.1,bt75.1,(bt75.2 == 0)))))=some (r1,r2,r3):=h;clear h;obtain ⟨t60,t323,A4,H⟩:=zO H
 dsimp only at H
 obtain ⟨t75,t327,A5,H⟩:=zO H
 dsimp only at H
 simp only [Option.some.injEq,Prod.mk.injEq] at H;obtain ⟨rfl,rfl,rfl⟩:=H
 go_enter Tryz.func71,Tryz.ntmps71
 go_wp2_with (first|((with_reducible refine gate_callee (f:=81) rfl ?_);refine zgo 17 Tryz.func81 #[.slice A0 l0.length c0,.int .i64 a1,.int .i64 a2] ?_;(with_reducible refine (solve_Given.calls k _ _ l0 a1 a2 t60 t323 _ ?side1 HC0.out A4.out).mono ?_);(case side1=>repeat (first|exact HR0.out|(with_reducible refine Kd.C_alloc ?_ _)|(with_reducible refine Kd.C_drewN ?_ _)|(with_reducible refine Kd.C_drew ?_)));rintro e w6 ⟨v324,rfl,ho0,hb⟩;refine ⟨_,rfl,?_⟩;have HO78:=zA (Kd.S_lower ho0 (below_size zB));replace HB:=zu hb;clear hb;(try clear ho0);obtain ⟨Ao7,co7,eo7⟩:=Kd.S_slice HO78.out;subst eo7)|((with_reducible refine gate_callee (f:=44) rfl ?_);refine zgo 22 Tryz.func44 #[.slice Ao7 t60.length co7] ?_;(with_reducible refine (solve_First.calls k _ _ t60 t75 t327 _ ?side1 ?side2 A5.out).mono ?_);(case side1=>exact zC (Kd.S_reads' HO78.out).2.2);(case side2=>exact (Kd.S_reads' HO78.out).2.1);rintro e w8 ⟨rfl,hb⟩;refine ⟨_,rfl,?_⟩;replace HO78:=zA (Kd.S_below (zS HO78) hb);replace HB:=zu hb;clear hb))
 go_ret3
 exact ⟨_,ze,by (with_reducible repeat (first|apply Kd.S_alloc|apply Kd.S_drewN|apply Kd.S_drew));exact HO78.out,zv0 HB⟩
end Go.Proofs.YtngpkbbljnbojaaGreat.L
