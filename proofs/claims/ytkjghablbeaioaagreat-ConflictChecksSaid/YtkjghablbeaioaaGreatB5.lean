import Derived.Test.YtkjghablbeaioaaGreatB0
import Derived.Test.YtkjghablbeaioaaGreatB2
import Derived.Test.YtkjghablbeaioaaGreatB3
import Derived.Test.YtkjghablbeaioaaGreatB4
namespace Go.Proofs.YtkjghablbeaioaaGreat.B
open Go.RowKit Go.Proofs.YtkjghablbeaioaaGreatW.PrintWords Go.Proofs.YtkjghablbeaioaaGreatW.PrintLast Go.Proofs.YtkjghablbeaioaaGreatW.PrintMore
attribute [local go_sem] max2_int min2_int max_two min_two max_three min_three max_four min_four Tryz.underlying22 Tryz.underlying23 Tryz.underlying3 Tryz.underlying37 Tryz.underlying49 Tryz.underlying80
set_option linter.unusedVariables false
set_option linter.unusedSimpArgs false
def api_Table_solve_choices_fails.l0:Nat→List (S49)→Int→Int→Int→Int→Option (Int)
 | 0,_,_,_,_,_=>none
 | k+1,x0,x7,x8,x70,x71=>if x8<x7 then (if 0≤x8 then (if x8<(x0.length:Int) then ((solve_choices_fails.f k x70 x71 ((rd_T49 x0 x8).f0) ((rd_T49 x0 x8).f1)).bind fun t81=>(if t81=true then (some x8) else (api_Table_solve_choices_fails.l0 k x0 x7 (wrap64 (x8+1)) x70 x71))) else (none)) else (none)) else (some (-1))
def api_Table_solve_choices_fails.f (k:Nat) (l0:List (S49)) (a1_0:Int) (a1_1:Int):Option (Int):=api_Table_solve_choices_fails.l0 k l0 (l0.length:Int) 0 a1_0 a1_1
theorem api_Table_solve_choices_fails.mono_l:∀ k,(∀ y0 y1 y2 y3 y4,LeO (api_Table_solve_choices_fails.l0 k y0 y1 y2 y3 y4) (api_Table_solve_choices_fails.l0 (k+1) y0 y1 y2 y3 y4))
 | 0=>fun _ _ _ _ _ r h=>by simp [api_Table_solve_choices_fails.l0] at h
 | k+1=>by
  have ih0:=api_Table_solve_choices_fails.mono_l k
  ·intro y0 y1 y2 y3 y4
   unfold api_Table_solve_choices_fails.l0
   repeat' first
   | (with_reducible exact ih0 _ _ _ _ _)
   | (with_reducible exact solve_choices_fails.mono _ _ _ _ _)
   | (with_reducible exact LeO.refl _)
   | (with_reducible exact LeO.none _)
   | (with_reducible refine LeO.ite ?_ ?_)
   | (with_reducible refine LeO.bind ?_ (fun _=>?_))
   | exact LeO.none _
   | refine LeO.ite ?_ ?_
   | refine LeO.bind ?_ (fun _=>?_)
theorem api_Table_solve_choices_fails.mono:∀ a0 a1 a2 k,LeO (api_Table_solve_choices_fails.f k a0 a1 a2) (api_Table_solve_choices_fails.f (k+1) a0 a1 a2):=by
 intro a0 a1 a2 k;have ih0:=api_Table_solve_choices_fails.mono_l k
 unfold api_Table_solve_choices_fails.f
 repeat' first
   | (with_reducible exact ih0 _ _ _ _ _)
   | (with_reducible exact solve_choices_fails.mono _ _ _ _ _)
   | (with_reducible exact LeO.refl _)
   | (with_reducible exact LeO.none _)
   | (with_reducible refine LeO.ite ?_ ?_)
   | (with_reducible refine LeO.bind ?_ (fun _=>?_))
   | exact LeO.none _
   | refine LeO.ite ?_ ?_
   | refine LeO.bind ?_ (fun _=>?_)
set_option maxHeartbeats 8000000 in
set_option maxRecDepth 100000 in
theorem api_Table_solve_choices_fails.calls (k:Nat) (A0:Option Addr) (c0:Nat) (l0:List (S49)) (a1_0:Int) (a1_1:Int) (r:Int) (w:World) (hr0:Kd.C k49 w A0 l0.length l0) (hc0:l0.length≤c0) (h:api_Table_solve_choices_fails.f k l0 a1_0 a1_1=some r) :
  Calls Tryz.prog 93 #[.slice A0 l0.length c0,.func (.func 91) #[.agg #[.int .i64 a1_0,.int .i64 a1_1]] #[]] w fun e w'=>e=.returned (.int .i64 r)∧Below w.heap.size w w':=by
 have HR0:=zA hr0;have HC0:=zA hc0;clear hr0 hc0;have HB:=zA (Below.refl w.heap.size w);have H:(api_Table_solve_choices_fails.l0 k l0 (l0.length:Int) 0 a1_0 a1_1)=some r:=h;clear h;have H':=zA H;clear H
 go_enter Tryz.func93,Tryz.ntmps93
 go_wp2
 go_loopg [8] k (fun kq v8 w'=>∃ (x8_1:Int),v8=.int .i64 x8_1∧Aside0 (api_Table_solve_choices_fails.l0 kq l0 (l0.length:Int) x8_1 a1_0 a1_1=some r)∧Aside0 (kq≤k)∧Aside0 (Below w.heap.size w w'))
 case atStart=>exact ⟨(0),zT,H',⟨Nat.le_refl _⟩,⟨zv0 HB⟩⟩
 case round=>
  clear H';obtain ⟨x8_1,rfl,HA,HK1,HB⟩:=hrel
  cases gk with
  | zero=>exact absurd HA.out (by simp [api_Table_solve_choices_fails.l0])
  | succ k1=>
   have H:=HA.out;clear HA;simp only [api_Table_solve_choices_fails.l0] at H
   rcases ifd H with ⟨c3b0,H⟩|⟨c3b0,H⟩
   ·obtain ⟨c4b0,H⟩:=ifd1 H;obtain ⟨c5b0,H⟩:=ifd1 H;obtain ⟨t81,A6,H⟩:=zo H;have HC7:=zA H;clear H;obtain ⟨p42,q42,ad42,A42_0,c42_0,A42_1,c42_1,e42,hx42_0,hx42_1,hl42_0,hi42_0,hl42_1,hi42_1⟩:=zp (at_T49 HR0.out x8_1)
    cases e42
    replace hx42_0:=zd HB hx42_0;replace hx42_1:=zd HB hx42_1;have HR42_0:=zA hi42_0;have HC42_0:=zA hl42_0;clear hi42_0 hl42_0;have HR42_1:=zA hi42_1;have HC42_1:=zA hl42_1;clear hi42_1 hl42_1;replace p42:=eq_true p42;replace q42:=eq_true q42
    go_upto_if 16 with (first|(go_at_call 91;(with_reducible refine (solve_choices_fails.calls k1 a1_0 a1_1 _ _ ((rd_T49 l0 x8_1).f0) _ _ ((rd_T49 l0 x8_1).f1) t81 _ (zD HR42_0 HB) HC42_0.out (zD HR42_1 HB) HC42_1.out A6.out).mono ?_);rintro e w8 ⟨rfl,hb⟩;replace HB:=zu hb;clear hb))
    (try simp only [Act.put,zi,zs,zt]);have H:=HC7.out;clear HC7
    by_cases c9:t81=true
    ·subst c9
     have H1:(some x8_1)=some r:=by rw [if_pos rfl] at H;exact H
     clear H;have H:=H1;clear H1;obtain rfl:=Option.some.inj H
     go_wp2
     go_ret
     exact ⟨ze,zv0 HB⟩
    ·replace c9:=Bool.eq_false_iff.mpr c9;subst c9
     have H1:(api_Table_solve_choices_fails.l0 k1 l0 (l0.length:Int) (wrap64 (x8_1+1)) a1_0 a1_1)=some r:=by rw [if_neg (show ¬ (false=true) by decide)] at H;exact H
     clear H;have H:=H1;clear H1;have H':=zA H;clear H
     go_wp2
     go_roundg k1
     case measure=>have:=HK1.out;omega
     case rel=>exact ⟨(wrap64 (x8_1+1)),zT,H',⟨by have:=HK1.out;omega⟩,⟨zv0 HB⟩⟩
   ·obtain rfl:=Option.some.inj H
    go_wp2
    go_ret
    exact ⟨ze,zv0 HB⟩
def solve_choices_failing.f (k:Nat) (a0_0:Int) (a0_1:Int) (l1:List (S49)):Option (Int):=(api_Table_solve_choices_fails.f k l1 a0_0 a0_1).bind fun t72=>(some t72)
theorem solve_choices_failing.mono:∀ a0 a1 a2 k,LeO (solve_choices_failing.f k a0 a1 a2) (solve_choices_failing.f (k+1) a0 a1 a2):=by
 intro a0 a1 a2 k
 unfold solve_choices_failing.f
 repeat' first
   | (with_reducible exact api_Table_solve_choices_fails.mono _ _ _ _)
   | (with_reducible exact LeO.refl _)
   | (with_reducible exact LeO.none _)
   | (with_reducible refine LeO.ite ?_ ?_)
   | (with_reducible refine LeO.bind ?_ (fun _=>?_))
   | exact LeO.none _
   | refine LeO.ite ?_ ?_
   | refine LeO.bind ?_ (fun _=>?_)
set_option maxHeartbeats 8000000 in
set_option maxRecDepth 100000 in
theorem solve_choices_failing.calls (k:Nat) (a0_0:Int) (a0_1:Int) (A1:Option Addr) (c1:Nat) (l1:List (S49)) (r:Int) (w:World) (hr1:Kd.C k49 w A1 l1.length l1) (hc1:l1.length≤c1) (h:solve_choices_failing.f k a0_0 a0_1 l1=some r) :
  Calls Tryz.prog 99 #[.agg #[.int .i64 a0_0,.int .i64 a0_1],.slice A1 l1.length c1] w fun e w'=>e=.returned (.int .i64 r)∧Below w.heap.size w w':=by
 have HR1:=zA hr1;have HC1:=zA hc1;clear hr1 hc1;have HB:=zA (Below.refl w.heap.size w);have H:((api_Table_solve_choices_fails.f k l1 a0_0 a0_1).bind fun t72=>(some t72))=some r:=h;clear h;obtain ⟨t72,A3,H⟩:=zo H;obtain rfl:=Option.some.inj H
 go_enter Tryz.func99,Tryz.ntmps99
 go_wp2_with (first|((with_reducible refine gd 2 rfl ?_);refine zx #[.int .i64 a0_0,.int .i64 a0_1] 80 ?_;intro gb51 hg w4 BK51 hb GW51 HB1;have GE51:=GW51;clear HB hb hg;have HB:=HB1;clear HB1;have hcz5_0:=zc0 BK51;have hcz5_1:=zc1 BK51;have hfz5_0:=zf BK51)|((with_reducible refine gate_callee (f:=93) rfl ?_);refine zgo 8 Tryz.func93 #[.slice A1 l1.length c1,.func (.func 91) #[.agg #[.int .i64 a0_0,.int .i64 a0_1]] #[]] ?_;(with_reducible refine (api_Table_solve_choices_fails.calls k _ _ l1 a0_0 a0_1 t72 _ (zD HR1 HB) HC1.out A3.out).mono ?_);rintro e w6 ⟨rfl,hb⟩;refine ⟨_,rfl,?_⟩;replace BK51:=zw BK51 hb;replace HB:=zu hb;clear hb))
 go_ret
 exact ⟨ze,zv1 HB GE51⟩
/-- What the body of a range over the solutions keeps: all that lay here (but the blocks from n0 to n1: the body's own variables),and the choices of the search. -/
def KpS (n0 n1 n2:Nat) (W W':World):Prop:=W.heap.size≤W'.heap.size∧∀ k,k<W.heap.size→((k<n0∨(n1≤k∧k<n2))∨∃ cs,W.heap[k]?=some (.cells cs 80 (0,0)))→W'.heap[k]?=W.heap[k]?
theorem KpS.refl {n0 n1 n2:Nat} (W:World):KpS n0 n1 n2 W W:=⟨Nat.le_refl _,fun _ _ _=>rfl⟩
theorem KpS.trans {n0 n1 n2:Nat} {A B C:World} (h:KpS n0 n1 n2 A B) (k:KpS n0 n1 n2 B C):KpS n0 n1 n2 A C:=
 ⟨Nat.le_trans h.1 k.1,fun j hj hp=>by
  have e:=h.2 j hj hp;have e2:=k.2 j (Nat.lt_of_lt_of_le hj h.1) (hp.elim .inl (fun ⟨cs,hc⟩=>.inr ⟨cs,e.trans hc⟩))
  exact e2.trans e⟩
theorem KpS.below {n0 n1 n2:Nat} {A B:World} (h:Below A.heap.size A B):KpS n0 n1 n2 A B:=⟨h.size,fun j hj _=>h.block j hj⟩
theorem KpS.box {n0 n1 n2:Nat} {A B:World} (h:KpS n0 n1 n2 A B) {g:Nat} {cs:Array Value} (hb:A.heap[g]?=some (.cells cs 80 (0,0))):B.heap[g]?=some (.cells cs 80 (0,0)):=
 (h.2 g (blk_lt hb) (.inr ⟨cs,hb⟩)).trans hb
theorem KpS.kept {n0 n1 n2:Nat} {A B:World} (h:KpS n0 n1 n2 A B):Kept A B (fun k=>n0≤k∧(k<n1∨n2≤k)):=⟨h.1,fun i hi hn=>h.2 i hi (.inl (by omega))⟩
theorem KpS.put {n0 n1 n2:Nat} (h02:n0≤n2) (W:World) (l:Nat) (o o':Obj) (hl:n2≤l) (h:W.heap[l]?=some o) (ho:o.isCells=false):KpS n0 n1 n2 W (W.putObj l o'):=
 ⟨(grownBy_putObj' W l o').size,fun k hk hp=>(grownBy_putObj' W l o').block k hk (fun e=>by
  cases e
  rcases hp with hp|⟨cs,hc⟩
  ·omega
  ·rw [h] at hc;cases hc;simp [Obj.isCells] at ho)⟩
theorem KpS.set {n0 n1 n2:Nat} {W:World} {g t:Nat} {cs:Array Value} (hb:W.heap[g]?=some (.cells cs t (0,0))) (ht:t≠80) (h0:n0≤g) (h1:g<n1) (h2:n1≤n2) (j:Nat) (u:Value):KpS n0 n1 n2 W (W.setCell ⟨g,j,none⟩ u):=
 ⟨by simp [World.setCell],fun k hk hp=>Below.heap_setCell W _ u k (fun e=>by
  dsimp only at e
  subst e
  rcases hp with hp|⟨cs',hc⟩
  ·omega
  ·rw [hb] at hc;cases hc;exact ht rfl)⟩
theorem ne_row_ {A:World} {B:Nat} {row:Option Nat} (hr:∀ r,row=some r→B≤r∧∃ o:Obj,A.heap[r]?=some o∧o.isCells=false) {g t:Nat} {cs:Array Value} (hb:A.heap[g]?=some (.cells cs t (0,0))):some g≠row:=by
 intro e;obtain ⟨_,o,ho,hc⟩:=hr g e.symm;rw [hb] at ho
 cases ho
 simp [Obj.isCells] at hc
theorem run_loadVar_one {P:Program} (w:World) (g t ty:Nat) (v:Value) (fr:Nat×Nat) (d:TypeDesc) (hg:w.heap[g]?=some (.cells #[v] t fr)) (hu:P.underlying ty=some d) (hd:(match d with | .struct _ | .array _ _=>true|_=>false)=false) :
  (loadVar ty ⟨g,0,none⟩).run P w=.ok v w:=by
 have hagg:(isAgg ty).run P w=.ok false w:=by
  unfold isAgg
  rw [Sem.run_bind,run_underlying hu w]
  cases d <;> simp_all
 have hc:w.cell? ⟨g,0,none⟩=some v:=by simp [World.cell?,hg]
 simp [loadVar,Sem.run_bind,hagg,hc]
theorem results_two {P:Program} {fn:Func} {p p':Tmp} {ty ty':TypeId} (h:fn.results=#[.cell p ty,.cell p' ty']) (tmps:Array Value) (w:World) (g g':Nat) (v v':Value)
  (hp:tmps.getD p undef=.pointer (some ⟨g,0,none⟩)) (hp':tmps.getD p' undef=.pointer (some ⟨g',0,none⟩)) (h1:(loadVar ty ⟨g,0,none⟩).run P w=.ok v w) (h2:(loadVar ty' ⟨g',0,none⟩).run P w=.ok v' w) :
  (results fn tmps).run P w=.ok (.tuple #[v,v']) w:=by
 have e1:tmps[p]?.getD undef=.pointer (some ⟨g,0,none⟩):=by simpa using hp
 have e2:tmps[p']?.getD undef=.pointer (some ⟨g',0,none⟩):=by simpa using hp'
 simp [results,h,e1,e2,asAddr,h1,h2]
theorem two_set {W:World} {g g' t t':Nat} {v v':Value} (h1:W.heap[g]?=some (.cells #[v] t (0,0))) (h2:W.heap[g']?=some (.cells #[v'] t' (0,0))) (hne:g≠g') (u u':Value) :
  ((W.setCell ⟨g,0,none⟩ u).setCell ⟨g',0,none⟩ u').heap[g]?=some (.cells #[u] t (0,0))∧((W.setCell ⟨g,0,none⟩ u).setCell ⟨g',0,none⟩ u').heap[g']?=some (.cells #[u'] t' (0,0)):=
 ⟨blk_far (blk_put (cs:=#[v]) h1 0 u rfl) hne _,blk_put (cs:=#[v']) (blk_far h2 (Ne.symm hne) _) 0 u' rfl⟩
theorem two_keep (W:World) (g g':Nat) (u u':Value):KeepsOthers W ((W.setCell ⟨g,0,none⟩ u).setCell ⟨g',0,none⟩ u'):=(KeepsOthers.setCell _ _ _).trans (KeepsOthers.setCell _ _ _)
theorem blk_deferred {W:World} {D g t:Nat} {cs:Array Value} {x:Option (List Deferred)} (hb:W.heap[g]?=some (.cells cs t (0,0))) (hK:W.heap[D]?=some (.deferred x)) (o':Obj):(W.putObj D o').heap[g]?=some (.cells cs t (0,0)):=
 blk_grown hb (grownBy_putObj' W D o') (fun e=>by cases e;rw [hK] at hb;cases hb)
theorem KpS.grown {n0 n1 n2:Nat} {W W':World} {row:Option Nat} (hg:W.grownBy W' row) (h02:n0≤n2) (hr:∀ k,row=some k→n2≤k∧∃ cs t,W.heap[k]?=some (.cells cs t (0,0))∧t≠80):KpS n0 n1 n2 W W':=
 ⟨hg.size,fun k hk hp=>hg.block k hk (fun e=>by
  obtain ⟨h1,cs,t,hb,ht⟩:=hr k e.symm
  rcases hp with hp|⟨cs',hc⟩
  ·omega
  ·rw [hb] at hc;cases hc;exact ht rfl)⟩
theorem room_none_ {F:Fence} (hd:F.depth=none) (k:Nat):F.room k:=fun d h=>by rw [hd] at h;cases h
theorem RoundIn.anyDepth_ {F:Fence} (hd:F.depth=none) {m m':Nat} {P:Program} {l:Nat} {f:FuncId} {tmps:Array Value} {assign body:Code} {w:World} {R:Ending→World→Prop}
  (h:RoundIn F m P l f tmps assign body w R):RoundIn F m' P l f tmps assign body w R:=⟨h.1,fun c cs _=>h.2 c cs (room_none_ hd _)⟩
theorem YieldAt.anyDepth_ {F:Fence} (hd:F.depth=none) {m:Nat} (m':Nat) {P:Program} {l:Nat} {args:Array Value} {W:World} {R:Ending→World→Prop} (h:YieldAt F m P l args W R):YieldAt F m' P l args W R:=by
 obtain ⟨fn,tmps,assign,body,hy,hR⟩:=h;exact ⟨fn,tmps,assign,body,hy,RoundIn.anyDepth_ hd hR⟩
/-- All solutions below some choices,in order. -/
def solve_search.f:Nat→List (S49)→List Int→Int→Int→Option (List Int)
 | 0,_,_,_,_=>none
 | k+1,l0,l1,a2_0,a2_1=>(solve_choices_failing.f k a2_0 a2_1 l0).bind fun t60=>(if t60≥0 then (some []) else (if (l1.length:Int)=0 then (some [a2_1]) else (if 0≤(wrap64 ((l1.length:Int) - 1)) then (if (wrap64 ((l1.length:Int) - 1))<(l1.length:Int) then (if (wrap64 ((l1.length:Int) - 1))≤(l1.length:Int) then ((solve_choices_with.f a2_0 a2_1 (rd l1 (wrap64 ((l1.length:Int) - 1))) 0).bind fun bt73=>((solve_search.f k l0 (l1.take ((wrap64 ((l1.length:Int) - 1)):Int).toNat) bt73.1 bt73.2).bind fun t61=>((solve_choices_with.f a2_0 a2_1 (rd l1 (wrap64 ((l1.length:Int) - 1))) 1).bind fun bt74=>((solve_search.f k l0 (l1.take ((wrap64 ((l1.length:Int) - 1)):Int).toNat) bt74.1 bt74.2).bind fun t82=>(some (t61++t82)))))) else (none)) else (none)) else (none))))
theorem solve_search.mono_l:∀ k,(∀ y0 y1 y2 y3,LeO (solve_search.f k y0 y1 y2 y3) (solve_search.f (k+1) y0 y1 y2 y3))
 | 0=>fun _ _ _ _ r h=>by simp [solve_search.f] at h
 | k+1=>by
  have ih0:=solve_search.mono_l k
  ·intro y0 y1 y2 y3
   unfold solve_search.f
   repeat' first
   | (with_reducible exact ih0 _ _ _ _)
   | (with_reducible exact solve_choices_failing.mono _ _ _ _)
   | (with_reducible exact LeO.refl _)
   | (with_reducible exact LeO.none _)
   | (with_reducible refine LeO.ite ?_ ?_)
   | (with_reducible refine LeO.bind ?_ (fun _=>?_))
   | exact LeO.none _
   | refine LeO.ite ?_ ?_
   | refine LeO.bind ?_ (fun _=>?_)
theorem solve_search.mono:∀ a0 a1 a2 a3 k,LeO (solve_search.f k a0 a1 a2 a3) (solve_search.f (k+1) a0 a1 a2 a3):=by
 intro a0 a1 a2 a3 k;have ih0:=solve_search.mono_l k;exact ih0 a0 a1 a2 a3
section
attribute [local go_sem] Oper.semAt_some
set_option maxHeartbeats 8000000 in
set_option maxRecDepth 100000 in
theorem solve_search.in_ (lp N n0 n1 n2:Nat) (J Jx:List Int→World→Prop) (w0:World) (A0:Option Addr) (c0:Nat) (l0:List (S49)) (hc0:l0.length≤c0)
  (hL_:∀ W',KpS n0 n1 n2 w0 W'→Kd.C k49 W' A0 l0.length l0) (hJb_:∀ s W W',J s W→Below W.heap.size W W'→J s W')
  (hY_:∀ m pre x W,J pre W→pre.length<N→YieldAt Fence.wide m Tryz.prog lp #[.int .i64 x] W fun e W'=>(e=.returned (.bool true)∧J (pre++[x]) W'∧KpS n0 n1 n2 W W')∨(e=.returned (.bool false)∧Jx (pre++[x]) W')) (k:Nat) :
  ∀ (A1:Option Addr) (c1:Nat) (l1:List Int) (a2_0:Int) (a2_1:Int) (r pre:List Int) (w:World) (hK_:KpS n0 n1 n2 w0 w) (hJ_:J pre w) (hV_:∀ W',KpS n0 n1 n2 w0 W'→Kd.C (Kd.int .i64) W' A1 l1.length l1) (hc1:l1.length≤c1) (hN:pre.length+r.length≤N) (h:solve_search.f k l0 l1 a2_0 a2_1=some r),
  Calls Tryz.prog 98 #[.slice A0 l0.length c0,.slice A1 l1.length c1,.agg #[.int .i64 a2_0,.int .i64 a2_1],.func (.yield lp) #[] #[]] w fun e w'=>(e=.returned (.bool true)∧J (pre++r) w'∧KpS n0 n1 n2 w w')∨(e=.returned (.bool false)∧∃ q,q <+: r∧Jx (pre++q) w'):=by
 have hL:=zA hL_;have hJb:=zA hJb_;have hY:=zA hY_;clear hL_ hJb_ hY_
 induction k using Nat.strongRecOn with
 | _ k ih=>
 intro A1 c1 l1 a2_0 a2_1 r pre w hK_ hJ_ hV_ hc1 hN h
 cases k with
 | zero=>exact absurd h (by simp [solve_search.f])
 | succ k=>
 simp only [solve_search.f] at h;have HK:=zA hK_;have HJ:=zA hJ_;have HV:=zA hV_;clear hK_ hJ_ hV_;have HC1:=zA hc1;have HN:=zA hN;clear hc1 hN;have HB:=zA (Below.refl w.heap.size w);have H:=h;clear h;replace H:=Option.bind_eq_some_iff.mp H;obtain ⟨t60,A50,H⟩:=H;have A5:=zA A50;clear A50;have HC6:=zA H;clear H;have IH:=zA ih;clear ih
 go_enter Tryz.func98,Tryz.ntmps98
 go_upto_if 14 with (first|((with_reducible refine gd 6 rfl ?_);refine zx #[.int .i64 a2_0,.int .i64 a2_1] 80 ?_;intro gb39 hg w7 BK39 hb GW39 HB1;have GE39:=GW39;clear HB hb hg;have HB:=HB1;clear HB1;have hcz8_0:=zc0 BK39;have hcz8_1:=zc1 BK39;have hfz8_0:=zf BK39)|(go_at_call 99;(with_reducible refine (solve_choices_failing.calls k a2_0 a2_1 _ _ l0 t60 _ ?side1 ?side2 A5.out).mono ?_);(case side1=>exact hL.out _ (KpS.trans HK.out (KpS.below zB)));(case side2=>exact hc0);rintro e w9 ⟨rfl,hb⟩;replace BK39:=zw BK39 hb;replace HB:=zu hb;clear hb))
 repeat (go_quiet (first|((with_reducible refine gd 6 rfl ?_);refine zx #[.int .i64 a2_0,.int .i64 a2_1] 80 ?_;intro gb39 hg w7 BK39 hb GW39 HB1;have GE39:=GW39;clear HB hb hg;have HB:=HB1;clear HB1;have hcz8_0:=zc0 BK39;have hcz8_1:=zc1 BK39;have hfz8_0:=zf BK39)|(go_at_call 99;(with_reducible refine (solve_choices_failing.calls k a2_0 a2_1 _ _ l0 t60 _ ?side1 ?side2 A5.out).mono ?_);(case side1=>exact hL.out _ (KpS.trans HK.out (KpS.below zB)));(case side2=>exact hc0);rintro e w9 ⟨rfl,hb⟩;replace BK39:=zw BK39 hb;replace HB:=zu hb;clear hb));go_upto_if 14 with (first|((with_reducible refine gd 6 rfl ?_);refine zx #[.int .i64 a2_0,.int .i64 a2_1] 80 ?_;intro gb39 hg w7 BK39 hb GW39 HB1;have GE39:=GW39;clear HB hb hg;have HB:=HB1;clear HB1;have hcz8_0:=zc0 BK39;have hcz8_1:=zc1 BK39;have hfz8_0:=zf BK39)|(go_at_call 99;(with_reducible refine (solve_choices_failing.calls k a2_0 a2_1 _ _ l0 t60 _ ?side1 ?side2 A5.out).mono ?_);(case side1=>exact hL.out _ (KpS.trans HK.out (KpS.below zB)));(case side2=>exact hc0);rintro e w9 ⟨rfl,hb⟩;replace BK39:=zw BK39 hb;replace HB:=zu hb;clear hb)))
 (try simp only [Act.put,zi,zs,zt]);have H:=HC6.out;clear HC6
 rcases if0 H with ⟨c10,H⟩|⟨c10,H⟩
 ·have c10b0:decide (0≤t60)=true:=decide_eq_true c10;clear c10
  (first|rw [c10b0]|(simp only [i64_w,i32_w];rw [c10b0])|skip)
  obtain rfl:=Option.some.inj H
  go_wp2
  repeat (go_quiet (fail);try go_wp2)
  go_ret
  have hbel:Below w.heap.size w _:=zB;exact .inl ⟨rfl,by (try rw [List.append_nil]);exact hJb.out _ _ _ HJ.out hbel,KpS.below hbel⟩
 ·have c10b0:decide (0≤t60)=false:=decide_eq_false c10;clear c10
  (first|rw [c10b0]|(simp only [i64_w,i32_w];rw [c10b0])|skip)
  rcases ife H with ⟨c11b0,c11b1,H⟩|⟨c11,c11b0,c11b1,H⟩
  ·obtain rfl:=Option.some.inj H;have hcz12_0:=zc0 BK39;have hcz12_1:=zc1 BK39;have hfz12_0:=zf BK39;obtain ⟨fn,tmps,assign,body,hy,hR⟩:=hY.out (5 - 1) pre a2_1 w9 (hJb.out _ _ _ HJ.out HB.out) (by have:=HN.out;simp at this;omega);refine (wpIn_wide (n:=5)).1 ?_
   gi_wp2
   refine (wpIn_wide (n:=5)).1 ?_
   gi_wp2
   refine hR.mono ?_;rintro e W3 (⟨rfl,hJ3,hK3⟩|⟨rfl,hJx3⟩)
   ·gi_wp2
    go_ret
    exact .inl ⟨rfl,hJ3,(KpS.below HB.out).trans hK3⟩
   ·gi_wp2
    go_ret
    exact .inr ⟨rfl,[a2_1],List.prefix_refl _,hJx3⟩
  ·have c11b2:¬ (l1=[]):=fun h_=>c11 (by rw [h_];rfl)
   obtain ⟨ji13,hji13⟩:∃ j_:Int,(wrap64 ((l1.length:Int) - 1))=j_:=⟨_,rfl⟩
   simp only [hji13] at H
   obtain ⟨lt_,hlt_⟩:∃ t_:List Int,t_=l1.take ((ji13):Int).toNat:=⟨_,rfl⟩
   simp only [← hlt_] at H;have hji13w:(IntKind.i64.wrap ((l1.length:Int) - 1))=ji13:=(i64_w _).trans hji13;obtain ⟨c14b0,H⟩:=ifd1 H;obtain ⟨c15b0,H⟩:=ifd1 H;have c16b0:=eq_true (of_decide_eq_true zh:0≤(ji13));obtain ⟨c17,H⟩:=if1 H;have c17b0:=eq_true c17;have c17b1:decide ((ji13)≤(l1.length:Int))=true:=decide_eq_true c17;clear c17;replace H:=Option.bind_eq_some_iff.mp H;obtain ⟨⟨t73,t86⟩,A87,H⟩:=H;have A18:=zA A87;clear A87;replace H:=Option.bind_eq_some_iff.mp H;obtain ⟨t61,A88,H⟩:=H;have A19:=zA A88;clear A88;replace H:=Option.bind_eq_some_iff.mp H;obtain ⟨⟨t74,t89⟩,A90,H⟩:=H;have A21:=zA A90;clear A90;replace H:=Option.bind_eq_some_iff.mp H;obtain ⟨t82,A91,H⟩:=H;have A22:=zA A91;clear A91;obtain rfl:=Option.some.inj H;clear H;obtain ⟨p56,q56,ad56,e56,hx56_0⟩:=zp (Kd.at_int (HV.out w9 (KpS.trans HK.out (KpS.below HB.out))) (ji13))
   cases e56
   replace p56:=eq_true p56;replace q56:=eq_true q56;obtain ⟨i85,hi85,_,hsz23,_⟩:=info_parts info3;obtain ⟨hcut23,hA23,hC23⟩:=print_take_of (P:=Tryz.prog) (Value.int .i64) 0 23 3 .i64 Tryz.underlying23 hi85 hsz23 (some ad56) c1 l1 (ji13) (of_decide_eq_true zh) (of_decide_eq_true zh) HC1.out;rw [← hlt_] at hcut23 hA23 hC23;have HLT:=zA hlt_;clear hlt_;have HV75:=zA (fun W' hk_=>Kd.C_of_reads (h1:=fun _=>rfl) (hA23 _ (Kd.reads_of_C (HV.out W' hk_))));have HC75:=zA hC23;clear hA23 hC23 hi85 hsz23;have hcz24_0:=zc0 BK39;have hcz24_1:=zc1 BK39;have hfz24_0:=zf BK39
   have hn1:pre.length+t61.length≤N:=by have:=HN.out;simp at this;omega
   have hn2:(pre++t61).length+t82.length≤N:=by have:=HN.out;simp at this ⊢;omega
   have HN1:=zA hn1;have HN2:=zA hn2;clear hn1 hn2
   go_wp2
   go_quiet (fail)
   go_wp2_with (first
    | (go_at_call 92;(with_reducible refine (solve_choices_with.calls a2_0 a2_1 (rd l1 (ji13)) 0 t73 t86 _ A18.out).mono ?_);clear A18;rintro e w25 ⟨rfl,hb⟩;replace BK39:=zw BK39 hb;replace HB:=zu hb;clear hb)
    | (go_at_call 98;(with_reducible refine (IH.out k (by omega) _ _ _ t73 t86 t61 pre _ ?side1 ?side2 ?side3 ?side4 ?side5 A19.out).mono ?_);(case side1=>exact KpS.trans HK.out (KpS.below zB));(case side2=>exact hJb.out _ _ _ HJ.out zB);(case side3=>exact HV75.out);(case side4=>exact HC75.out);(case side5=>exact HN1.out);clear A19;rintro e w26 (⟨rfl,hJ1,hK1⟩|⟨rfl,q1,hq1,hx1⟩);(have HK1:=zA (KpS.trans (KpS.below zB) hK1);have HJ1:=zA hJ1;have HB1:=zA (Below.refl w26.heap.size w26);replace BK39:=zA (KpS.box hK1 (g:=gb39) (cs:=#[.int .i64 a2_0,.int .i64 a2_1]) (zk BK39));clear hJ1 hK1 HB;have hcz27_0:=zc0 BK39;have hcz27_1:=zc1 BK39;have hfz27_0:=zf BK39))
    | (go_at_call 92;(with_reducible refine (solve_choices_with.calls a2_0 a2_1 (rd l1 (ji13)) 1 t74 t89 _ A21.out).mono ?_);clear A21;rintro e w28 ⟨rfl,hb⟩;replace BK39:=zw BK39 hb;replace HB1:=zA (below_step (zv0 HB1) hb);clear hb)
    | (go_at_call 98;(with_reducible refine (IH.out k (by omega) _ _ _ t74 t89 t82 (pre++t61) _ ?side1 ?side2 ?side3 ?side4 ?side5 A22.out).mono ?_);(case side1=>exact KpS.trans HK.out (KpS.trans HK1.out (KpS.below (zv0 HB1))));(case side2=>exact hJb.out _ _ _ HJ1.out (zv0 HB1));(case side3=>exact HV75.out);(case side4=>exact HC75.out);(case side5=>exact HN2.out);clear A22;rintro e w29 (⟨rfl,hJ2,hK2⟩|⟨rfl,q2,hq2,hx2⟩)))
   ·go_ret
    exact .inl ⟨rfl,by rw [← List.append_assoc];exact hJ2,KpS.trans HK1.out (KpS.trans (KpS.below (zv0 HB1)) hK2)⟩
   ·go_ret
    obtain ⟨z2,hz2⟩:=hq2;exact .inr ⟨rfl,t61++q2,⟨z2,by rw [List.append_assoc,hz2]⟩,by rw [← List.append_assoc];exact hx2⟩
   ·go_ret
    exact .inr ⟨rfl,q1,hq1.trans (List.prefix_append _ _),hx1⟩
set_option maxHeartbeats 8000000 in
set_option maxRecDepth 100000 in
theorem solve_solutions_1.in_ (lp N n0 n1 n2:Nat) (J Jx:List Int→World→Prop) (w0:World) (A0:Option Addr) (c0:Nat) (l0:List (S49)) (hc0:l0.length≤c0) (A1:Option Addr) (c1:Nat) (l1:List Int) (hc1:l1.length≤c1) (a2_0 a2_1:Int) (g0 g1 g2:Nat)
  (hL_:∀ W',KpS n0 n1 n2 w0 W'→Kd.C k49 W' A0 l0.length l0) (hV_:∀ W',KpS n0 n1 n2 w0 W'→Kd.C (Kd.int .i64) W' A1 l1.length l1) (hJb_:∀ s W W',J s W→Below W.heap.size W W'→J s W')
  (hY_:∀ m pre x W,J pre W→pre.length<N→YieldAt Fence.wide m Tryz.prog lp #[.int .i64 x] W fun e W'=>(e=.returned (.bool true)∧J (pre++[x]) W'∧KpS n0 n1 n2 W W')∨(e=.returned (.bool false)∧Jx (pre++[x]) W')) (k:Nat)
  (r:List Int) (w:World) (hK:KpS n0 n1 n2 w0 w) (hJ:J [] w) (hN:r.length≤N) (h:solve_search.f k l0 l1 a2_0 a2_1=some r)
  (hb0_:w.heap[g0]?=some (.cells #[.slice A0 l0.length c0] 22 (0,0))) (hb1_:w.heap[g1]?=some (.cells #[.slice A1 l1.length c1] 23 (0,0))) (hb2_:w.heap[g2]?=some (.cells #[.int .i64 a2_0,.int .i64 a2_1] 80 (0,0))) :
  Calls Tryz.prog 97 #[.func (.yield lp) #[] #[],.pointer (some ⟨g0,0,none⟩),.pointer (some ⟨g1,0,none⟩),.pointer (some ⟨g2,0,none⟩)] w fun e w'=>(∃ v,e=.returned v)∧((∃ xs,xs=r∧J xs w')∨(∃ pre,pre <+: r∧Jx pre w')):=by
 have hp:=solve_search.in_ lp N n0 n1 n2 J Jx w0 A0 c0 l0 hc0 hL_ hJb_ hY_ k A1 c1 l1 a2_0 a2_1 r [] w hK hJ hV_ hc1 (by simpa using hN) h;have HP:=zA hp;clear hp hL_ hV_ hJb_ hY_;have hcz0:w.cell? ⟨g0,0,none⟩=some (.slice A0 l0.length c0):=(blk_cell hb0_ 0).trans rfl;have hcz1:w.cell? ⟨g1,0,none⟩=some (.slice A1 l1.length c1):=(blk_cell hb1_ 0).trans rfl;have hcz2:w.cell? ⟨g2,0,none⟩=some (.int .i64 a2_0):=(blk_cell hb2_ 0).trans rfl;have hcz3:w.cell? ⟨g2,1,none⟩=some (.int .i64 a2_1):=(blk_cell hb2_ 1).trans rfl;clear hb0_ hb1_ hb2_
 go_enter Tryz.func97,Tryz.ntmps97
 go_wp2_with (go_at_call 98;(with_reducible refine HP.out.mono ?_);clear HP;rintro e W1 (⟨rfl,hJ1,_⟩|⟨rfl,q,hq,hx⟩))
 ·go_end0
  exact ⟨⟨_,rfl⟩,.inl ⟨_,rfl,by simpa using hJ1⟩⟩
 ·go_end0
  exact ⟨⟨_,rfl⟩,.inr ⟨q,hq,by simpa using hx⟩⟩
set_option maxHeartbeats 1000000 in
theorem solve_solutions.in_ (A0:Option Addr) (n0 c0:Nat) (A1:Option Addr) (n1 c1:Nat) (a2_0 a2_1:Int) (w:World) :
  Calls Tryz.prog 79 #[.slice A0 n0 c0,.slice A1 n1 c1,.agg #[.int .i64 a2_0,.int .i64 a2_1]] w fun e w'=>∃ g0 g1 g2:Nat,e=.returned (.func (.func 97) #[] #[.pointer (some ⟨g0,0,none⟩),.pointer (some ⟨g1,0,none⟩),.pointer (some ⟨g2,0,none⟩)])∧w.heap.size≤g0∧w.heap.size≤g1∧
   w'.heap[g0]?=some (.cells #[.slice A0 n0 c0] 22 (0,0))∧w'.heap[g1]?=some (.cells #[.slice A1 n1 c1] 23 (0,0))∧w'.heap[g2]?=some (.cells #[.int .i64 a2_0,.int .i64 a2_1] 80 (0,0))∧Below w.heap.size w w':=by
 go_enter Tryz.func79,Tryz.ntmps79
 go_wp2
 go_ret
 refine ⟨_,_,_,rfl,?_,?_,?_,?_,?_,?_⟩
 ·exact Nat.le_refl _
 ·omega
 ·exact blk_alloc (blk_alloc (heap_alloc_new _ _) _) _
 ·exact blk_alloc (by have h_:=heap_alloc_new (w.alloc (.cells #[.slice A0 n0 c0] 22)) (.cells #[.slice A1 n1 c1] 23);rw [World.size_alloc] at h_;exact h_) _
 ·have h_:=heap_alloc_new ((w.alloc (.cells #[.slice A0 n0 c0] 22)).alloc (.cells #[.slice A1 n1 c1] 23)) (.cells #[.int .i64 a2_0,.int .i64 a2_1] 80);rw [World.size_alloc,World.size_alloc] at h_;exact h_
 ·exact below_alloc (below_alloc (below_alloc (Below.refl _ _) _) _) _
/-- What the function value that 'solutions' hands back gives: all solutions in order. -/
theorem solve_solutions_stops (n0 n1 n2:Nat) (A0:Option Addr) (c0:Nat) (l0:List (S49)) (hc0:l0.length≤c0) (A1:Option Addr) (c1:Nat) (l1:List Int) (hc1:l1.length≤c1) (a2_0 a2_1:Int) (g0 g1 g2 k:Nat) (r:List Int) (w:World) (h2:w.heap.size≤n2)
  (hL_:∀ W',KpS n0 n1 n2 w W'→Kd.C k49 W' A0 l0.length l0) (hV_:∀ W',KpS n0 n1 n2 w W'→Kd.C (Kd.int .i64) W' A1 l1.length l1) (h:solve_search.f k l0 l1 a2_0 a2_1=some r)
  (hb0_:w.heap[g0]?=some (.cells #[.slice A0 l0.length c0] 22 (0,0))) (hb1_:w.heap[g1]?=some (.cells #[.slice A1 l1.length c1] 23 (0,0))) (hb2_:w.heap[g2]?=some (.cells #[.int .i64 a2_0,.int .i64 a2_1] 80 (0,0))) :
  SeqStopsK Fence.wide 4 Tryz.prog 97 #[.pointer (some ⟨g0,0,none⟩),.pointer (some ⟨g1,0,none⟩),.pointer (some ⟨g2,0,none⟩)] (fun x:Int=>#[Value.int .i64 x]) (KpS n0 n1 n2) (fun ys=>ys=r) (fun pre=>pre <+: r) r.length w:=fun l J Jx W hW hJ hJx hY hj0=>by
 have hJb:∀ s W W',J s W→Below W.heap.size W W'→J s W':=fun s A B hs hb=>by
  exact hJ s A B none hs ⟨hb.os,hb.tape,hb.output,hb.size,fun k hk _=>hb.block k hk⟩ (fun r e=>by cases e)
 refine callsIn_wide.2 ?_;exact solve_solutions_1.in_ l r.length n0 n1 n2 J Jx w A0 c0 l0 hc0 A1 c1 l1 hc1 a2_0 a2_1 g0 g1 g2 hL_ hV_ hJb (fun m pre x W1 hj hl=>YieldAt.anyDepth_ rfl m (hY pre x W1 hj hl)) k r W (KpS.below hW) hj0 (Nat.le_refl _) h
  ((hW.block _ (blk_lt hb0_)).trans hb0_) ((hW.block _ (blk_lt hb1_)).trans hb1_) ((hW.block _ (blk_lt hb2_)).trans hb2_)
end
/-- What First says of all solutions. -/
def solve_First.of:List Int→Int×Int
 | []=>(0,10)
 | x :: _=>(x,0)
def solve_First.f (k:Nat) (l0:List (S49)):Option (Int×Int):=(solve_valid.f k l0).bind fun t55=>(if t55=0 then ((solve_occurring.f k l0).bind fun t57=>((solve_search.f k l0 t57 0 0).bind fun s=>some (solve_First.of s))) else (some (0,t55)))
section
attribute [local go_sem] Oper.semAt_some
set_option maxHeartbeats 8000000 in
set_option maxRecDepth 100000 in
theorem solve_First.calls (k:Nat) (A0:Option Addr) (c0:Nat) (l0:List (S49)) (r1:Int) (r2:Int) (w:World) (hr0:Kd.C k49 w A0 l0.length l0) (hc0:l0.length≤c0) (h:solve_First.f k l0=some (r1,r2)) :
  Calls Tryz.prog 47 #[.slice A0 l0.length c0] w fun e w'=>e=.returned (.tuple #[.int .i64 r1,.int .i64 r2])∧Below w.heap.size w w':=by
 have HR0:=zA hr0;have HC0:=zA hc0;clear hr0 hc0;have HB:=zA (Below.refl w.heap.size w);have H:((solve_valid.f k l0).bind fun t55=>(if t55=0 then ((solve_occurring.f k l0).bind fun t57=>((solve_search.f k l0 t57 0 0).bind fun s=>some (solve_First.of s))) else (some (0,t55))))=some (r1,r2):=h;clear h;obtain ⟨t55,A2,H⟩:=zo H;have HC3:=zA H;clear H;refine (callsIn_wide (n:=5)).1 ?_;refine callsIn_of_wp_marks Tryz.func47 rfl trivial ?_ rfl;simp only [Tryz.ntmps47,List.size_toArray,List.length_cons,List.length_nil,Nat.reduceAdd,Nat.reduceSub,Array.replicate_succ,Array.replicate_zero,List.push_toArray,List.append_toArray,List.nil_append,List.cons_append];refine wpIn_wide.2 ?_
 go_upto_if 9 with (first|((with_reducible refine gd 2 rfl ?_);refine zx #[.int .i64 0] 3 ?_;intro gb40 hg w4 BK40 hb GW40 HB1;have GE40:=GW40;clear HB hb hg;have HB:=HB1;clear HB1)|((with_reducible refine gd 3 rfl ?_);refine zx #[.int .i64 0] 37 ?_;intro gb41 hg w5 BK41 hb GW41 HB1;have GE41:=GW41;have NB40_41:=zL hg BK40;have NB41_40:=zLs NB40_41;replace BK40:=zw BK40 hb;clear HB hb hg;have HB:=HB1;clear HB1)|((with_reducible refine gate_callee (f:=66) rfl ?_);refine zgo 7 Tryz.func66 #[.slice A0 l0.length c0] ?_;(with_reducible refine (solve_valid.calls k _ _ l0 t55 _ (zD HR0 HB) HC0.out A2.out).mono ?_);rintro e w6 ⟨rfl,hb⟩;refine ⟨_,rfl,?_⟩;replace BK40:=zw BK40 hb;replace BK41:=zw BK41 hb;replace HB:=zu hb;clear hb))
 (try simp only [Act.put,zi,zs,zt]);have H:=HC3.out;clear HC3
 rcases ife H with ⟨c7b0,c7b1,H⟩|⟨c7,c7b0,c7b1,H⟩
 ·(first|rw [c7b0]|(simp only [i64_w,i32_w];rw [c7b0])|skip)
  (try rw [c7b1]);obtain ⟨t57,A8,H⟩:=zo H;replace H:=Option.bind_eq_some_iff.mp H;obtain ⟨s_,AS0,H⟩:=H;have AS:=zA AS0;clear AS0;have HFS:=zA (Option.some.inj H);clear H;have HLT40:=zA (blk_lt BK40.out);have HLT41:=zA (blk_lt BK41.out)
  go_wp2_with (first
   | ((with_reducible refine gate_callee (f:=69) rfl ?_);refine zgo 13 Tryz.func69 #[.slice A0 l0.length c0] ?_;(with_reducible refine (solve_occurring.calls k _ _ l0 t57 _ (zD HR0 HB) HC0.out A8.out).mono ?_);rintro e w9 ⟨v46,rfl,ho0,hb⟩;refine ⟨_,rfl,?_⟩;have hn6:=zA hb.size;have HO63:=zA ho0;have HS6:=zA (below_size HB.out);replace BK40:=zw BK40 hb;replace BK41:=zw BK41 hb;replace HB:=zu hb;clear hb ho0;obtain ⟨A46,c46,e46⟩:=Kd.R_slice HO63.out;subst e46))
  refine (solve_solutions.in_ A0 l0.length c0 A46 t57.length c46 0 0 _).mono ?_;rintro e w10 ⟨g0,g1,g2,rfl,hg0,hg1,hs0,hs1,hs2,hb⟩;have n0_:=zA (Kd.R_below HO63.out hb);have n1_:=zA (zb BK40 hb);have n2_:=zA (zb BK41 hb);have n3_:=zA (below_step zB hb);have hn9:=zA hb.size;have hc46:=zA (Kd.R_reads' HO63.out).2.1;clear BK40 BK41 HB HO63 hb hg0 hg1;have HO63:=n0_;have BK40:=n1_;have BK41:=n2_;have HB:=n3_;clear n0_ n1_ n2_ n3_
  go_wp2
  have h67:w6.heap.size≤w10.heap.size:=Nat.le_trans hn6.out hn9.out
  have hL:∀ W',KpS w.heap.size w6.heap.size w10.heap.size w10 W'→Kd.C k49 W' A0 l0.length l0:=fun W' hk=>Kd.C_kept_came k49_heap HR0.out HB.out (fun k hk=>hk.1) W' hk.kept
  have hV:∀ W',KpS w.heap.size w6.heap.size w10.heap.size w10 W'→Kd.C (Kd.int .i64) W' A46 t57.length t57:=fun W' hk=>Kd.C_kept_own (Kd.R_bound HO63.out) (fun k hk hs=>by have h_:=HS6.out;obtain ⟨_,h1,h2,_⟩:=hk;omega) W' hk.kept
  refine (wpIn_wide (n:=5)).1 ?_;refine wpIn_rangeFunc_ownF (n:=5) rfl (by omega) (gf:=97) (lb:=#[.pointer (some ⟨g0,0,none⟩),.pointer (some ⟨g1,0,none⟩),.pointer (some ⟨g2,0,none⟩)]) rfl trivial (enters_of Tryz.func97 zK rfl)
   (solve_solutions_stops w.heap.size w6.heap.size w10.heap.size A0 c0 l0 HC0.out A46 c46 t57 hc46.out 0 0 g0 g1 g2 k s_ w10 (Nat.le_refl _) hL hV AS.out hs0 hs1 hs2)
   KpS.trans (fun W l o o' hl h ho _=>KpS.put (Nat.le_trans HS6.out h67) W l o o' hl h ho) (Below.refl _ _) (fun _=>rfl)
   (fun (pre:List Int) (W:World)=>pre=[]∧W.heap[gb40]?=some (.cells #[.int .i64 0] 3 (0,0))∧W.heap[gb41]?=some (.cells #[.int .i64 0] 37 (0,0))∧Below w.heap.size w W)
   (fun c pre W=>c=Code.ret∧∃ x:Int,pre=[x]∧W.heap[gb40]?=some (.cells #[.int .i64 x] 3 (0,0))∧W.heap[gb41]?=some (.cells #[.int .i64 0] 37 (0,0))∧Below w.heap.size w W)
   (fun s A B row hs hg hr=>⟨hs.1,blk_grown hs.2.1 hg (ne_row_ hr hs.2.1),blk_grown hs.2.2.1 hg (ne_row_ hr hs.2.2.1),hs.2.2.2.grown hg hs.2.2.2.size (fun k e=>Nat.le_trans HB.out.size (hr k e).1)⟩)
   (fun c s A B row hs hg hr=>by
    obtain ⟨e1,x,e2,h1,h2,h3⟩:=hs
    exact ⟨e1,x,e2,blk_grown h1 hg (ne_row_ hr h1),blk_grown h2 hg (ne_row_ hr h2),h3.grown hg h3.size (fun k e=>Nat.le_trans HB.out.size (hr k e).1)⟩)
   ⟨rfl,BK40.out,BK41.out,HB.out⟩
   (fun x=>{tmps:=#[.slice A0 l0.length c0,undef,.pointer (some ⟨gb40,0,none⟩),.pointer (some ⟨gb41,0,none⟩),.int .i64 t55,.int .i64 x,.slice A0 l0.length c0,.int .i64 t55,.int .i64 t55,.bool false,undef,.slice A0 l0.length c0,.slice A0 l0.length c0,.slice A46 t57.length c46,.agg #[.int .i64 0,.int .i64 0],.func (.func 97) #[] #[.pointer (some ⟨g0,0,none⟩),.pointer (some ⟨g1,0,none⟩),.pointer (some ⟨g2,0,none⟩)],.int .i64 x,undef],defers:=[]}) ?assign ?body ?done ?stop
  case assign=>
   intro l x W K hK
   gi_wp2
   exact hK
  case body=>
   rintro l pre x W ⟨rfl,hb1,hb2,hbl⟩ _;have hcz0:W.cell? ⟨gb40,0,none⟩=some (.int .i64 0):=(blk_cell hb1 0).trans rfl;have hfz0:=blk_frozen hb1 0;have hcz1:W.cell? ⟨gb41,0,none⟩=some (.int .i64 0):=(blk_cell hb2 0).trans rfl;have hfz1:=blk_frozen hb2 0;have hnb:=NB40_41.out;have hnc:=NB41_40.out
   gi_wp2
   have h2_:=two_set hb1 hb2 NB40_41.out (.int .i64 x) (.int .i64 0);exact ⟨two_keep _ _ _ _ _,rfl,x,rfl,h2_.1,h2_.2,below_set (below_set hbl GE40.out) GE41.out⟩
  case done=>
   rintro D ys W hD hys ⟨rfl,hb1,hb2,hbl⟩ hK;have hcz0:W.cell? ⟨gb40,0,none⟩=some (.int .i64 0):=(blk_cell hb1 0).trans rfl;have hfz0:=blk_frozen hb1 0;have hcz1:W.cell? ⟨gb41,0,none⟩=some (.int .i64 0):=(blk_cell hb2 0).trans rfl;have hfz1:=blk_frozen hb2 0;have hnb:=NB40_41.out;have hnc:=NB41_40.out;have HKD:=zA hK;clear hK
   go_wp2
   have h2_:=two_set hb1 hb2 NB40_41.out (.int .i64 0) (.int .i64 10);have hKD:=(two_keep W gb40 gb41 (.int .i64 0) (.int .i64 10)).same D _ HKD.out rfl;have hbl2:Below w.heap.size w ((W.setCell ⟨gb40,0,none⟩ (.int .i64 0)).setCell ⟨gb41,0,none⟩ (.int .i64 10)):=below_set (below_set hbl GE40.out) GE41.out;have e_:=HFS.out;rw [← hys] at e_;simp only [solve_First.of,Prod.mk.injEq] at e_;obtain ⟨rfl,rfl⟩:=e_;refine ⟨by simp,.inl ⟨_,_,rfl,run_takeDeferred hKD,?_⟩⟩;exact ⟨_,results_two rfl _ _ gb40 gb41 _ _ rfl rfl (run_loadVar_one _ _ 3 3 _ (0,0) _ (blk_deferred h2_.1 hKD _) Tryz.underlying3 rfl) (run_loadVar_one _ _ 37 37 _ (0,0) _ (blk_deferred h2_.2 hKD _) Tryz.underlying37 rfl),rfl,hbl2.grown (grownBy_putObj' _ D _) hbl2.size (fun k e=>by cases e;exact Nat.le_trans HB.out.size hD)⟩
  case stop=>
   rintro D c pre W hD hSp ⟨rfl,x,rfl,hb1,hb2,hbl⟩ hK;refine wpIn_wide.2 ?_
   go_wp2
   obtain ⟨z_,rfl⟩:=hSp;have e_:=HFS.out;simp only [solve_First.of,List.cons_append,List.nil_append,Prod.mk.injEq] at e_;obtain ⟨rfl,rfl⟩:=e_;refine ⟨by simp,.inl ⟨_,_,rfl,run_takeDeferred hK,?_⟩⟩;exact ⟨_,results_two rfl _ _ gb40 gb41 _ _ rfl rfl (run_loadVar_one _ _ 3 3 _ (0,0) _ (blk_deferred hb1 hK _) Tryz.underlying3 rfl) (run_loadVar_one _ _ 37 37 _ (0,0) _ (blk_deferred hb2 hK _) Tryz.underlying37 rfl),rfl,hbl.grown (grownBy_putObj' _ D _) hbl.size (fun k e=>by cases e;exact Nat.le_trans HB.out.size hD)⟩
 ·(first|rw [c7b0]|(simp only [i64_w,i32_w];rw [c7b0])|skip)
  (try rw [c7b1]);simp only [Option.some.injEq,Prod.mk.injEq] at H;obtain ⟨rfl,rfl⟩:=H;have hnb13:=NB40_41.out;have hnc13:=NB41_40.out;have hcz14_0:=zc0 BK40;have hfz14_0:=zf BK40 0;have hcz15_0:=zc0 BK41;have hfz15_0:=zf BK41 0
  go_wp2
  have h2_:=two_set BK40.out BK41.out NB40_41.out (.int .i64 0) (.int .i64 t55);exact ⟨_,results_two rfl _ _ gb40 gb41 _ _ rfl rfl (run_loadVar_one _ _ 3 3 _ (0,0) _ h2_.1 Tryz.underlying3 rfl) (run_loadVar_one _ _ 37 37 _ (0,0) _ h2_.2 Tryz.underlying37 rfl),rfl,below_set (below_set HB.out GE40.out) GE41.out⟩
end
def conflict_solvable.f (k:Nat) (l0:List (S49)) (l1:List Int):Option (Bool):=(conflict_system.f k l0 l1).bind fun t62=>((solve_First.f k t62).bind fun bt76=>(some (bt76.2 == 0)))
set_option maxHeartbeats 8000000 in
set_option maxRecDepth 100000 in
theorem conflict_solvable.calls (k:Nat) (A0:Option Addr) (c0:Nat) (l0:List (S49)) (A1:Option Addr) (c1:Nat) (l1:List Int) (r:Bool) (w:World) (hr0:Kd.C k49 w A0 l0.length l0) (hc0:l0.length≤c0) (hr1:Kd.C (Kd.int .i64) w A1 l1.length l1) (hc1:l1.length≤c1) (h:conflict_solvable.f k l0 l1=some r) :
  Calls Tryz.prog 54 #[.slice A0 l0.length c0,.slice A1 l1.length c1] w fun e w'=>e=.returned (.bool r)∧Below w.heap.size w w':=by
 have HR0:=zA hr0;have HC0:=zA hc0;clear hr0 hc0;have HR1:=zA hr1;have HC1:=zA hc1;clear hr1 hc1;have HB:=zA (Below.refl w.heap.size w);have H:((conflict_system.f k l0 l1).bind fun t62=>((solve_First.f k t62).bind fun bt76=>(some (bt76.2 == 0))))=some r:=h;clear h;obtain ⟨t62,A3,H⟩:=zo H;obtain ⟨t76,t92,A4,H⟩:=zO H
 dsimp only at H
 obtain rfl:=Option.some.inj H
 go_enter Tryz.func54,Tryz.ntmps54
 go_wp2_with (first|((with_reducible refine gate_callee (f:=32) rfl ?_);refine zgo 10 Tryz.func32 #[.slice A0 l0.length c0,.slice A1 l1.length c1] ?_;(with_reducible refine (conflict_system.calls k (fun k_=>k_<w.heap.size) _ _ l0 _ _ l1 t62 _ ?side1 ?side2 HC1.out A3.out).mono ?_);(case side1=>exact Kd.V_mk HC0.out (Kd.F_below (Kd.C_F k49_heap HR0.out) zB));(case side2=>repeat (first|exact HR1.out|(with_reducible refine Kd.C_alloc ?_ _)|(with_reducible refine Kd.C_drewN ?_ _)|(with_reducible refine Kd.C_drew ?_)));rintro e w5 ⟨v95,rfl,ho0,hb⟩;refine ⟨_,rfl,?_⟩;have HO77:=zA (Kd.N_lower (Kd.N_mono (ok':=fun k_=>True) ho0 (fun k_ hk_=>trivial)) (below_size zB));replace HB:=zu hb;clear hb;(try clear ho0);obtain ⟨Ao6,co6,eo6⟩:=Kd.N_slice HO77.out;subst eo6)|((with_reducible refine gate_callee (f:=47) rfl ?_);refine zgo 11 Tryz.func47 #[.slice Ao6 t62.length co6] ?_;(with_reducible refine (solve_First.calls k _ _ t62 t76 t92 _ ?side1 ?side2 A4.out).mono ?_);(case side1=>exact zC (Kd.N_reads' HO77.out).2.2);(case side2=>exact (Kd.N_reads' HO77.out).2.1);rintro e w7 ⟨rfl,hb⟩;refine ⟨_,rfl,?_⟩;replace HO77:=zA (Kd.N_below (zN HO77) hb);replace HB:=zu hb;clear hb))
 go_ret
 exact ⟨ze,zv0 HB⟩
def conflict_least_1_v1.f (k:Nat) (l0:List Int) (l1_0:List Int):Option (Bool):=(conflict_part.f k l0 l1_0).bind fun t34=>(some t34)
set_option maxHeartbeats 8000000 in
set_option maxRecDepth 100000 in
theorem conflict_least_1_v1.calls (k:Nat) (A0:Option Addr) (c0:Nat) (l0:List Int) (gp1_0:Nat) (A1_0:Option Addr) (c1_0:Nat) (l1_0:List Int) (r:Bool) (w:World) (hr0:Kd.C (Kd.int .i64) w A0 l0.length l0) (hc0:l0.length≤c0) (hr1_0:Kd.C (Kd.int .i64) w A1_0 l1_0.length l1_0) (hc1_0:l1_0.length≤c1_0) (hb_gp1_0:w.heap[gp1_0]?=some (.cells #[.slice A1_0 l1_0.length c1_0] 23 (0,0))) (h:conflict_least_1_v1.f k l0 l1_0=some r) :
  Calls Tryz.prog 83 #[.slice A0 l0.length c0,.pointer (some ⟨gp1_0,0,none⟩)] w fun e w'=>e=.returned (.bool r)∧Below w.heap.size w w':=by
 have HR0:=zA hr0;have HC0:=zA hc0;clear hr0 hc0;have HR1_0:=zA hr1_0;have HC1_0:=zA hc1_0;clear hr1_0 hc1_0;have BK38:=zA hb_gp1_0;clear hb_gp1_0;have HB:=zA (Below.refl w.heap.size w);have H:((conflict_part.f k l0 l1_0).bind fun t34=>(some t34))=some r:=h;clear h;obtain ⟨t34,A3,H⟩:=zo H;obtain rfl:=Option.some.inj H;have hcz4_0:w.cell? ⟨gp1_0,0,none⟩=some (.slice A1_0 l1_0.length c1_0):=zc0 BK38;have hfz4_0:=zf BK38 0
 go_enter Tryz.func83,Tryz.ntmps83
 go_wp2_with (first|((with_reducible refine gate_callee (f:=84) rfl ?_);refine zgo 6 Tryz.func84 #[.slice A0 l0.length c0,.slice A1_0 l1_0.length c1_0] ?_;(with_reducible refine (conflict_part.calls k _ _ l0 _ _ l1_0 t34 _ ?side1 HC0.out ?side3 HC1_0.out A3.out).mono ?_);(case side1=>repeat (first|exact HR0.out|(with_reducible refine Kd.C_alloc ?_ _)|(with_reducible refine Kd.C_drewN ?_ _)|(with_reducible refine Kd.C_drew ?_)));(case side3=>repeat (first|exact HR1_0.out|(with_reducible refine Kd.C_alloc ?_ _)|(with_reducible refine Kd.C_drewN ?_ _)|(with_reducible refine Kd.C_drew ?_)));rintro e w5 ⟨rfl,hb⟩;refine ⟨_,rfl,?_⟩;replace BK38:=zw BK38 hb;replace HB:=zu hb;clear hb))
 go_ret
 exact ⟨ze,zv0 HB⟩
def slices_IndexFunc_int_int_conflict_least_1.l0:Nat→List (List Int)→Int→Int→List Int→Option (Int)
 | 0,_,_,_,_=>none
 | k+1,x0,x7,x8,x78=>if x8<x7 then (if 0≤x8 then (if x8<(x0.length:Int) then ((conflict_least_1_v1.f k (rd_L1 x0 x8) x78).bind fun t31=>(if t31=true then (some x8) else (slices_IndexFunc_int_int_conflict_least_1.l0 k x0 x7 (wrap64 (x8+1)) x78))) else (none)) else (none)) else (some (-1))
def slices_IndexFunc_int_int_conflict_least_1.f (k:Nat) (l0:List (List Int)) (l1_0:List Int):Option (Int):=slices_IndexFunc_int_int_conflict_least_1.l0 k l0 (l0.length:Int) 0 l1_0
set_option maxHeartbeats 8000000 in
set_option maxRecDepth 100000 in
theorem slices_IndexFunc_int_int_conflict_least_1.calls (k:Nat) (A0:Option Addr) (c0:Nat) (l0:List (List Int)) (gp1_0:Nat) (A1_0:Option Addr) (c1_0:Nat) (l1_0:List Int) (r:Int) (w:World) (hr0:Kd.C (Kd.slice 3 (Kd.int .i64)) w A0 l0.length l0) (hc0:l0.length≤c0) (hr1_0:Kd.C (Kd.int .i64) w A1_0 l1_0.length l1_0) (hc1_0:l1_0.length≤c1_0) (hb_gp1_0:w.heap[gp1_0]?=some (.cells #[.slice A1_0 l1_0.length c1_0] 23 (0,0))) (h:slices_IndexFunc_int_int_conflict_least_1.f k l0 l1_0=some r) :
  Calls Tryz.prog 45 #[.slice A0 l0.length c0,.func (.func 83) #[] #[.pointer (some ⟨gp1_0,0,none⟩)]] w fun e w'=>e=.returned (.int .i64 r)∧Below w.heap.size w w':=by
 have HR0:=zA hr0;have HC0:=zA hc0;clear hr0 hc0;have HR1_0:=zA hr1_0;have HC1_0:=zA hc1_0;clear hr1_0 hc1_0;have BK48:=zA hb_gp1_0;clear hb_gp1_0;have HB:=zA (Below.refl w.heap.size w);have H:(slices_IndexFunc_int_int_conflict_least_1.l0 k l0 (l0.length:Int) 0 l1_0)=some r:=h;clear h;have H':=zA H;clear H
 go_enter Tryz.func45,Tryz.ntmps45
 go_wp2
 go_loopg [8] k (fun kq v8 w'=>∃ (x8_1:Int),v8=.int .i64 x8_1∧Aside0 (slices_IndexFunc_int_int_conflict_least_1.l0 kq l0 (l0.length:Int) x8_1 l1_0=some r)∧Aside0 (kq≤k)∧Aside0 (w'.heap[gp1_0]?=some (.cells #[(.slice A1_0 l1_0.length c1_0)] 23 (0,0)))∧Aside0 (Below w.heap.size w w'))
 case atStart=>exact ⟨(0),zT,H',⟨Nat.le_refl _⟩,⟨by refine zj ?_;exact BK48.out⟩,⟨zv0 HB⟩⟩
 case round=>
  clear H';obtain ⟨x8_1,rfl,HA,HK1,BK48,HB⟩:=hrel
  cases gk with
  | zero=>exact absurd HA.out (by simp [slices_IndexFunc_int_int_conflict_least_1.l0])
  | succ k1=>
   have H:=HA.out;clear HA;simp only [slices_IndexFunc_int_int_conflict_least_1.l0] at H
   rcases ifd H with ⟨c3b0,H⟩|⟨c3b0,H⟩
   ·obtain ⟨c4b0,H⟩:=ifd1 H;obtain ⟨c5b0,H⟩:=ifd1 H;obtain ⟨t31,A6,H⟩:=zo H;have HC7:=zA H;clear H;obtain ⟨p43,q43,ad43,A43_0,c43_0,e43,hx43_0,hl43_0,hi43_0⟩:=zp (at_L1 HR0.out x8_1)
    cases e43
    replace hx43_0:=zd HB hx43_0;have HR43_0:=zA hi43_0;have HC43_0:=zA hl43_0;clear hi43_0 hl43_0;replace p43:=eq_true p43;replace q43:=eq_true q43
    go_upto_if 16 with (first|(go_at_call 83;(with_reducible refine (conflict_least_1_v1.calls k1 _ _ (rd_L1 l0 x8_1) gp1_0 A1_0 c1_0 l1_0 t31 _ (zD HR43_0 HB) HC43_0.out (zD HR1_0 HB) HC1_0.out ?side5 A6.out).mono ?_);(case side5=>refine zj ?_;exact BK48.out);rintro e w8 ⟨rfl,hb⟩;replace BK48:=zw BK48 hb;replace HB:=zu hb;clear hb))
    (try simp only [Act.put,zi,zs,zt]);have H:=HC7.out;clear HC7
    by_cases c9:t31=true
    ·subst c9
     have H1:(some x8_1)=some r:=by rw [if_pos rfl] at H;exact H
     clear H;have H:=H1;clear H1;obtain rfl:=Option.some.inj H
     go_wp2
     go_ret
     exact ⟨ze,zv0 HB⟩
    ·replace c9:=Bool.eq_false_iff.mpr c9;subst c9
     have H1:(slices_IndexFunc_int_int_conflict_least_1.l0 k1 l0 (l0.length:Int) (wrap64 (x8_1+1)) l1_0)=some r:=by rw [if_neg (show ¬ (false=true) by decide)] at H;exact H
     clear H;have H:=H1;clear H1;have H':=zA H;clear H
     go_wp2
     go_roundg k1
     case measure=>have:=HK1.out;omega
     case rel=>exact ⟨(wrap64 (x8_1+1)),zT,H',⟨by have:=HK1.out;omega⟩,⟨by refine zj ?_;exact BK48.out⟩,⟨zv0 HB⟩⟩
   ·obtain rfl:=Option.some.inj H
    go_wp2
    go_ret
    exact ⟨ze,zv0 HB⟩
def slices_ContainsFunc_int_int_conflict_least_1.f (k:Nat) (l0:List (List Int)) (l1_0:List Int):Option (Bool):=(slices_IndexFunc_int_int_conflict_least_1.f k l0 l1_0).bind fun t58=>(some (decide (t58≥0)))
set_option maxHeartbeats 8000000 in
set_option maxRecDepth 100000 in
theorem slices_ContainsFunc_int_int_conflict_least_1.calls (k:Nat) (A0:Option Addr) (c0:Nat) (l0:List (List Int)) (gp1_0:Nat) (A1_0:Option Addr) (c1_0:Nat) (l1_0:List Int) (r:Bool) (w:World) (hr0:Kd.C (Kd.slice 3 (Kd.int .i64)) w A0 l0.length l0) (hc0:l0.length≤c0) (hr1_0:Kd.C (Kd.int .i64) w A1_0 l1_0.length l1_0) (hc1_0:l1_0.length≤c1_0) (hb_gp1_0:w.heap[gp1_0]?=some (.cells #[.slice A1_0 l1_0.length c1_0] 23 (0,0))) (h:slices_ContainsFunc_int_int_conflict_least_1.f k l0 l1_0=some r) :
  Calls Tryz.prog 15 #[.slice A0 l0.length c0,.func (.func 83) #[] #[.pointer (some ⟨gp1_0,0,none⟩)]] w fun e w'=>e=.returned (.bool r)∧Below w.heap.size w w':=by
 have HR0:=zA hr0;have HC0:=zA hc0;clear hr0 hc0;have HR1_0:=zA hr1_0;have HC1_0:=zA hc1_0;clear hr1_0 hc1_0;have BK33:=zA hb_gp1_0;clear hb_gp1_0;have HB:=zA (Below.refl w.heap.size w);have H:((slices_IndexFunc_int_int_conflict_least_1.f k l0 l1_0).bind fun t58=>(some (decide (t58≥0))))=some r:=h;clear h;obtain ⟨t58,A3,H⟩:=zo H;obtain rfl:=Option.some.inj H
 go_enter Tryz.func15,Tryz.ntmps15
 go_wp2_with (first|((with_reducible refine gate_callee (f:=45) rfl ?_);refine zgo 7 Tryz.func45 #[.slice A0 l0.length c0,.func (.func 83) #[] #[.pointer (some ⟨gp1_0,0,none⟩)]] ?_;(with_reducible refine (slices_IndexFunc_int_int_conflict_least_1.calls k _ _ l0 gp1_0 A1_0 c1_0 l1_0 t58 _ ?side1 HC0.out ?side3 HC1_0.out ?side5 A3.out).mono ?_);(case side1=>repeat (first|exact HR0.out|(with_reducible refine Kd.C_alloc ?_ _)|(with_reducible refine Kd.C_drewN ?_ _)|(with_reducible refine Kd.C_drew ?_)));(case side3=>repeat (first|exact HR1_0.out|(with_reducible refine Kd.C_alloc ?_ _)|(with_reducible refine Kd.C_drewN ?_ _)|(with_reducible refine Kd.C_drew ?_)));(case side5=>refine zj ?_;exact BK33.out);rintro e w4 ⟨rfl,hb⟩;refine ⟨_,rfl,?_⟩;replace BK33:=zw BK33 hb;replace HB:=zu hb;clear hb))
 go_ret
 exact ⟨ze,zv0 HB⟩
def conflict_Cores_1_v1.f (k:Nat) (l0:List Int) (l1_0:List (S49)):Option (Bool):=(conflict_solvable.f k l1_0 l0).bind fun t34=>(some (!t34))
set_option maxHeartbeats 8000000 in
set_option maxRecDepth 100000 in
theorem conflict_Cores_1_v1.calls (k:Nat) (A0:Option Addr) (c0:Nat) (l0:List Int) (gp1_0:Nat) (A1_0:Option Addr) (c1_0:Nat) (l1_0:List (S49)) (r:Bool) (w:World) (hr0:Kd.C (Kd.int .i64) w A0 l0.length l0) (hc0:l0.length≤c0) (hr1_0:Kd.C k49 w A1_0 l1_0.length l1_0) (hc1_0:l1_0.length≤c1_0) (hb_gp1_0:w.heap[gp1_0]?=some (.cells #[.slice A1_0 l1_0.length c1_0] 22 (0,0))) (h:conflict_Cores_1_v1.f k l0 l1_0=some r) :
  Calls Tryz.prog 53 #[.slice A0 l0.length c0,.pointer (some ⟨gp1_0,0,none⟩)] w fun e w'=>e=.returned (.bool r)∧Below w.heap.size w w':=by
 have HR0:=zA hr0;have HC0:=zA hc0;clear hr0 hc0;have HR1_0:=zA hr1_0;have HC1_0:=zA hc1_0;clear hr1_0 hc1_0;have BK38:=zA hb_gp1_0;clear hb_gp1_0;have HB:=zA (Below.refl w.heap.size w);have H:((conflict_solvable.f k l1_0 l0).bind fun t34=>(some (!t34)))=some r:=h;clear h;obtain ⟨t34,A3,H⟩:=zo H;obtain rfl:=Option.some.inj H;have hcz4_0:w.cell? ⟨gp1_0,0,none⟩=some (.slice A1_0 l1_0.length c1_0):=zc0 BK38;have hfz4_0:=zf BK38 0
 go_enter Tryz.func53,Tryz.ntmps53
 go_wp2_with (first|((with_reducible refine gate_callee (f:=54) rfl ?_);refine zgo 6 Tryz.func54 #[.slice A1_0 l1_0.length c1_0,.slice A0 l0.length c0] ?_;(with_reducible refine (conflict_solvable.calls k _ _ l1_0 _ _ l0 t34 _ ?side1 HC1_0.out ?side3 HC0.out A3.out).mono ?_);(case side1=>repeat (first|exact HR1_0.out|(with_reducible refine Kd.C_alloc ?_ _)|(with_reducible refine Kd.C_drewN ?_ _)|(with_reducible refine Kd.C_drew ?_)));(case side3=>repeat (first|exact HR0.out|(with_reducible refine Kd.C_alloc ?_ _)|(with_reducible refine Kd.C_drewN ?_ _)|(with_reducible refine Kd.C_drew ?_)));rintro e w5 ⟨rfl,hb⟩;refine ⟨_,rfl,?_⟩;replace BK38:=zw BK38 hb;replace HB:=zu hb;clear hb))
 go_ret
 exact ⟨ze,zv0 HB⟩
mutual
def conflict_least_conflict_Cores_1.l0:Nat→Int→List (List Int)→Int→Int→List (S49)→Option ((List (List Int)))
 | 0,_,_,_,_,_=>none
 | k+1,x0,x5,x10,x11,x44=>if x11<x10 then ((conflict_sets.f k x0 x11).bind fun t34=>(conflict_least_conflict_Cores_1.l1 k x0 x5 x10 x11 t34 (t34.length:Int) 0 x44)) else (some x5)
def conflict_least_conflict_Cores_1.l1:Nat→Int→List (List Int)→Int→Int→List (List Int)→Int→Int→List (S49)→Option ((List (List Int)))
 | 0,_,_,_,_,_,_,_,_=>none
 | k+1,x0,x5,x10,x11,x16,x17,x18,x44=>if x18<x17 then (if 0≤x18 then (if x18<(x16.length:Int) then ((slices_ContainsFunc_int_int_conflict_least_1.f k x5 (rd_L1 x16 x18)).bind fun t58=>(if t58=true then (conflict_least_conflict_Cores_1.l1 k x0 x5 x10 x11 x16 x17 (wrap64 (x18+1)) x44) else ((conflict_Cores_1_v1.f k (rd_L1 x16 x18) x44).bind fun t65=>(if t65=true then (if x5.length<5864062014805 then (conflict_least_conflict_Cores_1.l1 k x0 (x5++[rd_L1 x16 x18]) x10 x11 x16 x17 (wrap64 (x18+1)) x44) else (none)) else (conflict_least_conflict_Cores_1.l1 k x0 x5 x10 x11 x16 x17 (wrap64 (x18+1)) x44))))) else (none)) else (none)) else (conflict_least_conflict_Cores_1.l0 k x0 x5 x10 (wrap64 (x11+1)) x44)
end
def conflict_least_conflict_Cores_1.f (k:Nat) (a0:Int) (l1_0:List (S49)):Option ((List (List Int))):=conflict_least_conflict_Cores_1.l0 k a0 ([]:List (List Int)) (wrap64 (a0+1)) 0 l1_0
set_option maxHeartbeats 8000000 in
set_option maxRecDepth 100000 in
theorem conflict_least_conflict_Cores_1.calls (k:Nat) (a0:Int) (gp1_0:Nat) (A1_0:Option Addr) (c1_0:Nat) (l1_0:List (S49)) (r:List (List Int)) (w:World) (hr1_0:Kd.C k49 w A1_0 l1_0.length l1_0) (hc1_0:l1_0.length≤c1_0) (hb_gp1_0:w.heap[gp1_0]?=some (.cells #[.slice A1_0 l1_0.length c1_0] 22 (0,0))) (h:conflict_least_conflict_Cores_1.f k a0 l1_0=some r) :
  Calls Tryz.prog 52 #[.int .i64 a0,.func (.func 53) #[] #[.pointer (some ⟨gp1_0,0,none⟩)]] w fun e w'=>∃ v0_:Value,e=.returned (v0_)∧Kd.N (Kd.slice 3 (Kd.int .i64)) 23 w' w.heap.size (fun k_=>(w.heap.size≤k_)) v0_ r∧Below w.heap.size w w':=by
 have HR1_0:=zA hr1_0;have HC1_0:=zA hc1_0;clear hr1_0 hc1_0;have BK38:=zA hb_gp1_0;clear hb_gp1_0;have HB:=zA (Below.refl w.heap.size w);have H:(conflict_least_conflict_Cores_1.l0 k a0 ([]:List (List Int)) (wrap64 (a0+1)) 0 l1_0)=some r:=h;clear h;have H':=zA H;clear H
 go_enter Tryz.func52,Tryz.ntmps52
 go_wp2
 go_loopg [5,11] k (fun kq v5 v11 w'=>∃ (x5_1:List (List Int)) (x11_1:Int),v11=.int .i64 x11_1∧Aside0 (conflict_least_conflict_Cores_1.l0 kq a0 x5_1 (wrap64 (a0+1)) x11_1 l1_0=some r)∧Aside0 (kq≤k)∧Aside0 (Kd.N (Kd.slice 3 (Kd.int .i64)) 23 w' w.heap.size (fun k_=>(w.heap.size≤k_)∧k_≠gp1_0) v5 x5_1)∧Aside0 (w'.heap[gp1_0]?=some (.cells #[(.slice A1_0 l1_0.length c1_0)] 22 (0,0)))∧Aside0 (Below w.heap.size w w'))
 case atStart=>exact ⟨(([]:List (List Int))),(0),zT,H',⟨Nat.le_refl _⟩,⟨by first|exact Kd.S_nil _ _ _ _ _|exact Kd.N_nil _ _ _ _ _|exact Kd.V_nil _ _ _ _ _|exact Kd.Q_nil _ _ _ _ _|exact Kd.R_nil _ _ _ _ _⟩,⟨by refine zj ?_;exact BK38.out⟩,⟨zv0 HB⟩⟩
 case round=>
  clear H';obtain ⟨x5_1,x11_1,rfl,HA,HK1,HO_5,BK38,HB⟩:=hrel
  cases gk with
  | zero=>exact absurd HA.out (by simp [conflict_least_conflict_Cores_1.l0])
  | succ k1=>
   have H:=HA.out;clear HA;simp only [conflict_least_conflict_Cores_1.l0] at H
   rcases ifd H with ⟨c3b0,H⟩|⟨c3b0,H⟩
   ·obtain ⟨t34,A4,H⟩:=zo H;have H':=zA H;clear H
    go_wp2_with (first|((with_reducible refine gate_callee (f:=37) rfl ?_);refine zgo 16 Tryz.func37 #[.int .i64 a0,.int .i64 x11_1] ?_;(with_reducible refine (conflict_sets.calls k1 a0 x11_1 t34 _ A4.out).mono ?_);rintro e w5 ⟨v48,rfl,ho0,hb⟩;refine ⟨_,rfl,?_⟩;have HO43:=zA (Kd.N_lower (Kd.N_mono (ok':=fun k_=>(w.heap.size≤k_)∧some k_≠(u5:Value).ownBlock∧k_≠gp1_0) (Kd.S_N (Kd.S_bound ho0)) (fun k_ hk_=>⟨(Nat.le_trans (below_size zB) hk_.2.1),(Kd.fresh' (Kd.N_lt (zN HO_5)) k_ hk_.2.1),(Kd.freshB (g:=gp1_0) (o:=.cells #[.slice A1_0 l1_0.length c1_0] 22 (0,0)) (zk BK38) k_ hk_.2.1)⟩)) (below_size zB));replace HO_5:=zA (Kd.N_elder' (zN HO_5) (Kd.N_base (Kd.S_N ho0)) hb);replace BK38:=zw BK38 hb;replace HB:=zu hb;clear hb;(try clear ho0);obtain ⟨Ao6,co6,eo6⟩:=Kd.N_slice HO43.out;subst eo6))
    go_loopg [5,18] k1 (fun kq v5 v18 w'=>∃ (x5_2:List (List Int)) (x18_2:Int),v18=.int .i64 x18_2∧Aside0 (conflict_least_conflict_Cores_1.l1 kq a0 x5_2 (wrap64 (a0+1)) x11_1 t34 (t34.length:Int) x18_2 l1_0=some r)∧Aside0 (kq≤k1)∧Aside0 (Kd.N (Kd.slice 3 (Kd.int .i64)) 23 w' w.heap.size (fun k_=>(w.heap.size≤k_)∧some k_≠((.slice Ao6 t34.length co6):Value).ownBlock∧k_≠gp1_0) v5 x5_2)∧Aside0 (Kd.N (Kd.slice 3 (Kd.int .i64)) 23 w' w.heap.size (fun k_=>(w.heap.size≤k_)∧some k_≠(v5:Value).ownBlock∧k_≠gp1_0) (.slice Ao6 t34.length co6) t34)∧Aside0 (w'.heap[gp1_0]?=some (.cells #[(.slice A1_0 l1_0.length c1_0)] 22 (0,0)))∧Aside0 (Below w.heap.size w w'))
    case atStart=>exact ⟨(x5_1),(0),zT,H',⟨Nat.le_refl _⟩,⟨by (with_reducible repeat (first|apply Kd.N_alloc|apply Kd.N_drewN|apply Kd.N_drew));exact Kd.N_mono HO_5.out (fun _ hk=>⟨hk.1.1,⟨hk.2,hk.1.2⟩⟩)⟩,⟨by (with_reducible repeat (first|apply Kd.N_alloc|apply Kd.N_drewN|apply Kd.N_drew));exact HO43.out⟩,⟨by refine zj ?_;exact BK38.out⟩,⟨zv0 HB⟩⟩
    case round=>
     clear H'
     try clear c3
     try clear c3b0
     obtain ⟨x5_2,x18_2,rfl,HA,HK2,HO_5,HO_16,BK38,HB⟩:=hrel
     cases gk with
     | zero=>exact absurd HA.out (by simp [conflict_least_conflict_Cores_1.l1])
     | succ k2=>
      have H:=HA.out;clear HA;simp only [conflict_least_conflict_Cores_1.l1] at H
      rcases ifd H with ⟨c7b0,H⟩|⟨c7b0,H⟩
      ·obtain ⟨c8b0,H⟩:=ifd1 H;obtain ⟨c9b0,H⟩:=ifd1 H;have HC10:=zA H;clear H;obtain ⟨p31,q31,ad31,A31_0,c31_0,e31,hx31_0,hl31_0,hi31_0⟩:=zp (at_L1 (Kd.N_reads' HO_16.out).2.2 x18_2)
       cases e31
       obtain ⟨ce31,hce31,hMe31,hcc31⟩:=Kd.N_get HO_16.out [] x18_2 p31 (by first|exact q31|exact of_decide_eq_true zh|(have e_:=(Kd.N_reads' HO_16.out).1;omega));obtain ⟨ua31_0,uc31_0,rfl,ul31_0,ge31_0⟩:=Kd.FK_slice_open hMe31;have hv31_0:=hcc31 0 _ rfl;rw [Nat.add_zero,show ((Kd.slice 3 (Kd.int .i64))).sz=1 from rfl,Nat.mul_one] at hv31_0;replace hv31_0:=Option.some.inj (hv31_0.symm.trans hx31_0)
       injection hv31_0 with hva_ hvn_ hvc_
       rw [hva_] at ge31_0;rw [hvc_] at ul31_0;have HL31_0:=zA (show Kd.V (Kd.int .i64) 3 _ w.heap.size _ _ (rd_L1 t34 x18_2) from Kd.V_mk ul31_0 ge31_0);clear hva_ hvn_ hvc_ ge31_0 ul31_0;clear hcc31 hce31;have HR31_0:=zA hi31_0;have HC31_0:=zA hl31_0;clear hi31_0 hl31_0;replace p31:=eq_true p31;replace q31:=eq_true q31
       go_upto_region 8 with (first|((with_reducible refine gd 8 rfl ?_);refine zx #[.slice none 0 0] 23 ?_;intro gb33 hg w11 BK33 hb GW33 HB1;have GE33:=GW33;have NB38_33:=zL hg BK38;have NB33_38:=zLs NB38_33;replace HO_5:=zA (Kd.N_below (Kd.N_elderB (zN HO_5) gb33 (Nat.le_of_eq hg.symm)) hb);replace HO_16:=zA (Kd.N_below (Kd.N_elderB (zN HO_16) gb33 (Nat.le_of_eq hg.symm)) hb);replace BK38:=zw BK38 hb;replace HR31_0:=zA (Kd.C_below ((Kd.V_reads' HL31_0.out).2.2) hb);replace HL31_0:=zA (Kd.V_below (Kd.V_elderB (by (with_reducible repeat (first|apply Kd.V_alloc|apply Kd.V_drewN|apply Kd.V_drew));exact HL31_0.out) gb33 (Nat.le_of_eq hg.symm)) hb);clear HB hb hg;have HB:=HB1;clear HB1;have hnb12:=NB33_38.out;have hnc12:=NB38_33.out;have hcz13_0:=zc0 BK33;have hfz13_0:=zf BK33 0))
       (try simp only [Act.put,zi,zs,zt]);have H:=HC10.out;clear HC10;obtain ⟨t58,A14,H⟩:=zo H
       by_cases c15:t58=true
       ·subst c15
        have H1:(conflict_least_conflict_Cores_1.l1 k2 a0 x5_2 (wrap64 (a0+1)) x11_1 t34 (t34.length:Int) (wrap64 (x18_2+1)) l1_0)=some r:=by rw [if_pos rfl] at H;exact H
        clear H;have H:=H1;clear H1;have H':=zA H;clear H;obtain ⟨Ao16,co16,eo16⟩:=Kd.N_slice HO_5.out;subst eo16
        go_wp2_with (first|((with_reducible refine gate_callee (f:=15) rfl ?_);refine zgo 24 Tryz.func15 #[.slice Ao16 x5_2.length co16,.func (.func 83) #[] #[.pointer (some ⟨gb33,0,none⟩)]] ?_;(with_reducible refine (slices_ContainsFunc_int_int_conflict_least_1.calls k2 _ _ x5_2 gb33 A31_0 c31_0 (rd_L1 t34 x18_2) true _ ?side1 ?side2 ?side3 HC31_0.out ?side5 A14.out).mono ?_);(case side1=>refine (Kd.N_reads' (e:=23) (base:=w.heap.size) (ok:=fun k_=>(((w.heap.size≤k_)∧(some k_≠(.slice (some ad31) t34.length co6:Value).ownBlock∧k_≠gp1_0))∧k_≠gb33)) (n:=x5_2.length) (c:=co16) ?_).2.2;exact (by (with_reducible repeat (first|apply Kd.N_alloc|apply Kd.N_drewN|apply Kd.N_drew));exact (Kd.N_mono (Kd.N_far (p:=⟨gb33,0,none⟩) (Kd.N_mono HO_5.out (fun k_ hk=>(⟨hk,hk.2⟩:_∧k_≠gb33))) (fun _ hk=>hk.2) (.slice A31_0 (rd_L1 t34 x18_2).length c31_0)) (fun _ h_=>h_.1))));(case side2=>exact (Kd.N_reads' HO_5.out).2.1);(case side3=>repeat (first|exact ((Kd.V_reads' (by (with_reducible repeat (first|apply Kd.V_alloc|apply Kd.V_drewN|apply Kd.V_drew));exact (Kd.V_mono (Kd.V_far (p:=⟨gb33,0,none⟩) (Kd.V_mono HL31_0.out (fun k_ hk=>(⟨hk,hk.2⟩:_∧k_≠gb33))) (fun _ hk=>hk.2) (.slice A31_0 (rd_L1 t34 x18_2).length c31_0)) (fun _ h_=>h_.1)))).2.2)|(with_reducible refine Kd.C_alloc ?_ _)|(with_reducible refine Kd.C_drewN ?_ _)|(with_reducible refine Kd.C_drew ?_)));(case side5=>refine zj ?_;refine blk_put (cs:=#[.slice none 0 0]) ?_ 0 _ rfl;refine zj ?_;exact BK33.out);rintro e w17 ⟨rfl,hb⟩;refine ⟨_,rfl,?_⟩;replace HO_5:=zA (Kd.N_below (by (with_reducible repeat (first|apply Kd.N_alloc|apply Kd.N_drewN|apply Kd.N_drew));exact (Kd.N_mono (Kd.N_far (p:=⟨gb33,0,none⟩) (Kd.N_mono HO_5.out (fun k_ hk=>(⟨hk,hk.2⟩:_∧k_≠gb33))) (fun _ hk=>hk.2) (.slice A31_0 (rd_L1 t34 x18_2).length c31_0)) (fun _ h_=>h_.1))) hb);replace HO_16:=zA (Kd.N_below (by (with_reducible repeat (first|apply Kd.N_alloc|apply Kd.N_drewN|apply Kd.N_drew));exact (Kd.N_mono (Kd.N_far (p:=⟨gb33,0,none⟩) (Kd.N_mono HO_16.out (fun k_ hk=>(⟨hk,hk.2⟩:_∧k_≠gb33))) (fun _ hk=>hk.2) (.slice A31_0 (rd_L1 t34 x18_2).length c31_0)) (fun _ h_=>h_.1))) hb);replace BK38:=zA (blk_below (g:=gp1_0) (o:=.cells #[.slice A1_0 l1_0.length c1_0] 22 (0,0)) (by refine zj ?_;refine blk_far ?_ NB38_33.out _;refine zj ?_;exact BK38.out) hb);replace HR31_0:=zA (Kd.C_below ((Kd.V_reads' (by (with_reducible repeat (first|apply Kd.V_alloc|apply Kd.V_drewN|apply Kd.V_drew));exact (Kd.V_mono (Kd.V_far (p:=⟨gb33,0,none⟩) (Kd.V_mono HL31_0.out (fun k_ hk=>(⟨hk,hk.2⟩:_∧k_≠gb33))) (fun _ hk=>hk.2) (.slice A31_0 (rd_L1 t34 x18_2).length c31_0)) (fun _ h_=>h_.1)))).2.2) hb);replace HL31_0:=zA (Kd.V_below (by (with_reducible repeat (first|apply Kd.V_alloc|apply Kd.V_drewN|apply Kd.V_drew));exact (Kd.V_mono (Kd.V_far (p:=⟨gb33,0,none⟩) (Kd.V_mono HL31_0.out (fun k_ hk=>(⟨hk,hk.2⟩:_∧k_≠gb33))) (fun _ hk=>hk.2) (.slice A31_0 (rd_L1 t34 x18_2).length c31_0)) (fun _ h_=>h_.1))) hb);replace BK33:=zA (blk_below (g:=gb33) (o:=.cells #[.slice A31_0 (rd_L1 t34 x18_2).length c31_0] 23 (0,0)) (by refine zj ?_;refine blk_put (cs:=#[.slice none 0 0]) ?_ 0 _ rfl;refine zj ?_;exact BK33.out) hb);replace HB:=zu hb;clear hb))
        go_roundg k2
        case measure=>have:=HK1.out;have:=HK2.out;omega
        case rel=>exact ⟨(x5_2),(wrap64 (x18_2+1)),zT,H',⟨by have:=HK1.out;have:=HK2.out;omega⟩,⟨by (with_reducible repeat (first|apply Kd.N_alloc|apply Kd.N_drewN|apply Kd.N_drew));exact Kd.N_mono HO_5.out (fun _ hk=>⟨hk.1.1,⟨hk.1.2.1,hk.1.2.2⟩⟩)⟩,⟨by (with_reducible repeat (first|apply Kd.N_alloc|apply Kd.N_drewN|apply Kd.N_drew));exact Kd.N_mono HO_16.out (fun _ hk=>⟨hk.1.1,⟨hk.1.2.1,hk.1.2.2⟩⟩)⟩,⟨by refine zj ?_;exact BK38.out⟩,⟨zv1 HB GE33⟩⟩
       ·replace c15:=Bool.eq_false_iff.mpr c15;subst c15
        have H1:((conflict_Cores_1_v1.f k2 (rd_L1 t34 x18_2) l1_0).bind fun t65=>(if t65=true then (if x5_2.length<5864062014805 then (conflict_least_conflict_Cores_1.l1 k2 a0 (x5_2++[rd_L1 t34 x18_2]) (wrap64 (a0+1)) x11_1 t34 (t34.length:Int) (wrap64 (x18_2+1)) l1_0) else (none)) else (conflict_least_conflict_Cores_1.l1 k2 a0 x5_2 (wrap64 (a0+1)) x11_1 t34 (t34.length:Int) (wrap64 (x18_2+1)) l1_0)))=some r:=by rw [if_neg (show ¬ (false=true) by decide)] at H;exact H
        clear H;have H:=H1;clear H1;obtain ⟨t65,A18,H⟩:=zo H;have HC19:=zA H;clear H;obtain ⟨Ao20,co20,eo20⟩:=Kd.N_slice HO_5.out;subst eo20
        go_upto_if 30 with (first|((with_reducible refine gate_callee (f:=15) rfl ?_);refine zgo 24 Tryz.func15 #[.slice Ao20 x5_2.length co20,.func (.func 83) #[] #[.pointer (some ⟨gb33,0,none⟩)]] ?_;(with_reducible refine (slices_ContainsFunc_int_int_conflict_least_1.calls k2 _ _ x5_2 gb33 A31_0 c31_0 (rd_L1 t34 x18_2) false _ ?side1 ?side2 ?side3 HC31_0.out ?side5 A14.out).mono ?_);(case side1=>refine (Kd.N_reads' (e:=23) (base:=w.heap.size) (ok:=fun k_=>(((w.heap.size≤k_)∧(some k_≠(.slice (some ad31) t34.length co6:Value).ownBlock∧k_≠gp1_0))∧k_≠gb33)) (n:=x5_2.length) (c:=co20) ?_).2.2;exact (by (with_reducible repeat (first|apply Kd.N_alloc|apply Kd.N_drewN|apply Kd.N_drew));exact (Kd.N_mono (Kd.N_far (p:=⟨gb33,0,none⟩) (Kd.N_mono HO_5.out (fun k_ hk=>(⟨hk,hk.2⟩:_∧k_≠gb33))) (fun _ hk=>hk.2) (.slice A31_0 (rd_L1 t34 x18_2).length c31_0)) (fun _ h_=>h_.1))));(case side2=>exact (Kd.N_reads' HO_5.out).2.1);(case side3=>repeat (first|exact ((Kd.V_reads' (by (with_reducible repeat (first|apply Kd.V_alloc|apply Kd.V_drewN|apply Kd.V_drew));exact (Kd.V_mono (Kd.V_far (p:=⟨gb33,0,none⟩) (Kd.V_mono HL31_0.out (fun k_ hk=>(⟨hk,hk.2⟩:_∧k_≠gb33))) (fun _ hk=>hk.2) (.slice A31_0 (rd_L1 t34 x18_2).length c31_0)) (fun _ h_=>h_.1)))).2.2)|(with_reducible refine Kd.C_alloc ?_ _)|(with_reducible refine Kd.C_drewN ?_ _)|(with_reducible refine Kd.C_drew ?_)));(case side5=>refine zj ?_;refine blk_put (cs:=#[.slice none 0 0]) ?_ 0 _ rfl;refine zj ?_;exact BK33.out);rintro e w21 ⟨rfl,hb⟩;refine ⟨_,rfl,?_⟩;replace HO_5:=zA (Kd.N_below (by (with_reducible repeat (first|apply Kd.N_alloc|apply Kd.N_drewN|apply Kd.N_drew));exact (Kd.N_mono (Kd.N_far (p:=⟨gb33,0,none⟩) (Kd.N_mono HO_5.out (fun k_ hk=>(⟨hk,hk.2⟩:_∧k_≠gb33))) (fun _ hk=>hk.2) (.slice A31_0 (rd_L1 t34 x18_2).length c31_0)) (fun _ h_=>h_.1))) hb);replace HO_16:=zA (Kd.N_below (by (with_reducible repeat (first|apply Kd.N_alloc|apply Kd.N_drewN|apply Kd.N_drew));exact (Kd.N_mono (Kd.N_far (p:=⟨gb33,0,none⟩) (Kd.N_mono HO_16.out (fun k_ hk=>(⟨hk,hk.2⟩:_∧k_≠gb33))) (fun _ hk=>hk.2) (.slice A31_0 (rd_L1 t34 x18_2).length c31_0)) (fun _ h_=>h_.1))) hb);replace BK38:=zA (blk_below (g:=gp1_0) (o:=.cells #[.slice A1_0 l1_0.length c1_0] 22 (0,0)) (by refine zj ?_;refine blk_far ?_ NB38_33.out _;refine zj ?_;exact BK38.out) hb);replace HR31_0:=zA (Kd.C_below ((Kd.V_reads' (by (with_reducible repeat (first|apply Kd.V_alloc|apply Kd.V_drewN|apply Kd.V_drew));exact (Kd.V_mono (Kd.V_far (p:=⟨gb33,0,none⟩) (Kd.V_mono HL31_0.out (fun k_ hk=>(⟨hk,hk.2⟩:_∧k_≠gb33))) (fun _ hk=>hk.2) (.slice A31_0 (rd_L1 t34 x18_2).length c31_0)) (fun _ h_=>h_.1)))).2.2) hb);replace HL31_0:=zA (Kd.V_below (by (with_reducible repeat (first|apply Kd.V_alloc|apply Kd.V_drewN|apply Kd.V_drew));exact (Kd.V_mono (Kd.V_far (p:=⟨gb33,0,none⟩) (Kd.V_mono HL31_0.out (fun k_ hk=>(⟨hk,hk.2⟩:_∧k_≠gb33))) (fun _ hk=>hk.2) (.slice A31_0 (rd_L1 t34 x18_2).length c31_0)) (fun _ h_=>h_.1))) hb);replace BK33:=zA (blk_below (g:=gb33) (o:=.cells #[.slice A31_0 (rd_L1 t34 x18_2).length c31_0] 23 (0,0)) (by refine zj ?_;refine blk_put (cs:=#[.slice none 0 0]) ?_ 0 _ rfl;refine zj ?_;exact BK33.out) hb);replace HB:=zu hb;clear hb;have hnb22:=NB33_38.out;have hnc22:=NB38_33.out;have hcz23_0:=zc0 BK33;have hfz23_0:=zf BK33 0)|(go_at_call 53;(with_reducible refine (conflict_Cores_1_v1.calls k2 _ _ (rd_L1 t34 x18_2) gp1_0 A1_0 c1_0 l1_0 t65 _ ?side1 HC31_0.out (zD HR1_0 HB) HC1_0.out ?side5 A18.out).mono ?_);(case side1=>exact zC ((Kd.V_reads' HL31_0.out).2.2));(case side5=>refine zj ?_;exact BK38.out);rintro e w24 ⟨rfl,hb⟩;replace HO_5:=zA (Kd.N_below (zN HO_5) hb);replace HO_16:=zA (Kd.N_below (zN HO_16) hb);replace BK38:=zw BK38 hb;replace HR31_0:=zA (Kd.C_below ((Kd.V_reads' HL31_0.out).2.2) hb);replace HL31_0:=zA (Kd.V_below (by (with_reducible repeat (first|apply Kd.V_alloc|apply Kd.V_drewN|apply Kd.V_drew));exact HL31_0.out) hb);replace BK33:=zw BK33 hb;replace HB:=zu hb;clear hb))
        (try simp only [Act.put,zi,zs,zt]);have H:=HC19.out;clear HC19
        by_cases c25:t65=true
        ·subst c25
         have H1:(if x5_2.length<5864062014805 then (conflict_least_conflict_Cores_1.l1 k2 a0 (x5_2++[rd_L1 t34 x18_2]) (wrap64 (a0+1)) x11_1 t34 (t34.length:Int) (wrap64 (x18_2+1)) l1_0) else (none))=some r:=by rw [if_pos rfl] at H;exact H
         clear H;have H:=H1;clear H1;obtain ⟨c26,H⟩:=if1 H;have LMc26:=zA c26;clear c26
         first|(replace H:=zyb (x5_2++[rd_L1 t34 x18_2]) H;obtain ⟨y59,Ny59,H⟩:=H)|(obtain ⟨y59,hy59⟩:=zY (x5_2++[rd_L1 t34 x18_2]);(try rw (occs:=.pos [1]) [← hy59] at H);have Ny59:=zA hy59;clear hy59)
         have H':=zA H;clear H;have hnb27:=NB33_38.out;have hnc27:=NB38_33.out;have hcz28_0:=zc0 BK33;have hfz28_0:=zf BK33 0
         go_wp2_with (first|((with_reducible refine gate_builtin (b:=.append) (xs:=#[.tmp 31,.tmp 33]) rfl ?_);at_builtin;refine Kd.N_append (Kd.slice 3 (Kd.int .i64)) (w0:=w) w.heap.size rfl (.tmp 31) (.tmp 33) 36 23 (.slice none 0 0) 24 rfl Tryz.underlying36 info23 rfl (by decide) (by omega) (.slice Ao20 x5_2.length co20) x5_2 (rd_L1 t34 x18_2) [.slice A31_0 (rd_L1 t34 x18_2).length c31_0] (fun k_=>(w.heap.size≤k_)∧some k_≠(.slice (some ad31) t34.length co6:Value).ownBlock∧k_≠gp1_0∧k_≠gb33) (fun k_=>((fun k_=>(w.heap.size≤k_)∧some k_≠(.slice (some ad31) t34.length co6:Value).ownBlock∧k_≠gp1_0∧k_≠gb33)) k_∧some k_≠(.slice Ao20 x5_2.length co20:Value).ownBlock) rfl rfl ?aP (fun _ hk=>hk) ?aF ?aO ?aB ?aS ?aL ?_;(case aP=>exact (Kd.FK_slice_mk (Kd.V_reads' (Kd.V_mono (ok':=(fun k_=>((fun k_=>(w.heap.size≤k_)∧some k_≠(.slice (some ad31) t34.length co6:Value).ownBlock∧k_≠gp1_0∧k_≠gb33)) k_∧some k_≠(.slice Ao20 x5_2.length co20:Value).ownBlock)) (HL31_0.out) (fun k_ hk=>⟨⟨hk.1.1.1,⟨hk.1.2,⟨hk.1.1.2.2,hk.2⟩⟩⟩,hk.1.1.2.1⟩))).2.1 (Kd.V_F (Kd.V_mono (ok':=(fun k_=>((fun k_=>(w.heap.size≤k_)∧some k_≠(.slice (some ad31) t34.length co6:Value).ownBlock∧k_≠gp1_0∧k_≠gb33)) k_∧some k_≠(.slice Ao20 x5_2.length co20:Value).ownBlock)) (HL31_0.out) (fun k_ hk=>⟨⟨hk.1.1.1,⟨hk.1.2,⟨hk.1.1.2.2,hk.2⟩⟩⟩,hk.1.1.2.1⟩)))));(case aB=>exact zB);(case aF=>exact (fun k_ hk=>⟨(Nat.le_trans (below_size zB) hk),Kd.fresh' (Kd.N_lt (zN HO_16)) k_ hk,Kd.freshB (g:=gp1_0) (o:=.cells #[.slice A1_0 l1_0.length c1_0] 22 (0,0)) (zk BK38) k_ hk,Kd.freshB (g:=gb33) (o:=.cells #[.slice A31_0 (rd_L1 t34 x18_2).length c31_0] 23 (0,0)) (zk BK33) k_ hk⟩));(case aO=>exact (by (with_reducible repeat (first|apply Kd.N_alloc|apply Kd.N_drewN|apply Kd.N_drew));exact Kd.N_mono HO_5.out (fun _ hk=>⟨hk.1.1,⟨hk.1.2.1,⟨hk.1.2.2,hk.2⟩⟩⟩)));(case aS=>exact (below_size zB));(case aL=>have:=LMc26.out;omega);intro v96 w29 ho hb hg hat;rw [← Ny59.out] at ho;have HO94:=zA (ho);replace HO_16:=zA (Kd.N_afterv (ok:=(fun k_=>(w.heap.size≤k_)∧k_≠gp1_0∧k_≠gb33)) (by (with_reducible repeat (first|apply Kd.N_alloc|apply Kd.N_drewN|apply Kd.N_drew));exact Kd.N_mono HO_16.out (fun _ hk=>⟨⟨hk.1.1,⟨hk.1.2.2,hk.2⟩⟩,hk.1.2.1⟩)) hg hat);replace BK38:=zA (blk_grown (g:=gp1_0) (o:=.cells #[.slice A1_0 l1_0.length c1_0] 22 (0,0)) (zk BK38) hg (Kd.N_ne HO_5.out BK38.out (by decide)));replace HL31_0:=zA (Kd.V_afterv (ok:=(fun k_=>(w.heap.size≤k_)∧some k_≠(.slice (some ad31) t34.length co6:Value).ownBlock∧k_≠gp1_0∧k_≠gb33)) (by (with_reducible repeat (first|apply Kd.V_alloc|apply Kd.V_drewN|apply Kd.V_drew));exact Kd.V_mono HL31_0.out (fun _ hk=>⟨⟨hk.1.1.1,⟨hk.1.2,⟨hk.1.1.2.2,hk.2⟩⟩⟩,hk.1.1.2.1⟩)) hg hat);replace BK33:=zA (blk_grown (g:=gb33) (o:=.cells #[.slice A31_0 (rd_L1 t34 x18_2).length c31_0] 23 (0,0)) (zk BK33) hg (Kd.N_away HO_5.out (fun _ hk=>hk.2)));replace HB:=zA (hb);clear HO_5;clear ho hb hg hat))
         go_roundg k2
         case measure=>have:=HK1.out;have:=HK2.out;omega
         case rel=>exact ⟨(y59),(wrap64 (x18_2+1)),zT,H',⟨by have:=HK1.out;have:=HK2.out;omega⟩,⟨by (with_reducible repeat (first|apply Kd.N_alloc|apply Kd.N_drewN|apply Kd.N_drew));exact Kd.N_mono HO94.out (fun _ hk=>⟨hk.1,⟨hk.2.1,hk.2.2.1⟩⟩)⟩,⟨by (with_reducible repeat (first|apply Kd.N_alloc|apply Kd.N_drewN|apply Kd.N_drew));exact Kd.N_mono HO_16.out (fun _ hk=>⟨hk.1.1,⟨hk.2,hk.1.2.1⟩⟩)⟩,⟨by refine zj ?_;exact BK38.out⟩,⟨zv1 HB GE33⟩⟩
        ·replace c25:=Bool.eq_false_iff.mpr c25;subst c25
         have H1:(conflict_least_conflict_Cores_1.l1 k2 a0 x5_2 (wrap64 (a0+1)) x11_1 t34 (t34.length:Int) (wrap64 (x18_2+1)) l1_0)=some r:=by rw [if_neg (show ¬ (false=true) by decide)] at H;exact H
         clear H;have H:=H1;clear H1;have H':=zA H;clear H
         go_wp2
         go_roundg k2
         case measure=>have:=HK1.out;have:=HK2.out;omega
         case rel=>exact ⟨(x5_2),(wrap64 (x18_2+1)),zT,H',⟨by have:=HK1.out;have:=HK2.out;omega⟩,⟨by (with_reducible repeat (first|apply Kd.N_alloc|apply Kd.N_drewN|apply Kd.N_drew));exact Kd.N_mono HO_5.out (fun _ hk=>⟨hk.1.1,⟨hk.1.2.1,hk.1.2.2⟩⟩)⟩,⟨by (with_reducible repeat (first|apply Kd.N_alloc|apply Kd.N_drewN|apply Kd.N_drew));exact Kd.N_mono HO_16.out (fun _ hk=>⟨hk.1.1,⟨hk.1.2.1,hk.1.2.2⟩⟩)⟩,⟨by refine zj ?_;exact BK38.out⟩,⟨zv1 HB GE33⟩⟩
      ·have H':=zA H;clear H
       go_wp2
       go_roundg k2
       case measure=>have:=HK1.out;have:=HK2.out;omega
       case rel=>exact ⟨(x5_2),(wrap64 (x11_1+1)),zT,H',⟨by have:=HK1.out;have:=HK2.out;omega⟩,⟨by (with_reducible repeat (first|apply Kd.N_alloc|apply Kd.N_drewN|apply Kd.N_drew));exact Kd.N_mono HO_5.out (fun _ hk=>⟨hk.1,hk.2.2⟩)⟩,⟨by refine zj ?_;exact BK38.out⟩,⟨zv0 HB⟩⟩
   ·obtain rfl:=Option.some.inj H
    go_wp2
    go_ret
    exact ⟨_,ze,by (with_reducible repeat (first|apply Kd.N_alloc|apply Kd.N_drewN|apply Kd.N_drew));exact Kd.N_mono HO_5.out (fun _ hk=>hk.1),zv0 HB⟩
def conflict_Cores.f (k:Nat) (l0:List (S49)):Option ((List (List Int))×Int):=(conflict_valid.f k l0).bind fun t34=>(if t34=0 then ((conflict_least_conflict_Cores_1.f k (l0.length:Int) l0).bind fun t48=>(some (t48,0))) else (some (([]:List (List Int)),t34)))
set_option maxHeartbeats 8000000 in
set_option maxRecDepth 100000 in
theorem conflict_Cores.calls (k:Nat) (A0:Option Addr) (c0:Nat) (l0:List (S49)) (r1:List (List Int)) (r2:Int) (w:World) (hr0:Kd.C k49 w A0 l0.length l0) (hc0:l0.length≤c0) (h:conflict_Cores.f k l0=some (r1,r2)) :
  Calls Tryz.prog 22 #[.slice A0 l0.length c0] w fun e w'=>∃ v0_:Value,e=.returned (.tuple #[v0_,.int .i64 r2])∧Kd.N (Kd.slice 3 (Kd.int .i64)) 23 w' w.heap.size (fun k_=>(w.heap.size≤k_)) v0_ r1∧Below w.heap.size w w':=by
 have HR0:=zA hr0;have HC0:=zA hc0;clear hr0 hc0;have HB:=zA (Below.refl w.heap.size w);have H:((conflict_valid.f k l0).bind fun t34=>(if t34=0 then ((conflict_least_conflict_Cores_1.f k (l0.length:Int) l0).bind fun t48=>(some (t48,0))) else (some (([]:List (List Int)),t34))))=some (r1,r2):=h;clear h;obtain ⟨t34,A2,H⟩:=zo H;have HC3:=zA H;clear H
 go_enter Tryz.func22,Tryz.ntmps22
 go_upto_if 8 with (first|((with_reducible refine gd 1 rfl ?_);refine zx #[.slice A0 l0.length c0] 22 ?_;intro gb38 hg w4 BK38 hb GW38 HB1;have GE38:=GW38;clear HB hb hg;have HB:=HB1;clear HB1;have hcz5_0:=zc0 BK38;have hfz5_0:=zf BK38 0)|((with_reducible refine gate_callee (f:=30) rfl ?_);refine zgo 6 Tryz.func30 #[.slice A0 l0.length c0] ?_;(with_reducible refine (conflict_valid.calls k _ _ l0 t34 _ (zD HR0 HB) HC0.out A2.out).mono ?_);rintro e w6 ⟨rfl,hb⟩;refine ⟨_,rfl,?_⟩;replace BK38:=zw BK38 hb;replace HB:=zu hb;clear hb))
 (try simp only [Act.put,zi,zs,zt]);have H:=HC3.out;clear HC3
 rcases ife H with ⟨c7b0,c7b1,H⟩|⟨c7,c7b0,c7b1,H⟩
 ·(first|rw [c7b0]|(simp only [i64_w,i32_w];rw [c7b0])|skip)
  (try rw [c7b1]);obtain ⟨t48,A8,H⟩:=zo H;simp only [Option.some.injEq,Prod.mk.injEq] at H;obtain ⟨rfl,rfl⟩:=H;have hcz9_0:=zc0 BK38;have hfz9_0:=zf BK38 0
  go_wp2_with (first|((with_reducible refine gate_callee (f:=52) rfl ?_);refine zgo 13 Tryz.func52 #[.int .i64 (l0.length:Int),.func (.func 53) #[] #[.pointer (some ⟨gb38,0,none⟩)]] ?_;(with_reducible refine (conflict_least_conflict_Cores_1.calls k (l0.length:Int) gb38 A0 c0 l0 t48 _ (zD HR0 HB) HC0.out ?side3 A8.out).mono ?_);(case side3=>refine zj ?_;exact BK38.out);rintro e w10 ⟨v43,rfl,ho0,hb⟩;refine ⟨_,rfl,?_⟩;have HO31:=zA (Kd.N_lower (Kd.N_mono (ok':=fun k_=>(w.heap.size≤k_)∧k_≠gb38) ho0 (fun k_ hk_=>⟨(Nat.le_trans (below_size zB) hk_),(Kd.freshB (g:=gb38) (o:=.cells #[.slice A0 l0.length c0] 22 (0,0)) (zk BK38) k_ hk_)⟩)) (below_size zB));replace BK38:=zw BK38 hb;replace HB:=zu hb;clear hb;(try clear ho0)))
  go_ret2
  exact ⟨_,ze,by (with_reducible repeat (first|apply Kd.N_alloc|apply Kd.N_drewN|apply Kd.N_drew));exact Kd.N_mono HO31.out (fun _ hk=>hk.1),zv1 HB GE38⟩
 ·(first|rw [c7b0]|(simp only [i64_w,i32_w];rw [c7b0])|skip)
  (try rw [c7b1]);simp only [Option.some.injEq,Prod.mk.injEq] at H;obtain ⟨rfl,rfl⟩:=H
  go_wp2
  go_ret2
  exact ⟨_,ze,by first|exact Kd.S_nil _ _ _ _ _|exact Kd.N_nil _ _ _ _ _|exact Kd.V_nil _ _ _ _ _|exact Kd.Q_nil _ _ _ _ _|exact Kd.R_nil _ _ _ _ _,zv1 HB GE38⟩
section
open Go.Lib Go.Sort Go.Shelf Kd
/-- What is written behind a row's elements leaves the row. -/
theorem own_behind {e base size n cap g:Nat} {w:World} {xs vs:List Value} (h:w.ownsRow base e size (.slice (some ⟨g,0,none⟩) n cap) n xs) (o:Nat) (ho:n * size≤o) (hv:o+vs.length≤cap * size):(w.setCells g o vs).ownsRow base e size (.slice (some ⟨g,0,none⟩) n cap) n xs:=by
 refine ⟨h.1,?_⟩
 rcases h.2 with ⟨h2,_⟩|⟨g',cap',cur,h1,h2,h3,h4,h5,h6,h7⟩
 ·cases h2
 ·injection h1 with h1 _ h1c
  injection h1 with h1
  injection h1 with h1
  subst h1 h1c;obtain ⟨cur',k1,k2,k3⟩:=setCells_row vs o w cur h3 (by omega);refine .inr ⟨g,cap,cur',rfl,h2,k1,h4,h5,by rw [k2];exact h6,?_⟩;rw [k3,List.append_assoc,List.take_append_of_le_length (by rw [List.length_take,Array.length_toList];omega),List.take_take,Nat.min_eq_left ho];exact h7
theorem run_clear_one {P:Program} (w:World) (t e ty:TypeId) (z:Value) (ht:P.underlying t=some (.slice e)) (hv:∀ w,(zeroValue e).run P w=.ok z w) (zs:List Value) (hz:(Builtin.zeroCells z.cells 1).toList=zs) (h1:∀ u∈zs,u.oneCell'=true) (b o c:Nat)
  (hc:∀ j,j<zs.length→(w.cell? ⟨b,o+j,none⟩).isSome=true) (hf:∀ j,j<zs.length→w.frozen? ⟨b,o+j,none⟩=false) :
  (Builtin.clear_ #[t] ty #[.slice (some ⟨b,o,none⟩) 1 c]).run P w=.ok (.tuple #[]) (w.setCells b o zs):=by
 have hst:=run_storeCells_cells (P:=P) b o zs 0 w (by simpa using hc) (by simpa using hf) h1;simp only [Nat.add_zero] at hst
 simp [Builtin.clear_,run_underlying ht,hv,hz,hst]
theorem clear_two {α:Type} {d:Kd α} {P:Program} {t e:Nat} (ht:P.underlying t=some (.slice e)) (zs:List Value) (z:Value) (hv:∀ w,(zeroValue e).run P w=.ok z w) (hz:(Builtin.zeroCells z.cells 1).toList=zs) (hzs:∀ u∈zs,u.oneCell'=true) (hlz:zs.length=d.sz)
  (base:Nat) {Q_:Nat→Prop} {g m c n:Nat} {ys:List α} {w w0 w1:World} (h:Kd.N d e w1 base Q_ (.slice (some ⟨g,0,none⟩) m c) ys) (hB:Below base w0 w1) (hg:w.grownBy w1 (some g)) (hbg:base≤g) (hc:m<c) :
  ∃ w2,(∀ ty,(Builtin.clear_ #[t] ty #[.slice (some ⟨g,m * d.sz,none⟩) 1 (c - m)]).run P w1=.ok (.tuple #[]) w2)∧Kd.N d e w2 base Q_ (.slice (some ⟨g,0,none⟩) m c) ys∧Below base w0 w2∧Kept w w2 (fun k_=>some k_=(Value.slice (some ⟨g,0,none⟩) n c).ownBlock):=by
 obtain ⟨hown,rows,hl,hR,hf⟩:=h;obtain ⟨hR1,inner,ho,hr⟩:=hR
 obtain ⟨cells,hcells,hsz⟩:∃ cells:Array Value,w1.heap[g]?=some (.cells cells e (0,0))∧cells.size=c * d.sz:=by
  rcases ho.2 with ⟨h2,_⟩|⟨g',cap',cur,h1,h2,h3,h4,h5,h6,h7⟩
  ·cases h2
  ·injection h1 with h1 _ h1c
   injection h1 with h1
   injection h1 with h1
   subst h1 h1c;exact ⟨cur,h3,h6⟩
 have hlen:rows.length=m:=by
  rcases ho.2 with ⟨h2,_⟩|⟨g',cap',cur,h1,h2,h3,h4,h5,h6,h7⟩
  ·cases h2
  ·injection h1 with _ h1 _
   exact h1.symm
 have hroom:m * d.sz+zs.length≤c * d.sz:=by
  rw [hlz,← Nat.succ_mul];exact Nat.mul_le_mul_right _ hc
 obtain ⟨s1,s2,s3,s4⟩:=setCells_same g zs (m * d.sz) w1;refine ⟨w1.setCells g (m * d.sz) zs,fun ty=>?_,⟨hown,rows,hl,⟨hR1,inner,?_,hr⟩,?_⟩,?_,?_⟩
 ·refine run_clear_one w1 t e ty z ht hv zs hz hzs g (m * d.sz) (c - m) ?_ ?_
  ·intro j hj;rw [blk_cell hcells,Array.getElem?_eq_getElem (by omega)];rfl
  ·intro j hj;exact blk_frozen hcells _
 ·rw [hlen] at ho ⊢;exact own_behind ho _ (Nat.le_refl _) hroom
 ·intro j x cc hx hc2;refine FK_step (hf j x cc hx hc2) (fun k hk hlt=>setCells_far _ _ k (fun e=>hk.2 (by rw [e];simp [Value.ownBlock])))
 ·exact ⟨by rw [s1];exact hB.os,by rw [s2];exact hB.tape,by rw [s3];exact hB.output,by rw [s4];exact hB.size,fun k hk=>(setCells_far _ _ k (by omega)).trans (hB.block k hk)⟩
 ·refine ⟨by rw [s4];exact hg.size,fun k hk hn=>?_⟩
  have hne:k≠g:=fun e=>hn (by rw [e];simp [Value.ownBlock])
  exact (setCells_far _ _ k hne).trans (hg.block k hk (fun e=>hne (by injection e)))
theorem delete_at {P:Program} {ops:Array Oper} {o:Oper} {a:Act} {Q:Exit→Act→World→Prop} {Kc:Act→World→Prop} {α:Type} (d:Kd α) {w0 w W:World} (base:Nat) (hgd:o.guard=none) (s x:Operand) (t e:TypeId) (ho:o.op=.call {callee:=.builtin .append,args:=#[s,x],argTypes:=#[t,t]})
  (ht:P.underlying t=some (.slice e)) (hinfo:(P.info? e).map (·.size)=some d.sz) {g n c k j m:Nat} (hj:j=k+1) (hm:m=n - 1) {xs:List α} {ok:Nat→Prop}
  (hs:a.eval s=.slice (some ⟨g,0,none⟩) k c) (hx:a.eval x=.slice (if c=j then some ⟨g,0,none⟩ else some ⟨g,j * d.sz,none⟩) (n - j) (c - j))
  (HO:Kd.N d e W base ok (.slice (some ⟨g,0,none⟩) n c) xs) (hk:k<n) (HB:Below base w0 W) (hbase:base≤W.heap.size) (hwW:w.grownBy W (some g))
  (h:∀ w1,Kd.N d e w1 base ok (.slice (some ⟨g,0,none⟩) m c) (xs.eraseIdx k)→Below base w0 w1→w.grownBy w1 (some g)→Kc (a.put o.dst (.slice (some ⟨g,0,none⟩) m c)) w1) :
  if Region.wanted o (yielded ops a.tmps)=true then Oper.wp P o a W Kc Q else Kc (a.put o.dst undef) W:=by
 subst hj hm;refine Kd.N_delete_step d base (by simp [Region.wanted,hgd]) s x t e ho ht hinfo hs hx ?_ rfl HO hk HB hbase (fun w1 h1 h2 h3=>h w1 h1 h2 ⟨h3.os.trans hwW.os,h3.tape.trans hwW.tape,h3.output.trans hwW.output,Nat.le_trans hwW.size h3.size,fun k hk hn=>(h3.block k (Nat.lt_of_lt_of_le hk hwW.size) hn).trans (hwW.block k hk hn)⟩)
 split
 ·rfl
 ·simp only [Option.map_some,Addr.add_lit,Nat.zero_add]
set_option maxHeartbeats 4000000 in
set_option maxRecDepth 1000000 in
theorem delete_one {P:Program} {ρ:Ren} {α:Type} (d:Kd α) (mixed:P.follows .mixedOrders=true) (f45:Bears P (ρ.f 45) (SlBodyN.n45 ρ))
  (t0:P.underlying (ρ.t 0)=some (TypeDesc.tuple #[])) (a0:∀ w,(isAgg (ρ.t 0)).run P w=.ok false w) (z0:∀ w,(Go.sizeOf (ρ.t 0)).run P w=.ok 1 w) (v0:∀ w,(zeroValue (ρ.t 0)).run P w=.ok (Value.tuple #[]) w)
  (t3:P.underlying (ρ.t 3)=some (TypeDesc.int IntKind.i64)) (a3:∀ w,(isAgg (ρ.t 3)).run P w=.ok false w) (z3:∀ w,(Go.sizeOf (ρ.t 3)).run P w=.ok 1 w) (v3:∀ w,(zeroValue (ρ.t 3)).run P w=.ok (Value.int IntKind.i64 0) w)
  (t4:P.underlying (ρ.t 4)=some (TypeDesc.bool)) (a4:∀ w,(isAgg (ρ.t 4)).run P w=.ok false w) (z4:∀ w,(Go.sizeOf (ρ.t 4)).run P w=.ok 1 w) (v4:∀ w,(zeroValue (ρ.t 4)).run P w=.ok (Value.bool false) w)
  (t22:P.underlying (ρ.t 22)=some (TypeDesc.slice (ρ.t 23))) (a22:∀ w,(isAgg (ρ.t 22)).run P w=.ok false w) (z22:∀ w,(Go.sizeOf (ρ.t 22)).run P w=.ok 1 w) (v22:∀ w,(zeroValue (ρ.t 22)).run P w=.ok (Value.slice none 0 0) w)
  (z23:∀ w,(Go.sizeOf (ρ.t 23)).run P w=.ok d.sz w) (hinfo:(P.info? (ρ.t 23)).map (·.size)=some d.sz)
  (zs:List Value) (z:Value) (hv:∀ w,(zeroValue (ρ.t 23)).run P w=.ok z w) (hz:(Builtin.zeroCells z.cells 1).toList=zs) (hzs:∀ u∈zs,u.oneCell'=true) (hlz:zs.length=d.sz)
  {Q_:Nat→Prop} {g n c i j m:Nat} {xs:List α} {w w0:World} (hj:j=i+1) (hm:m=n - 1) (hin:i<n) (hnc:n≤c) (hcm:c≤9223372036854775807) (hB:Below w0.heap.size w0 w) (hbg:w0.heap.size≤g) (hgw:g<w.heap.size) (ho:Kd.N d (ρ.t 23) w w0.heap.size Q_ (.slice (some ⟨g,0,none⟩) n c) xs) :
  Calls P (ρ.f 45) #[.slice (some ⟨g,0,none⟩) n c,.int .i64 i,.int .i64 j] w fun e w'=>e=.returned (.slice (some ⟨g,0,none⟩) m c)∧Kd.N d (ρ.t 23) w' w0.heap.size Q_ (.slice (some ⟨g,0,none⟩) m c) (xs.eraseIdx i)∧Below w0.heap.size w0 w'∧Kept w w' (fun k_=>some k_=(Value.slice (some ⟨g,0,none⟩) n c).ownBlock):=by
 have hO:=zA ho;have hB':=zA hB;have hJ:=zA hj;have hM:=zA hm;have hbw:=zA (Nat.le_of_lt (Nat.lt_of_le_of_lt hbg hgw));have hbg':=zA hbg;have hinfo':=zA hinfo
 have hcl:=fun (w1:World) (h1:Kd.N d (ρ.t 23) w1 w0.heap.size Q_ (.slice (some ⟨g,0,none⟩) m c) (xs.eraseIdx i)) (h2:Below w0.heap.size w0 w1) (h3:w.grownBy w1 (some g))=>clear_two (n:=n) t22 zs z hv hz hzs hlz w0.heap.size h1 h2 h3 hbg (show m<c by omega)
 have hCL:=zA hcl
 have hic:i≤c:=by omega
 have hjc:j≤c:=by omega
 have hij:i≤j:=by omega
 have hjn:j≤n:=by omega
 have hlt2:i<j:=by omega
 have hmn:m≤n:=by omega
 have hmc:m≤c:=by omega
 have hmc2:¬ (c=m):=by omega
 have h1:n - m=1:=by omega
 clear hcl hj hm ho hB hbg hgw hinfo hv hz hzs hlz;obtain ⟨_,_,FG⟩:=f45
 go_enter FG,SlBodyN.n45_ntmps ρ
 go_wp2_with fail
 go_region_law_o (refine delete_at (w:=w) d w0.heap.size rfl (.tmp 22) (.tmp 25) (ρ.t 22) (ρ.t 23) rfl t22 hinfo'.out hJ.out hM.out (by simp [Act.eval,Act.put]) (by simp [Act.eval,Act.put]) (Kd.N_drew hO.out) (by omega) ((hB'.out).drew) hbw.out ⟨rfl,rfl,rfl,Nat.le_refl _,fun _ _ _=>rfl⟩ ?_;intro w1 h1_ h2_ h3_;obtain ⟨w2,hc2,hF⟩:=hCL.out w1 h1_ h2_ h3_;clear h1_ h2_ h3_;have hF':=zA hF;clear hF)
 go_wp2
 all_goals (go_ret;have hF:=hF'.out;first|exact ⟨rfl,hF⟩|(have e_:c=j:=(by assumption);subst e_;exact ⟨rfl,hF⟩)|(have e_:c=j:=(by assumption);rw [e_] at hF;exact ⟨rfl,hF⟩))
def laysDel2_ren:Ren:=⟨fun|45=>35|n=>n,fun|22=>22|23=>49|3=>3|4=>4|0=>0|n=>n,fun|n=>n⟩
def api_Table_35.f (l0:List (S49)) (a1:Int) (a2:Int):Option ((List (S49))):=if 0≤a1 then (if a2=a1+1 then (if a1<(l0.length:Int) then some (l0.eraseIdx a1.toNat) else none) else none) else none
theorem api_Table_35.calls (P0_:Nat→Prop) (u68_:Value) (l0:List (S49)) (a1:Int) (a2:Int) (r:List (S49)) (w0 w:World) (hB:Below w0.heap.size w0 w) (ho0:Kd.N k49 49 w w0.heap.size P0_ u68_ l0) (h:api_Table_35.f l0 a1 a2=some r) :
 Calls Tryz.prog 35 #[u68_,.int .i64 a1,.int .i64 a2] w fun e w'=>∃ v0_:Value,e=.returned (v0_)∧Kd.N k49 49 w' w0.heap.size P0_ v0_ r∧Below w0.heap.size w0 w'∧Kept w w' (fun k_=>some k_=u68_.ownBlock)∧v0_.ownBlock=u68_.ownBlock:=by
 unfold api_Table_35.f at h
 by_cases h0:0≤a1
 case neg=>rw [if_neg h0] at h;cases h
 rw [if_pos h0] at h
 by_cases h1:a2=a1+1
 case neg=>rw [if_neg h1] at h;cases h
 rw [if_pos h1] at h
 by_cases h2:a1<(l0.length:Int)
 case neg=>rw [if_neg h2] at h;cases h
 rw [if_pos h2] at h;obtain rfl:=Option.some.inj h;clear h
 obtain ⟨i,rfl⟩:∃ i:Nat,a1=i:=⟨a1.toNat,by omega⟩
 obtain rfl:a2=((i+1:Nat):Int):=by omega
 simp only [Int.toNat_natCast];obtain ⟨g,c,rfl,hbg,hlt,_⟩:=Kd.N_form ho0 (by omega);obtain ⟨e1,hnc,_⟩:=Kd.N_reads' ho0
 have hcm:c≤9223372036854775807:=by
  obtain ⟨_,rows,hl,hR,_⟩:=ho0;obtain ⟨_,inner,ho,_⟩:=hR
  rcases ho.2 with ⟨h3,_⟩|⟨g',cap',cur,h3,_,_,_,h5,_⟩
  ·cases h3
  ·injection h3 with _ _ h3
   subst h3;exact h5
 refine (delete_one (ρ:=laysDel2_ren) k49 zK ⟨Tryz.f35.name,by decide,Tryz.func35.trans (congrArg some zK)⟩ Tryz.underlying0 Tryz.isAgg0 Tryz.sizeOf0 Tryz.zeroValue0 Tryz.underlying3 Tryz.isAgg3 Tryz.sizeOf3 Tryz.zeroValue3 Tryz.underlying4 Tryz.isAgg4 Tryz.sizeOf4 Tryz.zeroValue4 Tryz.underlying22 Tryz.isAgg22 Tryz.sizeOf22 Tryz.zeroValue22 Tryz.sizeOf49 zK [.slice none 0 0,.slice none 0 0] _ Tryz.zeroValue49 zK (by intro u hu;simp at hu;subst hu;rfl) rfl (j:=i+1) rfl rfl (show i<l0.length by omega) hnc hcm hB hbg hlt ho0).mono ?_;rintro e w' ⟨rfl,k1,k2,k3⟩;exact ⟨_,rfl,k1,k2,k3,rfl⟩
end
end Go.Proofs.YtkjghablbeaioaaGreat.B
