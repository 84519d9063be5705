import Derived.Test.YtkaalbbbpebpdaaT0
import Derived.Test.YtkaalbbbpebpdaaT2
import Derived.Test.YtkaalbbbpebpdaaT4
import Derived.Test.YtkaalbbbpebpdaaT5
namespace Go.Proofs.Ytkaalbbbpebpdaa.T
open Go.RowKit Go.Proofs.YtkaalbbbpebpdaaW.PrintWords Go.Proofs.YtkaalbbbpebpdaaW.PrintLast Go.Proofs.YtkaalbbbpebpdaaW.PrintMore
attribute [local go_sem] max2_int min2_int max_two min_two max_three min_three max_four min_four Try.underlying22 Try.underlying23 Try.underlying25 Try.underlying28 Try.underlying3 Try.underlying33 Try.underlying35 Try.underlying48 Try.underlying55
set_option linter.unusedVariables false
set_option linter.unusedSimpArgs false
def api_Table_solve_choices_fails.l0:Nat→List (S35)→Int→Int→Int→Int→Option (Int)
 | 0,_,_,_,_,_=>none
 | k+1,x0,x7,x8,x60,x61=>if x8<x7 then (if 0≤x8 then (if x8<(x0.length:Int) then ((solve_choices_fails.f k x60 x61 ((rd_T35 x0 x8).f0) ((rd_T35 x0 x8).f1)).bind fun t66=>(if t66=true then (some x8) else (api_Table_solve_choices_fails.l0 k x0 x7 (wrap64 (x8+1)) x60 x61))) else (none)) else (none)) else (some (-1))
def api_Table_solve_choices_fails.f (k:Nat) (l0:List (S35)) (a1_0:Int) (a1_1:Int):Option (Int):=api_Table_solve_choices_fails.l0 k l0 (l0.length:Int) 0 a1_0 a1_1
theorem api_Table_solve_choices_fails.mono_l:∀ k,(∀ y0 y1 y2 y3 y4,LeO (api_Table_solve_choices_fails.l0 k y0 y1 y2 y3 y4) (api_Table_solve_choices_fails.l0 (k+1) y0 y1 y2 y3 y4))
 | 0=>fun _ _ _ _ _ r h=>by simp [api_Table_solve_choices_fails.l0] at h
 | k+1=>by
  have ih0:=api_Table_solve_choices_fails.mono_l k
  ·intro y0 y1 y2 y3 y4
   unfold api_Table_solve_choices_fails.l0
   repeat' first
   | (with_reducible exact ih0 _ _ _ _ _)
   | (with_reducible exact solve_choices_fails.mono _ _ _ _ _)
   | (with_reducible exact LeO.refl _)
   | (with_reducible exact LeO.none _)
   | (with_reducible refine LeO.ite ?_ ?_)
   | (with_reducible refine LeO.bind ?_ (fun _=>?_))
   | exact LeO.none _
   | refine LeO.ite ?_ ?_
   | refine LeO.bind ?_ (fun _=>?_)
theorem api_Table_solve_choices_fails.mono:∀ a0 a1 a2 k,LeO (api_Table_solve_choices_fails.f k a0 a1 a2) (api_Table_solve_choices_fails.f (k+1) a0 a1 a2):=by
 intro a0 a1 a2 k;have ih0:=api_Table_solve_choices_fails.mono_l k
 unfold api_Table_solve_choices_fails.f
 repeat' first
   | (with_reducible exact ih0 _ _ _ _ _)
   | (with_reducible exact solve_choices_fails.mono _ _ _ _ _)
   | (with_reducible exact LeO.refl _)
   | (with_reducible exact LeO.none _)
   | (with_reducible refine LeO.ite ?_ ?_)
   | (with_reducible refine LeO.bind ?_ (fun _=>?_))
   | exact LeO.none _
   | refine LeO.ite ?_ ?_
   | refine LeO.bind ?_ (fun _=>?_)
set_option maxHeartbeats 8000000 in
set_option maxRecDepth 100000 in
theorem api_Table_solve_choices_fails.calls (k:Nat) (A0:Option Addr) (c0:Nat) (l0:List (S35)) (a1_0:Int) (a1_1:Int) (r:Int) (w:World) (hr0:Kd.C k35 w A0 l0.length l0) (hc0:l0.length≤c0) (h:api_Table_solve_choices_fails.f k l0 a1_0 a1_1=some r) :
  Calls Try.prog 50 #[.slice A0 l0.length c0,.func (.func 35) #[.agg #[.int .i64 a1_0,.int .i64 a1_1]] #[]] w fun e w'=>e=.returned (.int .i64 r)∧Below w.heap.size w w':=by
 have HR0:=zA hr0;have HC0:=zA hc0;clear hr0 hc0;have HB:=zA (Below.refl w.heap.size w);have H:(api_Table_solve_choices_fails.l0 k l0 (l0.length:Int) 0 a1_0 a1_1)=some r:=h;clear h;have H':=zA H;clear H
 go_enter Try.func50,Try.ntmps50
 go_wp2
 go_loopg [8] k (fun kq v8 w'=>∃ (x8_1:Int),v8=.int .i64 x8_1∧Aside0 (api_Table_solve_choices_fails.l0 kq l0 (l0.length:Int) x8_1 a1_0 a1_1=some r)∧Aside0 (kq≤k)∧Aside0 (Below w.heap.size w w'))
 case atStart=>exact ⟨(0),zT,H',⟨Nat.le_refl _⟩,⟨zv0 HB⟩⟩
 case round=>
  clear H';obtain ⟨x8_1,rfl,HA,HK1,HB⟩:=hrel
  cases gk with
  | zero=>exact absurd HA.out (by simp [api_Table_solve_choices_fails.l0])
  | succ k1=>
   have H:=HA.out;clear HA;simp only [api_Table_solve_choices_fails.l0] at H
   rcases ifd H with ⟨c3b0,H⟩|⟨c3b0,H⟩
   ·obtain ⟨c4b0,H⟩:=ifd1 H;obtain ⟨c5b0,H⟩:=ifd1 H;obtain ⟨t66,A6,H⟩:=zo H;have HC7:=zA H;clear H;obtain ⟨p42,q42,ad42,A42_0,c42_0,A42_1,c42_1,e42,hx42_0,hx42_1,hl42_0,hi42_0,hl42_1,hi42_1⟩:=zp (at_T35 HR0.out x8_1)
    cases e42
    replace hx42_0:=zd HB hx42_0;replace hx42_1:=zd HB hx42_1;have HR42_0:=zA hi42_0;have HC42_0:=zA hl42_0;clear hi42_0 hl42_0;have HR42_1:=zA hi42_1;have HC42_1:=zA hl42_1;clear hi42_1 hl42_1;replace p42:=eq_true p42;replace q42:=eq_true q42
    go_upto_if 16 with (first|(go_at_call 35;(with_reducible refine (solve_choices_fails.calls k1 a1_0 a1_1 _ _ ((rd_T35 l0 x8_1).f0) _ _ ((rd_T35 l0 x8_1).f1) t66 _ (zD HR42_0 HB) HC42_0.out (zD HR42_1 HB) HC42_1.out A6.out).mono ?_);rintro e w8 ⟨rfl,hb⟩;replace HB:=zu hb;clear hb))
    (try simp only [Act.put,zi,zs,zt]);have H:=HC7.out;clear HC7
    by_cases c9:t66=true
    ·subst c9
     have H1:(some x8_1)=some r:=by rw [if_pos rfl] at H;exact H
     clear H;have H:=H1;clear H1;obtain rfl:=Option.some.inj H
     go_wp2
     go_ret
     exact ⟨ze,zv0 HB⟩
    ·replace c9:=Bool.eq_false_iff.mpr c9;subst c9
     have H1:(api_Table_solve_choices_fails.l0 k1 l0 (l0.length:Int) (wrap64 (x8_1+1)) a1_0 a1_1)=some r:=by rw [if_neg (show ¬ (false=true) by decide)] at H;exact H
     clear H;have H:=H1;clear H1;have H':=zA H;clear H
     go_wp2
     go_roundg k1
     case measure=>have:=HK1.out;omega
     case rel=>exact ⟨(wrap64 (x8_1+1)),zT,H',⟨by have:=HK1.out;omega⟩,⟨zv0 HB⟩⟩
   ·obtain rfl:=Option.some.inj H
    go_wp2
    go_ret
    exact ⟨ze,zv0 HB⟩
def solve_choices_failing.f (k:Nat) (a0_0:Int) (a0_1:Int) (l1:List (S35)):Option (Int):=(api_Table_solve_choices_fails.f k l1 a0_0 a0_1).bind fun t62=>(some t62)
theorem solve_choices_failing.mono:∀ a0 a1 a2 k,LeO (solve_choices_failing.f k a0 a1 a2) (solve_choices_failing.f (k+1) a0 a1 a2):=by
 intro a0 a1 a2 k
 unfold solve_choices_failing.f
 repeat' first
   | (with_reducible exact api_Table_solve_choices_fails.mono _ _ _ _)
   | (with_reducible exact LeO.refl _)
   | (with_reducible exact LeO.none _)
   | (with_reducible refine LeO.ite ?_ ?_)
   | (with_reducible refine LeO.bind ?_ (fun _=>?_))
   | exact LeO.none _
   | refine LeO.ite ?_ ?_
   | refine LeO.bind ?_ (fun _=>?_)
set_option maxHeartbeats 8000000 in
set_option maxRecDepth 100000 in
theorem solve_choices_failing.calls (k:Nat) (a0_0:Int) (a0_1:Int) (A1:Option Addr) (c1:Nat) (l1:List (S35)) (r:Int) (w:World) (hr1:Kd.C k35 w A1 l1.length l1) (hc1:l1.length≤c1) (h:solve_choices_failing.f k a0_0 a0_1 l1=some r) :
  Calls Try.prog 40 #[.agg #[.int .i64 a0_0,.int .i64 a0_1],.slice A1 l1.length c1] w fun e w'=>e=.returned (.int .i64 r)∧Below w.heap.size w w':=by
 have HR1:=zA hr1;have HC1:=zA hc1;clear hr1 hc1;have HB:=zA (Below.refl w.heap.size w);have H:((api_Table_solve_choices_fails.f k l1 a0_0 a0_1).bind fun t62=>(some t62))=some r:=h;clear h;obtain ⟨t62,A3,H⟩:=zo H;obtain rfl:=Option.some.inj H
 go_enter Try.func40,Try.ntmps40
 go_wp2_with (first|((with_reducible refine gd 2 rfl ?_);refine zx #[.int .i64 a0_0,.int .i64 a0_1] 48 ?_;intro gb49 hg w4 BK49 hb GW49 HB1;have GE49:=GW49;clear HB hb hg;have HB:=HB1;clear HB1;have hcz5_0:=zc0 BK49;have hcz5_1:=zc1 BK49;have hfz5_0:=zf BK49)|((with_reducible refine gate_callee (f:=50) rfl ?_);refine zgo 8 Try.func50 #[.slice A1 l1.length c1,.func (.func 35) #[.agg #[.int .i64 a0_0,.int .i64 a0_1]] #[]] ?_;(with_reducible refine (api_Table_solve_choices_fails.calls k _ _ l1 a0_0 a0_1 t62 _ (zD HR1 HB) HC1.out A3.out).mono ?_);rintro e w6 ⟨rfl,hb⟩;refine ⟨_,rfl,?_⟩;replace BK49:=zw BK49 hb;replace HB:=zu hb;clear hb))
 go_ret
 exact ⟨ze,zv1 HB GE49⟩
/-- What the body of a range over the solutions keeps: all that lay here (but the blocks from n0 to n1: the body's own variables),and the choices of the search. -/
def KpS (n0 n1 n2:Nat) (W W':World):Prop:=W.heap.size≤W'.heap.size∧∀ k,k<W.heap.size→((k<n0∨(n1≤k∧k<n2))∨∃ cs,W.heap[k]?=some (.cells cs 48 (0,0)))→W'.heap[k]?=W.heap[k]?
theorem KpS.refl {n0 n1 n2:Nat} (W:World):KpS n0 n1 n2 W W:=⟨Nat.le_refl _,fun _ _ _=>rfl⟩
theorem KpS.trans {n0 n1 n2:Nat} {A B C:World} (h:KpS n0 n1 n2 A B) (k:KpS n0 n1 n2 B C):KpS n0 n1 n2 A C:=
 ⟨Nat.le_trans h.1 k.1,fun j hj hp=>by
  have e:=h.2 j hj hp;have e2:=k.2 j (Nat.lt_of_lt_of_le hj h.1) (hp.elim .inl (fun ⟨cs,hc⟩=>.inr ⟨cs,e.trans hc⟩))
  exact e2.trans e⟩
theorem KpS.below {n0 n1 n2:Nat} {A B:World} (h:Below A.heap.size A B):KpS n0 n1 n2 A B:=⟨h.size,fun j hj _=>h.block j hj⟩
theorem KpS.box {n0 n1 n2:Nat} {A B:World} (h:KpS n0 n1 n2 A B) {g:Nat} {cs:Array Value} (hb:A.heap[g]?=some (.cells cs 48 (0,0))):B.heap[g]?=some (.cells cs 48 (0,0)):=
 (h.2 g (blk_lt hb) (.inr ⟨cs,hb⟩)).trans hb
theorem KpS.kept {n0 n1 n2:Nat} {A B:World} (h:KpS n0 n1 n2 A B):Kept A B (fun k=>n0≤k∧(k<n1∨n2≤k)):=⟨h.1,fun i hi hn=>h.2 i hi (.inl (by omega))⟩
theorem KpS.put {n0 n1 n2:Nat} (h02:n0≤n2) (W:World) (l:Nat) (o o':Obj) (hl:n2≤l) (h:W.heap[l]?=some o) (ho:o.isCells=false):KpS n0 n1 n2 W (W.putObj l o'):=
 ⟨(grownBy_putObj' W l o').size,fun k hk hp=>(grownBy_putObj' W l o').block k hk (fun e=>by
  cases e
  rcases hp with hp|⟨cs,hc⟩
  ·omega
  ·rw [h] at hc;cases hc;simp [Obj.isCells] at ho)⟩
theorem KpS.set {n0 n1 n2:Nat} {W:World} {g t:Nat} {cs:Array Value} (hb:W.heap[g]?=some (.cells cs t (0,0))) (ht:t≠48) (h0:n0≤g) (h1:g<n1) (h2:n1≤n2) (j:Nat) (u:Value):KpS n0 n1 n2 W (W.setCell ⟨g,j,none⟩ u):=
 ⟨by simp [World.setCell],fun k hk hp=>Below.heap_setCell W _ u k (fun e=>by
  dsimp only at e
  subst e
  rcases hp with hp|⟨cs',hc⟩
  ·omega
  ·rw [hb] at hc;cases hc;exact ht rfl)⟩
theorem ne_row_ {A:World} {B:Nat} {row:Option Nat} (hr:∀ r,row=some r→B≤r∧∃ o:Obj,A.heap[r]?=some o∧o.isCells=false) {g t:Nat} {cs:Array Value} (hb:A.heap[g]?=some (.cells cs t (0,0))):some g≠row:=by
 intro e;obtain ⟨_,o,ho,hc⟩:=hr g e.symm;rw [hb] at ho
 cases ho
 simp [Obj.isCells] at hc
theorem run_loadVar_one {P:Program} (w:World) (g t ty:Nat) (v:Value) (fr:Nat×Nat) (d:TypeDesc) (hg:w.heap[g]?=some (.cells #[v] t fr)) (hu:P.underlying ty=some d) (hd:(match d with | .struct _ | .array _ _=>true|_=>false)=false) :
  (loadVar ty ⟨g,0,none⟩).run P w=.ok v w:=by
 have hagg:(isAgg ty).run P w=.ok false w:=by
  unfold isAgg
  rw [Sem.run_bind,run_underlying hu w]
  cases d <;> simp_all
 have hc:w.cell? ⟨g,0,none⟩=some v:=by simp [World.cell?,hg]
 simp [loadVar,Sem.run_bind,hagg,hc]
theorem results_two {P:Program} {fn:Func} {p p':Tmp} {ty ty':TypeId} (h:fn.results=#[.cell p ty,.cell p' ty']) (tmps:Array Value) (w:World) (g g':Nat) (v v':Value)
  (hp:tmps.getD p undef=.pointer (some ⟨g,0,none⟩)) (hp':tmps.getD p' undef=.pointer (some ⟨g',0,none⟩)) (h1:(loadVar ty ⟨g,0,none⟩).run P w=.ok v w) (h2:(loadVar ty' ⟨g',0,none⟩).run P w=.ok v' w) :
  (results fn tmps).run P w=.ok (.tuple #[v,v']) w:=by
 have e1:tmps[p]?.getD undef=.pointer (some ⟨g,0,none⟩):=by simpa using hp
 have e2:tmps[p']?.getD undef=.pointer (some ⟨g',0,none⟩):=by simpa using hp'
 simp [results,h,e1,e2,asAddr,h1,h2]
theorem two_set {W:World} {g g' t t':Nat} {v v':Value} (h1:W.heap[g]?=some (.cells #[v] t (0,0))) (h2:W.heap[g']?=some (.cells #[v'] t' (0,0))) (hne:g≠g') (u u':Value) :
  ((W.setCell ⟨g,0,none⟩ u).setCell ⟨g',0,none⟩ u').heap[g]?=some (.cells #[u] t (0,0))∧((W.setCell ⟨g,0,none⟩ u).setCell ⟨g',0,none⟩ u').heap[g']?=some (.cells #[u'] t' (0,0)):=
 ⟨blk_far (blk_put (cs:=#[v]) h1 0 u rfl) hne _,blk_put (cs:=#[v']) (blk_far h2 (Ne.symm hne) _) 0 u' rfl⟩
theorem two_keep (W:World) (g g':Nat) (u u':Value):KeepsOthers W ((W.setCell ⟨g,0,none⟩ u).setCell ⟨g',0,none⟩ u'):=(KeepsOthers.setCell _ _ _).trans (KeepsOthers.setCell _ _ _)
theorem blk_deferred {W:World} {D g t:Nat} {cs:Array Value} {x:Option (List Deferred)} (hb:W.heap[g]?=some (.cells cs t (0,0))) (hK:W.heap[D]?=some (.deferred x)) (o':Obj):(W.putObj D o').heap[g]?=some (.cells cs t (0,0)):=
 blk_grown hb (grownBy_putObj' W D o') (fun e=>by cases e;rw [hK] at hb;cases hb)
theorem KpS.grown {n0 n1 n2:Nat} {W W':World} {row:Option Nat} (hg:W.grownBy W' row) (h02:n0≤n2) (hr:∀ k,row=some k→n2≤k∧∃ cs t,W.heap[k]?=some (.cells cs t (0,0))∧t≠48):KpS n0 n1 n2 W W':=
 ⟨hg.size,fun k hk hp=>hg.block k hk (fun e=>by
  obtain ⟨h1,cs,t,hb,ht⟩:=hr k e.symm
  rcases hp with hp|⟨cs',hc⟩
  ·omega
  ·rw [hb] at hc;cases hc;exact ht rfl)⟩
theorem room_none_ {F:Fence} (hd:F.depth=none) (k:Nat):F.room k:=fun d h=>by rw [hd] at h;cases h
theorem RoundIn.anyDepth_ {F:Fence} (hd:F.depth=none) {m m':Nat} {P:Program} {l:Nat} {f:FuncId} {tmps:Array Value} {assign body:Code} {w:World} {R:Ending→World→Prop}
  (h:RoundIn F m P l f tmps assign body w R):RoundIn F m' P l f tmps assign body w R:=⟨h.1,fun c cs _=>h.2 c cs (room_none_ hd _)⟩
theorem YieldAt.anyDepth_ {F:Fence} (hd:F.depth=none) {m:Nat} (m':Nat) {P:Program} {l:Nat} {args:Array Value} {W:World} {R:Ending→World→Prop} (h:YieldAt F m P l args W R):YieldAt F m' P l args W R:=by
 obtain ⟨fn,tmps,assign,body,hy,hR⟩:=h;exact ⟨fn,tmps,assign,body,hy,RoundIn.anyDepth_ hd hR⟩
/-- All solutions below some choices,in order. -/
def solve_search.f:Nat→List (S35)→List Int→Int→Int→Option (List Int)
 | 0,_,_,_,_=>none
 | k+1,l0,l1,a2_0,a2_1=>(solve_choices_failing.f k a2_0 a2_1 l0).bind fun t46=>(if t46≥0 then (some []) else (if (l1.length:Int)=0 then (some [a2_1]) else (if 0≤(wrap64 ((l1.length:Int) - 1)) then (if (wrap64 ((l1.length:Int) - 1))<(l1.length:Int) then (if (wrap64 ((l1.length:Int) - 1))≤(l1.length:Int) then ((solve_choices_with.f a2_0 a2_1 (rd l1 (wrap64 ((l1.length:Int) - 1))) 0).bind fun bt52=>((solve_search.f k l0 (l1.take ((wrap64 ((l1.length:Int) - 1)):Int).toNat) bt52.1 bt52.2).bind fun t54=>((solve_choices_with.f a2_0 a2_1 (rd l1 (wrap64 ((l1.length:Int) - 1))) 1).bind fun bt53=>((solve_search.f k l0 (l1.take ((wrap64 ((l1.length:Int) - 1)):Int).toNat) bt53.1 bt53.2).bind fun t68=>(some (t54++t68)))))) else (none)) else (none)) else (none))))
theorem solve_search.mono_l:∀ k,(∀ y0 y1 y2 y3,LeO (solve_search.f k y0 y1 y2 y3) (solve_search.f (k+1) y0 y1 y2 y3))
 | 0=>fun _ _ _ _ r h=>by simp [solve_search.f] at h
 | k+1=>by
  have ih0:=solve_search.mono_l k
  ·intro y0 y1 y2 y3
   unfold solve_search.f
   repeat' first
   | (with_reducible exact ih0 _ _ _ _)
   | (with_reducible exact solve_choices_failing.mono _ _ _ _)
   | (with_reducible exact LeO.refl _)
   | (with_reducible exact LeO.none _)
   | (with_reducible refine LeO.ite ?_ ?_)
   | (with_reducible refine LeO.bind ?_ (fun _=>?_))
   | exact LeO.none _
   | refine LeO.ite ?_ ?_
   | refine LeO.bind ?_ (fun _=>?_)
theorem solve_search.mono:∀ a0 a1 a2 a3 k,LeO (solve_search.f k a0 a1 a2 a3) (solve_search.f (k+1) a0 a1 a2 a3):=by
 intro a0 a1 a2 a3 k;have ih0:=solve_search.mono_l k;exact ih0 a0 a1 a2 a3
section
attribute [local go_sem] Oper.semAt_some
set_option maxHeartbeats 8000000 in
set_option maxRecDepth 100000 in
theorem solve_search.in_ (lp N n0 n1 n2:Nat) (J Jx:List Int→World→Prop) (w0:World) (A0:Option Addr) (c0:Nat) (l0:List (S35)) (hc0:l0.length≤c0)
  (hL_:∀ W',KpS n0 n1 n2 w0 W'→Kd.C k35 W' A0 l0.length l0) (hJb_:∀ s W W',J s W→Below W.heap.size W W'→J s W')
  (hY_:∀ m pre x W,J pre W→pre.length<N→YieldAt Fence.wide m Try.prog lp #[.int .i64 x] W fun e W'=>(e=.returned (.bool true)∧J (pre++[x]) W'∧KpS n0 n1 n2 W W')∨(e=.returned (.bool false)∧Jx (pre++[x]) W')) (k:Nat) :
  ∀ (A1:Option Addr) (c1:Nat) (l1:List Int) (a2_0:Int) (a2_1:Int) (r pre:List Int) (w:World) (hK_:KpS n0 n1 n2 w0 w) (hJ_:J pre w) (hV_:∀ W',KpS n0 n1 n2 w0 W'→Kd.C (Kd.int .i64) W' A1 l1.length l1) (hc1:l1.length≤c1) (hN:pre.length+r.length≤N) (h:solve_search.f k l0 l1 a2_0 a2_1=some r),
  Calls Try.prog 39 #[.slice A0 l0.length c0,.slice A1 l1.length c1,.agg #[.int .i64 a2_0,.int .i64 a2_1],.func (.yield lp) #[] #[]] w fun e w'=>(e=.returned (.bool true)∧J (pre++r) w'∧KpS n0 n1 n2 w w')∨(e=.returned (.bool false)∧∃ q,q <+: r∧Jx (pre++q) w'):=by
 have hL:=zA hL_;have hJb:=zA hJb_;have hY:=zA hY_;clear hL_ hJb_ hY_
 induction k using Nat.strongRecOn with
 | _ k ih=>
 intro A1 c1 l1 a2_0 a2_1 r pre w hK_ hJ_ hV_ hc1 hN h
 cases k with
 | zero=>exact absurd h (by simp [solve_search.f])
 | succ k=>
 simp only [solve_search.f] at h;have HK:=zA hK_;have HJ:=zA hJ_;have HV:=zA hV_;clear hK_ hJ_ hV_;have HC1:=zA hc1;have HN:=zA hN;clear hc1 hN;have HB:=zA (Below.refl w.heap.size w);have H:=h;clear h;replace H:=Option.bind_eq_some_iff.mp H;obtain ⟨t46,A50,H⟩:=H;have A5:=zA A50;clear A50;have HC6:=zA H;clear H;have IH:=zA ih;clear ih
 go_enter Try.func39,Try.ntmps39
 go_upto_if 14 with (first|((with_reducible refine gd 6 rfl ?_);refine zx #[.int .i64 a2_0,.int .i64 a2_1] 48 ?_;intro gb41 hg w7 BK41 hb GW41 HB1;have GE41:=GW41;clear HB hb hg;have HB:=HB1;clear HB1;have hcz8_0:=zc0 BK41;have hcz8_1:=zc1 BK41;have hfz8_0:=zf BK41)|(go_at_call 40;(with_reducible refine (solve_choices_failing.calls k a2_0 a2_1 _ _ l0 t46 _ ?side1 ?side2 A5.out).mono ?_);(case side1=>exact hL.out _ (KpS.trans HK.out (KpS.below zB)));(case side2=>exact hc0);rintro e w9 ⟨rfl,hb⟩;replace BK41:=zw BK41 hb;replace HB:=zu hb;clear hb))
 repeat (go_quiet (first|((with_reducible refine gd 6 rfl ?_);refine zx #[.int .i64 a2_0,.int .i64 a2_1] 48 ?_;intro gb41 hg w7 BK41 hb GW41 HB1;have GE41:=GW41;clear HB hb hg;have HB:=HB1;clear HB1;have hcz8_0:=zc0 BK41;have hcz8_1:=zc1 BK41;have hfz8_0:=zf BK41)|(go_at_call 40;(with_reducible refine (solve_choices_failing.calls k a2_0 a2_1 _ _ l0 t46 _ ?side1 ?side2 A5.out).mono ?_);(case side1=>exact hL.out _ (KpS.trans HK.out (KpS.below zB)));(case side2=>exact hc0);rintro e w9 ⟨rfl,hb⟩;replace BK41:=zw BK41 hb;replace HB:=zu hb;clear hb));go_upto_if 14 with (first|((with_reducible refine gd 6 rfl ?_);refine zx #[.int .i64 a2_0,.int .i64 a2_1] 48 ?_;intro gb41 hg w7 BK41 hb GW41 HB1;have GE41:=GW41;clear HB hb hg;have HB:=HB1;clear HB1;have hcz8_0:=zc0 BK41;have hcz8_1:=zc1 BK41;have hfz8_0:=zf BK41)|(go_at_call 40;(with_reducible refine (solve_choices_failing.calls k a2_0 a2_1 _ _ l0 t46 _ ?side1 ?side2 A5.out).mono ?_);(case side1=>exact hL.out _ (KpS.trans HK.out (KpS.below zB)));(case side2=>exact hc0);rintro e w9 ⟨rfl,hb⟩;replace BK41:=zw BK41 hb;replace HB:=zu hb;clear hb)))
 (try simp only [Act.put,zi,zs,zt]);have H:=HC6.out;clear HC6
 rcases if0 H with ⟨c10,H⟩|⟨c10,H⟩
 ·have c10b0:decide (0≤t46)=true:=decide_eq_true c10;clear c10
  (first|rw [c10b0]|(simp only [i64_w,i32_w];rw [c10b0])|skip)
  obtain rfl:=Option.some.inj H
  go_wp2
  repeat (go_quiet (fail);try go_wp2)
  go_ret
  have hbel:Below w.heap.size w _:=zB;exact .inl ⟨rfl,by (try rw [List.append_nil]);exact hJb.out _ _ _ HJ.out hbel,KpS.below hbel⟩
 ·have c10b0:decide (0≤t46)=false:=decide_eq_false c10;clear c10
  (first|rw [c10b0]|(simp only [i64_w,i32_w];rw [c10b0])|skip)
  rcases ife H with ⟨c11b0,c11b1,H⟩|⟨c11,c11b0,c11b1,H⟩
  ·obtain rfl:=Option.some.inj H;have hcz12_0:=zc0 BK41;have hcz12_1:=zc1 BK41;have hfz12_0:=zf BK41;obtain ⟨fn,tmps,assign,body,hy,hR⟩:=hY.out (5 - 1) pre a2_1 w9 (hJb.out _ _ _ HJ.out HB.out) (by have:=HN.out;simp at this;omega);refine (wpIn_wide (n:=5)).1 ?_
   gi_wp2
   refine (wpIn_wide (n:=5)).1 ?_
   gi_wp2
   refine hR.mono ?_;rintro e W3 (⟨rfl,hJ3,hK3⟩|⟨rfl,hJx3⟩)
   ·gi_wp2
    go_ret
    exact .inl ⟨rfl,hJ3,(KpS.below HB.out).trans hK3⟩
   ·gi_wp2
    go_ret
    exact .inr ⟨rfl,[a2_1],List.prefix_refl _,hJx3⟩
  ·have c11b2:¬ (l1=[]):=fun h_=>c11 (by rw [h_];rfl)
   obtain ⟨ji13,hji13⟩:∃ j_:Int,(wrap64 ((l1.length:Int) - 1))=j_:=⟨_,rfl⟩
   simp only [hji13] at H
   obtain ⟨lt_,hlt_⟩:∃ t_:List Int,t_=l1.take ((ji13):Int).toNat:=⟨_,rfl⟩
   simp only [← hlt_] at H;have hji13w:(IntKind.i64.wrap ((l1.length:Int) - 1))=ji13:=(i64_w _).trans hji13;obtain ⟨c14b0,H⟩:=ifd1 H;obtain ⟨c15b0,H⟩:=ifd1 H;have c16b0:=eq_true (of_decide_eq_true zh:0≤(ji13));obtain ⟨c17,H⟩:=if1 H;have c17b0:=eq_true c17;have c17b1:decide ((ji13)≤(l1.length:Int))=true:=decide_eq_true c17;clear c17;replace H:=Option.bind_eq_some_iff.mp H;obtain ⟨⟨t52,t57⟩,A63,H⟩:=H;have A18:=zA A63;clear A63;replace H:=Option.bind_eq_some_iff.mp H;obtain ⟨t54,A58,H⟩:=H;have A19:=zA A58;clear A58;replace H:=Option.bind_eq_some_iff.mp H;obtain ⟨⟨t53,t59⟩,A65,H⟩:=H;have A21:=zA A65;clear A65;replace H:=Option.bind_eq_some_iff.mp H;obtain ⟨t68,A69,H⟩:=H;have A22:=zA A69;clear A69;obtain rfl:=Option.some.inj H;clear H;obtain ⟨p37,q37,ad37,e37,hx37_0⟩:=zp (Kd.at_int (HV.out w9 (KpS.trans HK.out (KpS.below HB.out))) (ji13))
   cases e37
   replace p37:=eq_true p37;replace q37:=eq_true q37;obtain ⟨i56,hi56,_,hsz23,_⟩:=info_parts info3;obtain ⟨hcut23,hA23,hC23⟩:=print_take_of (P:=Try.prog) (Value.int .i64) 0 33 3 .i64 Try.underlying33 hi56 hsz23 (some ad37) c1 l1 (ji13) (of_decide_eq_true zh) (of_decide_eq_true zh) HC1.out;rw [← hlt_] at hcut23 hA23 hC23;have HLT:=zA hlt_;clear hlt_;have HV51:=zA (fun W' hk_=>Kd.C_of_reads (h1:=fun _=>rfl) (hA23 _ (Kd.reads_of_C (HV.out W' hk_))));have HC51:=zA hC23;clear hA23 hC23 hi56 hsz23;have hcz24_0:=zc0 BK41;have hcz24_1:=zc1 BK41;have hfz24_0:=zf BK41
   have hn1:pre.length+t54.length≤N:=by have:=HN.out;simp at this;omega
   have hn2:(pre++t54).length+t68.length≤N:=by have:=HN.out;simp at this ⊢;omega
   have HN1:=zA hn1;have HN2:=zA hn2;clear hn1 hn2
   go_wp2
   go_quiet (fail)
   go_wp2_with (first
    | (go_at_call 27;(with_reducible refine (solve_choices_with.calls a2_0 a2_1 (rd l1 (ji13)) 0 t52 t57 _ A18.out).mono ?_);clear A18;rintro e w25 ⟨rfl,hb⟩;replace BK41:=zw BK41 hb;replace HB:=zu hb;clear hb)
    | (go_at_call 39;(with_reducible refine (IH.out k (by omega) _ _ _ t52 t57 t54 pre _ ?side1 ?side2 ?side3 ?side4 ?side5 A19.out).mono ?_);(case side1=>exact KpS.trans HK.out (KpS.below zB));(case side2=>exact hJb.out _ _ _ HJ.out zB);(case side3=>exact HV51.out);(case side4=>exact HC51.out);(case side5=>exact HN1.out);clear A19;rintro e w26 (⟨rfl,hJ1,hK1⟩|⟨rfl,q1,hq1,hx1⟩);(have HK1:=zA (KpS.trans (KpS.below zB) hK1);have HJ1:=zA hJ1;have HB1:=zA (Below.refl w26.heap.size w26);replace BK41:=zA (KpS.box hK1 (g:=gb41) (cs:=#[.int .i64 a2_0,.int .i64 a2_1]) (zk BK41));clear hJ1 hK1 HB;have hcz27_0:=zc0 BK41;have hcz27_1:=zc1 BK41;have hfz27_0:=zf BK41))
    | (go_at_call 27;(with_reducible refine (solve_choices_with.calls a2_0 a2_1 (rd l1 (ji13)) 1 t53 t59 _ A21.out).mono ?_);clear A21;rintro e w28 ⟨rfl,hb⟩;replace BK41:=zw BK41 hb;replace HB1:=zA (below_step (zv0 HB1) hb);clear hb)
    | (go_at_call 39;(with_reducible refine (IH.out k (by omega) _ _ _ t53 t59 t68 (pre++t54) _ ?side1 ?side2 ?side3 ?side4 ?side5 A22.out).mono ?_);(case side1=>exact KpS.trans HK.out (KpS.trans HK1.out (KpS.below (zv0 HB1))));(case side2=>exact hJb.out _ _ _ HJ1.out (zv0 HB1));(case side3=>exact HV51.out);(case side4=>exact HC51.out);(case side5=>exact HN2.out);clear A22;rintro e w29 (⟨rfl,hJ2,hK2⟩|⟨rfl,q2,hq2,hx2⟩)))
   ·go_ret
    exact .inl ⟨rfl,by rw [← List.append_assoc];exact hJ2,KpS.trans HK1.out (KpS.trans (KpS.below (zv0 HB1)) hK2)⟩
   ·go_ret
    obtain ⟨z2,hz2⟩:=hq2;exact .inr ⟨rfl,t54++q2,⟨z2,by rw [List.append_assoc,hz2]⟩,by rw [← List.append_assoc];exact hx2⟩
   ·go_ret
    exact .inr ⟨rfl,q1,hq1.trans (List.prefix_append _ _),hx1⟩
set_option maxHeartbeats 8000000 in
set_option maxRecDepth 100000 in
theorem solve_solutions_1.in_ (lp N n0 n1 n2:Nat) (J Jx:List Int→World→Prop) (w0:World) (A0:Option Addr) (c0:Nat) (l0:List (S35)) (hc0:l0.length≤c0) (A1:Option Addr) (c1:Nat) (l1:List Int) (hc1:l1.length≤c1) (a2_0 a2_1:Int) (g0 g1 g2:Nat)
  (hL_:∀ W',KpS n0 n1 n2 w0 W'→Kd.C k35 W' A0 l0.length l0) (hV_:∀ W',KpS n0 n1 n2 w0 W'→Kd.C (Kd.int .i64) W' A1 l1.length l1) (hJb_:∀ s W W',J s W→Below W.heap.size W W'→J s W')
  (hY_:∀ m pre x W,J pre W→pre.length<N→YieldAt Fence.wide m Try.prog lp #[.int .i64 x] W fun e W'=>(e=.returned (.bool true)∧J (pre++[x]) W'∧KpS n0 n1 n2 W W')∨(e=.returned (.bool false)∧Jx (pre++[x]) W')) (k:Nat)
  (r:List Int) (w:World) (hK:KpS n0 n1 n2 w0 w) (hJ:J [] w) (hN:r.length≤N) (h:solve_search.f k l0 l1 a2_0 a2_1=some r)
  (hb0_:w.heap[g0]?=some (.cells #[.slice A0 l0.length c0] 22 (0,0))) (hb1_:w.heap[g1]?=some (.cells #[.slice A1 l1.length c1] 33 (0,0))) (hb2_:w.heap[g2]?=some (.cells #[.int .i64 a2_0,.int .i64 a2_1] 48 (0,0))) :
  Calls Try.prog 38 #[.func (.yield lp) #[] #[],.pointer (some ⟨g0,0,none⟩),.pointer (some ⟨g1,0,none⟩),.pointer (some ⟨g2,0,none⟩)] w fun e w'=>(∃ v,e=.returned v)∧((∃ xs,xs=r∧J xs w')∨(∃ pre,pre <+: r∧Jx pre w')):=by
 have hp:=solve_search.in_ lp N n0 n1 n2 J Jx w0 A0 c0 l0 hc0 hL_ hJb_ hY_ k A1 c1 l1 a2_0 a2_1 r [] w hK hJ hV_ hc1 (by simpa using hN) h;have HP:=zA hp;clear hp hL_ hV_ hJb_ hY_;have hcz0:w.cell? ⟨g0,0,none⟩=some (.slice A0 l0.length c0):=(blk_cell hb0_ 0).trans rfl;have hcz1:w.cell? ⟨g1,0,none⟩=some (.slice A1 l1.length c1):=(blk_cell hb1_ 0).trans rfl;have hcz2:w.cell? ⟨g2,0,none⟩=some (.int .i64 a2_0):=(blk_cell hb2_ 0).trans rfl;have hcz3:w.cell? ⟨g2,1,none⟩=some (.int .i64 a2_1):=(blk_cell hb2_ 1).trans rfl;clear hb0_ hb1_ hb2_
 go_enter Try.func38,Try.ntmps38
 go_wp2_with (go_at_call 39;(with_reducible refine HP.out.mono ?_);clear HP;rintro e W1 (⟨rfl,hJ1,_⟩|⟨rfl,q,hq,hx⟩))
 ·go_end0
  exact ⟨⟨_,rfl⟩,.inl ⟨_,rfl,by simpa using hJ1⟩⟩
 ·go_end0
  exact ⟨⟨_,rfl⟩,.inr ⟨q,hq,by simpa using hx⟩⟩
set_option maxHeartbeats 1000000 in
theorem solve_solutions.in_ (A0:Option Addr) (n0 c0:Nat) (A1:Option Addr) (n1 c1:Nat) (a2_0 a2_1:Int) (w:World) :
  Calls Try.prog 24 #[.slice A0 n0 c0,.slice A1 n1 c1,.agg #[.int .i64 a2_0,.int .i64 a2_1]] w fun e w'=>∃ g0 g1 g2:Nat,e=.returned (.func (.func 38) #[] #[.pointer (some ⟨g0,0,none⟩),.pointer (some ⟨g1,0,none⟩),.pointer (some ⟨g2,0,none⟩)])∧w.heap.size≤g0∧w.heap.size≤g1∧
   w'.heap[g0]?=some (.cells #[.slice A0 n0 c0] 22 (0,0))∧w'.heap[g1]?=some (.cells #[.slice A1 n1 c1] 33 (0,0))∧w'.heap[g2]?=some (.cells #[.int .i64 a2_0,.int .i64 a2_1] 48 (0,0))∧Below w.heap.size w w':=by
 go_enter Try.func24,Try.ntmps24
 go_wp2
 go_ret
 refine ⟨_,_,_,rfl,?_,?_,?_,?_,?_,?_⟩
 ·exact Nat.le_refl _
 ·omega
 ·exact blk_alloc (blk_alloc (heap_alloc_new _ _) _) _
 ·exact blk_alloc (by have h_:=heap_alloc_new (w.alloc (.cells #[.slice A0 n0 c0] 22)) (.cells #[.slice A1 n1 c1] 33);rw [World.size_alloc] at h_;exact h_) _
 ·have h_:=heap_alloc_new ((w.alloc (.cells #[.slice A0 n0 c0] 22)).alloc (.cells #[.slice A1 n1 c1] 33)) (.cells #[.int .i64 a2_0,.int .i64 a2_1] 48);rw [World.size_alloc,World.size_alloc] at h_;exact h_
 ·exact below_alloc (below_alloc (below_alloc (Below.refl _ _) _) _) _
/-- What the function value that 'solutions' hands back gives: all solutions in order. -/
theorem solve_solutions_stops (n0 n1 n2:Nat) (A0:Option Addr) (c0:Nat) (l0:List (S35)) (hc0:l0.length≤c0) (A1:Option Addr) (c1:Nat) (l1:List Int) (hc1:l1.length≤c1) (a2_0 a2_1:Int) (g0 g1 g2 k:Nat) (r:List Int) (w:World) (h2:w.heap.size≤n2)
  (hL_:∀ W',KpS n0 n1 n2 w W'→Kd.C k35 W' A0 l0.length l0) (hV_:∀ W',KpS n0 n1 n2 w W'→Kd.C (Kd.int .i64) W' A1 l1.length l1) (h:solve_search.f k l0 l1 a2_0 a2_1=some r)
  (hb0_:w.heap[g0]?=some (.cells #[.slice A0 l0.length c0] 22 (0,0))) (hb1_:w.heap[g1]?=some (.cells #[.slice A1 l1.length c1] 33 (0,0))) (hb2_:w.heap[g2]?=some (.cells #[.int .i64 a2_0,.int .i64 a2_1] 48 (0,0))) :
  SeqStopsK Fence.wide 4 Try.prog 38 #[.pointer (some ⟨g0,0,none⟩),.pointer (some ⟨g1,0,none⟩),.pointer (some ⟨g2,0,none⟩)] (fun x:Int=>#[Value.int .i64 x]) (KpS n0 n1 n2) (fun ys=>ys=r) (fun pre=>pre <+: r) r.length w:=fun l J Jx W hW hJ hJx hY hj0=>by
 have hJb:∀ s W W',J s W→Below W.heap.size W W'→J s W':=fun s A B hs hb=>by
  exact hJ s A B none hs ⟨hb.os,hb.tape,hb.output,hb.size,fun k hk _=>hb.block k hk⟩ (fun r e=>by cases e)
 refine callsIn_wide.2 ?_;exact solve_solutions_1.in_ l r.length n0 n1 n2 J Jx w A0 c0 l0 hc0 A1 c1 l1 hc1 a2_0 a2_1 g0 g1 g2 hL_ hV_ hJb (fun m pre x W1 hj hl=>YieldAt.anyDepth_ rfl m (hY pre x W1 hj hl)) k r W (KpS.below hW) hj0 (Nat.le_refl _) h
  ((hW.block _ (blk_lt hb0_)).trans hb0_) ((hW.block _ (blk_lt hb1_)).trans hb1_) ((hW.block _ (blk_lt hb2_)).trans hb2_)
end
def solve_split.T10:Bool×List (List Nat×List Nat):=(true,[([],[]),([],[]),([1],[1]),([2],[2]),([3],[3]),([],[]),([5],[5]),([6],[6]),([],[]),([8],[8]),([7,9],[7,9]),([10],[10]),([4,11],[4,11]),([0,0,1,2,3,4,5,6,7,8,9,10,11,12],[0]),([13,0,1,2,3,4,5,6,7,8,9,10,11,12],[13]),([14,12,12,0,1,2,3,4,5,6,7,8,9,10,11,12],[12,14])])
def solve_split.B10:List Nat:=[0,0,2,6,14,0,32,96,0,256,992,2016,4094,8191,16383,32767]
theorem solve_split.tab10:rtab .any (opsOf Try.f25 10)=solve_split.T10:=by kernel_rfl
theorem solve_split.bits10:waitsOk solve_split.T10.2 solve_split.B10=true:=by kernel_rfl
def solve_split.T11:Bool×List (List Nat×List Nat):=(true,[([],[]),([],[]),([1],[1]),([],[]),([],[]),([4],[4]),([5],[5]),([3,6],[3,6]),([],[]),([0,2,7,8,7],[0,2,7,8]),([9],[9])])
def solve_split.B11:List Nat:=[0,0,2,0,0,16,48,120,0,511,1023]
theorem solve_split.tab11:rtab .any (opsOf Try.f25 11)=solve_split.T11:=by kernel_rfl
theorem solve_split.bits11:waitsOk solve_split.T11.2 solve_split.B11=true:=by kernel_rfl
def solve_split.T13:Bool×List (List Nat×List Nat):=(true,[([],[]),([0],[0]),([1],[1]),([2],[2]),([],[]),([],[]),([5],[5]),([6],[6]),([7],[7]),([8],[8]),([3,4,0,1,2,3,4,5,6,7,8,9],[3,4]),([10,0,1,2,3,4,5,6,7,8,9],[10]),([11,9,0,1,2,3,4,5,6,7,8,9],[9,11])])
def solve_split.B13:List Nat:=[0,1,3,7,0,0,32,96,224,480,1023,2047,4095]
theorem solve_split.tab13:rtab .any (opsOf Try.f25 13)=solve_split.T13:=by kernel_rfl
theorem solve_split.bits13:waitsOk solve_split.T13.2 solve_split.B13=true:=by kernel_rfl
def solve_split.T14:Bool×List (List Nat×List Nat):=(true,[([],[]),([],[]),([1],[1]),([],[]),([],[]),([4],[4]),([5],[5]),([3,6],[3,6]),([],[]),([0,2,7,8,7],[0,2,7,8]),([9,9,0,1,2,3,4,5,6,7,8,9],[9])])
def solve_split.B14:List Nat:=[0,0,2,0,0,16,48,120,0,511,1023]
theorem solve_split.tab14:rtab .any (opsOf Try.f25 14)=solve_split.T14:=by kernel_rfl
theorem solve_split.bits14:waitsOk solve_split.T14.2 solve_split.B14=true:=by kernel_rfl
/-- What split keeps: all that lay below n0,and all but the nodes' variable and rows of nodes. -/
def KpR (n0 g:Nat) (W W':World):Prop:=W.heap.size≤W'.heap.size∧(∀ k,k<W.heap.size→(k<n0∨(k≠g∧∀ cs,W.heap[k]?≠some (.cells cs 55 (0,0))))→W'.heap[k]?=W.heap[k]?)∧W'.os=W.os∧W'.tape=W.tape∧W'.output=W.output
theorem KpR.refl {n0 g:Nat} (W:World):KpR n0 g W W:=⟨Nat.le_refl _,fun _ _ _=>rfl,rfl,rfl,rfl⟩
theorem KpR.trans {n0 g:Nat} {A B C:World} (h:KpR n0 g A B) (k:KpR n0 g B C):KpR n0 g A C:=
 ⟨Nat.le_trans h.1 k.1,fun j hj hp=>by
  have e:=h.2.1 j hj hp
  exact (k.2.1 j (Nat.lt_of_lt_of_le hj h.1) (hp.elim .inl (fun ⟨h1,h2⟩=>.inr ⟨h1,fun cs hc=>h2 cs (e.symm.trans hc)⟩))).trans e,k.2.2.1.trans h.2.2.1,k.2.2.2.1.trans h.2.2.2.1,k.2.2.2.2.trans h.2.2.2.2⟩
theorem KpR.below {n0 g:Nat} {A B:World} (h:Below A.heap.size A B):KpR n0 g A B:=⟨h.size,fun j hj _=>h.block j hj,h.os,h.tape,h.output⟩
theorem KpR.belowN {n0 g:Nat} {A B:World} (h:KpR n0 g A B) (hn:n0≤A.heap.size):Below n0 A B:=⟨h.2.2.1,h.2.2.2.1,h.2.2.2.2,h.1,fun k hk=>h.2.1 k (by omega) (.inl hk)⟩
theorem KpR.blk {n0 g:Nat} {A B:World} (h:KpR n0 g A B) {j t:Nat} {cs:Array Value} (hb:A.heap[j]?=some (.cells cs t (0,0))) (hj:j≠g) (ht:t≠55):B.heap[j]?=some (.cells cs t (0,0)):=
 (h.2.1 j (blk_lt hb) (.inr ⟨hj,fun cs' hc=>by rw [hb] at hc;cases hc;exact ht rfl⟩)).trans hb
theorem KpR.other {n0 g:Nat} {A B:World} (h:KpR n0 g A B) {j:Nat} {o:Obj} (hb:A.heap[j]?=some o) (hj:j≠g) (ho:o.isCells=false):B.heap[j]?=some o:=
 (h.2.1 j (Array.getElem?_eq_some_iff.1 hb).1 (.inr ⟨hj,fun cs' hc=>by rw [hb] at hc;cases hc;simp [Obj.isCells] at ho⟩)).trans hb
theorem KpR.kept {n0 g:Nat} {A B:World} (h:KpR n0 g A B):Kept A B (fun k=>n0≤k∧(k=g∨∃ cs,A.heap[k]?=some (.cells cs 55 (0,0)))):=
 ⟨h.1,fun i hi hn=>h.2.1 i hi (by
  by_cases hlt:i<n0
  ·exact .inl hlt
  ·exact .inr ⟨fun e=>hn ⟨by omega,.inl e⟩,fun cs hc=>hn ⟨by omega,.inr ⟨cs,hc⟩⟩⟩)⟩
theorem KpR.set {n0 g:Nat} (W:World) (hg:n0≤g) (j:Nat) (u:Value):KpR n0 g W (W.setCell ⟨g,j,none⟩ u):=
 ⟨by simp [World.setCell],fun k hk hp=>Below.heap_setCell W _ u k (fun e=>by
  dsimp only at e
  subst e
  rcases hp with hp|⟨hp,_⟩
  ·omega
  ·exact hp rfl),rfl,rfl,rfl⟩
theorem KpR.grown {n0 g:Nat} {W W':World} {row:Option Nat} (hg:W.grownBy W' row) (hr:∀ k,row=some k→n0≤k∧∃ cs,W.heap[k]?=some (.cells cs 55 (0,0))):KpR n0 g W W':=
 ⟨hg.size,fun k hk hp=>hg.block k hk (fun e=>by
  obtain ⟨h1,cs,hb⟩:=hr k e.symm
  rcases hp with hp|⟨_,hc⟩
  ·omega
  ·exact hc cs hb),hg.os,hg.tape,hg.output⟩
theorem cell_alloc_ {W:World} {a:Addr} {v:Value} {o:Obj} (h:W.cell? a=some v):(W.alloc o).cell? a=some v:=cell_kept h (World.grownBy_alloc W o none) (fun r e=>by cases e)
def solve_split.f:Nat→List (S35)→List Int→Int→Int→List (S55)→Option (List (S55)×Bool)
 | 0,_,_,_,_,_=>none
 | k+1,l0,l1,a2_0,a2_1,l3=>if (l3.length:Int)=2000 then some (l3,false) else (solve_choices_failing.f k a2_0 a2_1 l0).bind fun t=>(if t≥0 then (if l3.length<4398046511104 then some (l3++[(⟨(-1),0,0,t⟩:S55)],true) else none) else (if (l1.length:Int)=0 then some (l3,false) else (if l3.length<4398046511104 then (solve_choices_with.f a2_0 a2_1 (rd l1 0) 0).bind fun b=>(solve_split.f k l0 (l1.drop 1) b.1 b.2 (l3++[(⟨rd l1 0,wrap64 ((l3.length:Int)+1),0,0⟩:S55)])).bind fun q=>(if q.2=true then (if (l3.length:Int)<(q.1.length:Int) then (solve_choices_with.f a2_0 a2_1 (rd l1 0) 1).bind fun b'=>solve_split.f k l0 (l1.drop 1) b'.1 b'.2 (q.1.set l3.length (⟨(rd_T55 q.1 (l3.length:Int)).f0,(rd_T55 q.1 (l3.length:Int)).f1,(q.1.length:Int),(rd_T55 q.1 (l3.length:Int)).f3⟩:S55)) else none) else some (q.1,false)) else none)))
theorem solve_split.mono_l:∀ k,(∀ y0 y1 y2 y3 y4,LeO (solve_split.f k y0 y1 y2 y3 y4) (solve_split.f (k+1) y0 y1 y2 y3 y4))
 | 0=>fun _ _ _ _ _ r h=>by simp [solve_split.f] at h
 | k+1=>by
  have ih0:=solve_split.mono_l k
  ·intro y0 y1 y2 y3 y4
   unfold solve_split.f
   repeat' first
   | (with_reducible exact ih0 _ _ _ _ _)
   | (with_reducible exact solve_choices_failing.mono _ _ _ _)
   | (with_reducible exact LeO.refl _)
   | (with_reducible exact LeO.none _)
   | (with_reducible refine LeO.ite ?_ ?_)
   | (with_reducible refine LeO.bind ?_ (fun _=>?_))
   | exact LeO.refl _
   | exact LeO.none _
   | refine LeO.ite ?_ ?_
   | refine LeO.bind ?_ (fun _=>?_)
theorem solve_split.mono:∀ a0 a1 a2 a3 a4 k,LeO (solve_split.f k a0 a1 a2 a3 a4) (solve_split.f (k+1) a0 a1 a2 a3 a4):=by
 intro a0 a1 a2 a3 a4 k;have ih0:=solve_split.mono_l k;exact ih0 a0 a1 a2 a3 a4
set_option maxHeartbeats 8000000 in
set_option maxRecDepth 100000 in
theorem solve_split.in_ (n0 g:Nat) (hge_:n0≤g) (w1:World) (A0:Option Addr) (c0:Nat) (l0:List (S35)) (hl0_:l0.length≤c0) (hL_:∀ W',KpR n0 g w1 W'→Kd.C k35 W' A0 l0.length l0) (k:Nat) :
  ∀ (A1:Option Addr) (c1:Nat) (l1:List Int) (a2_0 a2_1:Int) (l3:List (S55)) (u:Value) (r:List (S55)) (b:Bool) (w:World) (hK_:KpR n0 g w1 w) (hn_:n0≤w.heap.size) (hV_:∀ W',KpR n0 g w1 W'→Kd.C (Kd.int .i64) W' A1 l1.length l1) (hc1_:l1.length≤c1)
   (hb_:w.heap[g]?=some (.cells #[u] 25 (0,0))) (ho_:Kd.R k55 55 w n0 (fun _=>True) u l3) (h:solve_split.f k l0 l1 a2_0 a2_1 l3=some (r,b)),
  Calls Try.prog 25 #[.slice A0 l0.length c0,.slice A1 l1.length c1,.agg #[.int .i64 a2_0,.int .i64 a2_1],.pointer (some ⟨g,0,none⟩)] w fun e w'=>e=.returned (.bool b)∧∃ u':Value,w'.heap[g]?=some (.cells #[u'] 25 (0,0))∧Kd.R k55 55 w' n0 (fun _=>True) u' r∧KpR n0 g w w':=by
 have hL:=zA hL_;have hge:=zA hge_;have hl0:=zA hl0_;clear hL_ hge_ hl0_
 induction k using Nat.strongRecOn with
 | _ k ih=>
 intro A1 c1 l1 a2_0 a2_1 l3 u r b w hK_ hn_ hV_ hc1_ hb_ ho_ h
 cases k with
 | zero=>exact absurd h (by simp [solve_split.f])
 | succ k=>
 simp only [solve_split.f] at h;obtain ⟨Au,cu,rfl⟩:=Kd.R_slice ho_;have HK1:=zA hK_;have HN:=zA hn_;have HV:=zA hV_;have HC1:=zA hc1_;have BKr:=zA hb_;have HO:=zA ho_;have HK:=zA (KpR.refl (n0:=n0) (g:=g) w);have IH:=zA ih;have HGW:=zA (blk_lt hb_);clear hK_ hn_ hV_ hc1_ hb_ ho_ ih;have H0:=zA h;clear h
 go_enter Try.func25,Try.ntmps25
 go_upto_if 17 with (first|((with_reducible refine gate_dst (N:=6) rfl ?_);refine box_event ?hg (N:=6) ?hd (cs:=#[.int .i64 a2_0,.int .i64 a2_1]) (t:=48) ?hr ?_;(case hd=>rfl);(case hg=>rfl);(case hr=>first|(go_simp;done)|(go_simp;rfl));intro gb hg w7 hbox hb;have BKc:=zA hbox;have GE:=zA (show w.heap.size≤gb by rw [hg];exact Nat.le_refl _);replace BKr:=zA (blk_below BKr.out hb);replace HO:=zA (Kd.R_below HO.out hb);replace HK:=zA (KpR.below (n0:=n0) (g:=g) hb);clear hb hbox hg;have hcr:w7.cell? ⟨g,0,none⟩=some (.slice Au l3.length cu):=zc0 BKr;have hfr:=blk_frozen BKr.out 0;have hc0:w7.cell? ⟨gb,0,none⟩=some (.int .i64 a2_0):=zc0 BKc;have hc1:w7.cell? ⟨gb,1,none⟩=some (.int .i64 a2_1):=zc1 BKc;have hf0:=blk_frozen BKc.out 0;have hf1:=blk_frozen BKc.out 1))
 (try simp only [Act.put,zi,zs,zt]);have NE:=zA (show gb≠g from by have h1:=GE.out;have h2:=HGW.out;omega);have H:=H0.out;clear H0
 rcases if0 H with ⟨c2,H⟩|⟨c2,H⟩
 ·have c2b0:((l3.length:Int) == 2000)=true:=beq_iff_eq.mpr c2
  (first|rw [c2b0]|(simp only [i64_w,i32_w];rw [c2b0])|skip)
  simp only [Option.some.injEq,Prod.mk.injEq] at H;obtain ⟨rfl,rfl⟩:=H
  go_wp2
  go_ret
  exact ⟨rfl,_,BKr.out,HO.out,HK.out⟩
 ·have c2b0:((l3.length:Int) == 2000)=false:=beq_eq_false_iff_ne.mpr c2
  (first|rw [c2b0]|(simp only [i64_w,i32_w];rw [c2b0])|skip)
  replace H:=Option.bind_eq_some_iff.mp H;obtain ⟨t46,A50,H⟩:=H;have A5:=zA A50;have HC6:=zA H;clear A50 H
  go_upto_if 22 with (first|(go_at_call 40;(with_reducible refine (solve_choices_failing.calls k a2_0 a2_1 _ _ l0 t46 _ ?side1 ?side2 A5.out).mono ?_);(case side1=>exact hL.out _ (KpR.trans HK1.out HK.out));(case side2=>exact hl0.out);rintro e w9 ⟨rfl,hb⟩;replace BKr:=zA (blk_below BKr.out hb);replace BKc:=zA (blk_below BKc.out hb);replace HO:=zA (Kd.R_below HO.out hb);replace HK:=zA (KpR.trans HK.out (KpR.below (n0:=n0) (g:=g) hb));clear hb hcr hfr hc0 hc1 hf0 hf1;have hcr:w9.cell? ⟨g,0,none⟩=some (.slice Au l3.length cu):=zc0 BKr;have hfr:=blk_frozen BKr.out 0;have hc0:w9.cell? ⟨gb,0,none⟩=some (.int .i64 a2_0):=zc0 BKc;have hc1:w9.cell? ⟨gb,1,none⟩=some (.int .i64 a2_1):=zc1 BKc;have hf0:=blk_frozen BKc.out 0;have hf1:=blk_frozen BKc.out 1))
  (try simp only [Act.put,zi,zs,zt]);have hn9:=zA (Nat.le_trans HN.out HK.out.1);have H:=HC6.out;clear HC6
  rcases if0 H with ⟨c10,H⟩|⟨c10,H⟩
  ·have c10b0:decide (0≤t46)=true:=decide_eq_true c10;clear c10
   (first|rw [c10b0]|(simp only [i64_w,i32_w];rw [c10b0])|skip)
   obtain ⟨c16,H⟩:=if1 H;have LMc16:=zA c16;clear c16;simp only [Option.some.injEq,Prod.mk.injEq] at H;obtain ⟨hr_,rfl⟩:=H;have Ny:=zA hr_;clear hr_
   go_wp2_with (first|((with_reducible refine gate_builtin (b:=.append) (xs:=#[.tmp 27,.tmp 30]) rfl ?_);at_builtin;refine Kd.R_append k55 (w0:=w9) n0 rfl (.tmp 27) (.tmp 30) 23 55 (.agg #[(.int .i64 0),(.int .i64 0),(.int .i64 0),(.int .i64 0)]) 32 rfl Try.underlying23 info55 rfl (by decide) (by omega) (.slice Au l3.length cu) l3 (⟨(-1),0,0,t46⟩:S55) [.int .i64 (-1),.int .i64 0,.int .i64 0,.int .i64 t46] (fun _=>True) (fun _=>False) rfl rfl ?aP (fun _ hk=>hk.elim) ?aF ?aO ?aB ?aS ?aL ?_;(case aP=>exact k55_mkM _ _ _ (⟨(-1),0,0,t46⟩:S55));(case aF=>exact fun _ _=>trivial);(case aB=>first|exact Below.refl n0 w9|exact (Below.refl n0 w9).alloc hn9.out _);(case aO=>exact (by refine zr ?_;exact HO.out));(case aS=>first|exact hn9.out|exact Nat.le_trans hn9.out (by rw [World.size_alloc];omega));(case aL=>have:=LMc16.out;omega);intro v70 w17 ho hb hg hat;rw [Ny.out] at ho;obtain ⟨Av,cv,rfl⟩:=Kd.R_slice ho;have hbr:w17.heap[g]?=some (.cells #[.slice Au l3.length cu] 25 (0,0)):=blk_grown BKr.out hg (Kd.R_ne HO.out BKr.out (by decide));have hcr:w17.cell? ⟨g,0,none⟩=some (.slice Au l3.length cu):=(blk_cell hbr 0).trans rfl;have hfr:=blk_frozen hbr 0))
   go_ret
   exact ⟨rfl,_,blk_put (cs:=#[.slice Au l3.length cu]) hbr 0 _ rfl,Kd.R_mono (Kd.R_far (p:=⟨g,0,none⟩) (Kd.R_types ho hbr (by decide)) (fun _ hk=>hk.2) _) (fun _ _=>trivial),(HK.out.trans (KpR.grown hg (fun k e=>⟨Kd.R_base HO.out k e,Kd.R_typed HO.out k e⟩))).trans (KpR.set _ hge.out _ _)⟩
  ·have c10b0:decide (0≤t46)=false:=decide_eq_false c10;clear c10
   (first|rw [c10b0]|(simp only [i64_w,i32_w];rw [c10b0])|skip)
   rcases ife H with ⟨c11b0,c11b1,H⟩|⟨c11,c11b0,c11b1,H⟩
   ·simp only [Option.some.injEq,Prod.mk.injEq] at H;obtain ⟨rfl,rfl⟩:=H
    go_wp2
    go_ret
    exact ⟨rfl,_,BKr.out,HO.out,HK.out⟩
   ·have c11b2:¬ (l1=[]):=fun h_=>c11 (by rw [h_];rfl)
    have hpos:0<(l1.length:Int):=by omega
    obtain ⟨c16,H⟩:=if1 H;have LMc16:=zA c16;clear c16 c11;replace H:=Option.bind_eq_some_iff.mp H;obtain ⟨⟨t52,t57⟩,A63,H⟩:=H;have A18:=zA A63;clear A63;replace H:=Option.bind_eq_some_iff.mp H;obtain ⟨⟨q_,qb⟩,A58,H⟩:=H
    obtain ⟨ji,hji⟩:∃ j_:Int,wrap64 ((l3.length:Int)+1)=j_:=⟨_,rfl⟩
    obtain ⟨y_,hy_⟩:∃ y:List (S55),y=l3++[(⟨rd l1 0,ji,0,0⟩:S55)]:=⟨_,rfl⟩
    obtain ⟨lt_,hlt_⟩:∃ t_:List Int,t_=l1.drop 1:=⟨_,rfl⟩
    rw [hji,← hy_,← hlt_] at A58;simp only [← hlt_] at H;have hjiw:(IntKind.i64.wrap ((l3.length:Int)+1))=ji:=(i64_w _).trans hji;have A19:=zA A58;clear A58;have Ny:=zA hy_;clear hy_;have HC12:=zA H;clear H
    have p37:0≤(0:Int):=by omega
    obtain ⟨ad37,e37,hx37_0⟩:=Kd.at_int (HV.out w9.drew (HK1.out.trans (HK.out.trans (KpR.below (below_drew1 (Below.refl _ _)))))) 0 p37 hpos
    cases e37
    (try rw [show ((0:Int)).toNat=0 from rfl] at hx37_0);(try rw [Addr.add_zero'] at hx37_0);obtain ⟨i56,hi56,_,hsz23,_⟩:=info_parts info3;obtain ⟨A23,hcut23,hA23,hC23⟩:=print_drop_of (P:=Try.prog) (Value.int .i64) 0 33 3 .i64 Try.underlying33 hi56 hsz23 (some ad37) c1 l1 1 (by omega) (by omega) HC1.out;rw [show (1:Int).toNat=1 from rfl,← hlt_] at hcut23 hA23 hC23;have HV51:=zA (fun W' hk_=>Kd.C_of_reads (h1:=fun _=>rfl) (hA23 _ (Kd.reads_of_C (HV.out W' hk_))));have HC51:=zA hC23;have HLT:=zA hlt_;clear hA23 hC23 hi56 hsz23 hlt_;have qi37:(0<l1.length)=True:=eq_true (by omega);have qj37:((0:Int)<(l1.length:Int))=True:=eq_true hpos
    go_wp2
    replace BKr:=zA (blk_drew BKr.out);replace BKc:=zA (blk_drew BKc.out);replace HO:=zA (Kd.R_drew HO.out);replace HK:=zA (HK.out.trans (KpR.below (below_drew1 (Below.refl _ _))));clear hcr hfr hc0 hc1 hf0 hf1;refine start_ (n:=16) (S:=fun w'=>w'.cell? ⟨g,0,none⟩=some (.slice Au l3.length cu)∧w'.cell? ad37=some (.int .i64 (rd l1 0))) (ds:=[15]) (bz 16 0) zK rfl rfl ⟨zc0 BKr,hx37_0⟩ (fun hHeld=>?_);refine with_tabW solve_split.tab10 solve_split.bits10 (fun HT_ HW_=>?_)
    generalize w9.drew=w10 at BKr BKc HO HK hx37_0 hHeld ⊢
    refine zP 0 37 (bz 16 1) HT_ ?_;refine zP 1 38 (bz 16 3) HT_ ?_;refine zP 2 39 (bz 16 7) HT_ ?_;refine zP 3 40 (bz 16 15) HT_ ?_;refine zP 5 42 (bz 16 47) HT_ ?_;refine zP 6 43 (bz 16 111) HT_ ?_;refine zP 8 45 (bz 16 367) HT_ ?_;refine zP 9 46 (bz 16 879) HT_ ?_;refine zQ 4 41 (bz 16 895) HT_ HW_ hHeld ?_;refine zQ 7 44 (bz 16 1023) HT_ HW_ hHeld ?_;refine zP 10 47 (bz 16 2047) HT_ ?_;refine one_ (i:=11) (N:=some 48) (bz 16 4095) rfl rfl (one_of HT_.out zK) (by decide) (fun K hK=>?_);refine value_ (w1:=?_) (v:=?_) (by rfl) rfl ?_ ?_;rotate_left 2
    ·go_simp
     constructor
     ·rfl
     ·rfl
    refine hK.out _ _ ⟨(blk_cell (blk_alloc BKr.out _) 0).trans rfl,(cell_alloc_ hx37_0)⟩ (fun hHeld=>?_);clear hK K;refine norm_ (a':=?_) ?_ ?_;rotate_left
    ·show Act.put _ (some 48) _=_
     simp only [Act.put,zi,zs,zt,i64_w,i32_w];rfl
    refine one_ (i:=12) (N:=some 49) (bz 16 8191) rfl rfl (one_of HT_.out zK) (by decide) (fun K hK=>?_);refine Kd.R_append_step k55 (w0:=w10) n0 (by rfl) (.tmp 41) (.tmp 48) 23 55 (.agg #[(.int .i64 0),(.int .i64 0),(.int .i64 0),(.int .i64 0)]) 32 rfl Try.underlying23 info55 rfl (by decide) (by omega) (.slice Au l3.length cu) l3 (⟨rd l1 0,ji,0,0⟩:S55) [.int .i64 (rd l1 0),.int .i64 ji,.int .i64 0,.int .i64 0] (fun _=>True) (fun _=>False) rfl rfl ?aP (fun _ hk=>hk.elim) ?aF ?aO ?aB ?aS ?aL ?_;(case aP=>exact k55_mkM _ _ _ (⟨rd l1 0,ji,0,0⟩:S55));(case aF=>exact fun _ _=>trivial);(case aB=>first|exact Below.refl n0 w10|exact (Below.refl n0 w10).alloc (Nat.le_trans HN.out HK.out.1) _);(case aO=>exact (by refine zr ?_;exact HO.out));(case aS=>first|exact Nat.le_trans HN.out HK.out.1|exact Nat.le_trans (Nat.le_trans HN.out HK.out.1) (by rw [World.size_alloc];omega));(case aL=>have:=LMc16.out;omega);intro v70 w11 ho hb hg hat;rw [← Ny.out] at ho;obtain ⟨Av,cv,rfl⟩:=Kd.R_slice ho;replace BKr:=zA (blk_grown BKr.out hg (Kd.R_ne HO.out BKr.out (by decide)));replace BKc:=zA (blk_grown BKc.out hg (Kd.R_ne HO.out BKc.out (by decide)));replace HK:=zA (HK.out.trans (KpR.grown hg (fun k e=>⟨Kd.R_base HO.out k e,Kd.R_typed HO.out k e⟩)));replace HO:=zA ho;clear ho hb hg hat hx37_0;obtain ⟨adx,ex,hx37_0⟩:=Kd.at_int (HV.out w11 (HK1.out.trans HK.out)) 0 p37 hpos
    cases ex
    (try rw [show ((0:Int)).toNat=0 from rfl] at hx37_0);(try rw [Addr.add_zero'] at hx37_0);refine hK.out _ _ ⟨zc0 BKr,hx37_0⟩ (fun hHeld=>?_);clear hK K;refine norm_ (a':=?_) ?_ ?_;rotate_left
    ·show Act.put _ (some 49) _=_
     simp only [Act.put,zi,zs,zt,i64_w,i32_w];rfl
    refine zP 13 50 (bz 16 16383) HT_ ?_;refine zP 14 51 (bz 16 32767) HT_ ?_;refine last_ (i:=15) (N:=none) (bz 16 65535) rfl rfl (one_of HT_.out zK) (by decide) (fun K hK=>?_);have hs38:w11.cell? ⟨g,0,none⟩=some (.slice Au l3.length cu):=zc0 BKr;have hfs38:=blk_frozen BKr.out 0;refine skip_ (w1:=?_) (by rfl) rfl ?_ ?_;rotate_left
    ·go_simp
     rfl
    refine hK.out _ _ ?_;clear hK K;clear hs38 hfs38 hHeld;refine done_ (done_of HT_.out zK) ?_;have n0_:=zA (blk_put (cs:=#[.slice Au l3.length cu]) BKr.out 0 (.slice Av y_.length cv) rfl);have n1_:=zA (blk_far BKc.out NE.out (.slice Av y_.length cv) (p:=⟨g,0,none⟩));have n2_:=zA (Kd.R_mono (ok':=fun _=>True) (Kd.R_far (p:=⟨g,0,none⟩) (Kd.R_types HO.out BKr.out (by decide)) (fun _ hk=>hk.2) (.slice Av y_.length cv)) (fun _ _=>trivial));have n3_:=zA (HK.out.trans (KpR.set _ hge.out 0 (.slice Av y_.length cv)));clear BKr BKc HO HK hx37_0
    generalize w11.setCell ⟨g,0,none⟩ (.slice Av y_.length cv)=w12 at n0_ n1_ n2_ n3_ ⊢
    have BKr:=n0_;have BKc:=n1_;have HO:=n2_;have HK:=n3_;clear n0_ n1_ n2_ n3_
    go_wp2
    replace BKr:=zA (blk_drew BKr.out);replace BKc:=zA (blk_drew BKc.out);replace HO:=zA (Kd.R_drew HO.out);replace HK:=zA (HK.out.trans (KpR.below (below_drew1 (Below.refl _ _))));obtain ⟨adx,ex,hx37_0⟩:=Kd.at_int (HV.out _ (HK1.out.trans HK.out)) 0 p37 hpos
    cases ex
    (try rw [show ((0:Int)).toNat=0 from rfl] at hx37_0);(try rw [Addr.add_zero'] at hx37_0);refine start_ (n:=11) (S:=fun w'=>w'.cell? ⟨gb,0,none⟩=some (.int .i64 a2_0)∧w'.cell? ⟨gb,1,none⟩=some (.int .i64 a2_1)∧w'.cell? ad37=some (.int .i64 (rd l1 0))) (ds:=[]) (bz 11 0) zK rfl rfl ⟨zc0 BKc,zc1 BKc,hx37_0⟩ (fun hHeld=>?_);refine with_tabW solve_split.tab11 solve_split.bits11 (fun HT_ HW_=>?_)
    generalize w12.drew=w13 at BKr BKc HO HK hx37_0 hHeld ⊢
    refine zP 0 52 (bz 11 1) HT_ ?_;refine zP 1 53 (bz 11 3) HT_ ?_;refine zP 2 54 (bz 11 7) HT_ ?_;refine zP 4 56 (bz 11 23) HT_ ?_;refine zP 5 57 (bz 11 55) HT_ ?_;refine zP 8 60 (bz 11 311) HT_ ?_;refine zQ 3 55 (bz 11 319) HT_ HW_ hHeld ?_;refine zQ 6 58 (bz 11 383) HT_ HW_ hHeld ?_;refine one_ (i:=7) (N:=some 59) (bz 11 511) rfl rfl (one_of HT_.out zK) (by decide) (fun K hK=>?_);refine goes_ Try.func27 zK rfl #[.agg #[.int .i64 a2_0,.int .i64 a2_1],.int .i64 (rd l1 0),.int .i64 0] (by rfl) rfl rfl zM ?_
    with_reducible refine (solve_choices_with.calls a2_0 a2_1 (rd l1 0) 0 t52 t57 _ A18.out).mono ?_
    rintro e w14 ⟨rfl,hb⟩;refine ⟨_,rfl,?_⟩;replace BKr:=zA (blk_below BKr.out hb);replace BKc:=zA (blk_below BKc.out hb);replace HO:=zA (Kd.R_below HO.out hb);replace HK:=zA (HK.out.trans (KpR.below (n0:=n0) (g:=g) hb));clear hb hx37_0;obtain ⟨adx,ex,hx37_0⟩:=Kd.at_int (HV.out _ (HK1.out.trans HK.out)) 0 p37 hpos
    cases ex
    (try rw [show ((0:Int)).toNat=0 from rfl] at hx37_0);(try rw [Addr.add_zero'] at hx37_0);refine hK.out _ _ ⟨zc0 BKc,zc1 BKc,hx37_0⟩ (fun hHeld=>?_);clear hK K;refine norm_ (a':=?_) ?_ ?_;rotate_left
    ·show Act.put _ (some 59) _=_
     simp only [Act.put,zi,zs,zt,i64_w,i32_w];rfl
    refine one_ (i:=9) (N:=some 61) (bz 11 1023) rfl rfl (one_of HT_.out zK) (by decide) (fun K hK=>?_);refine goes_ Try.func25 zK rfl #[.slice A0 l0.length c0,.slice A23 lt_.length (c1 - 1),.agg #[.int .i64 t52,.int .i64 t57],.pointer (some ⟨g,0,none⟩)] (by rfl) rfl rfl zM ?_
    with_reducible refine (IH.out k (by omega) A23 (c1 - 1) lt_ t52 t57 y_ (.slice Av y_.length cv) q_ qb _ ?side1 ?side2 ?side3 ?side4 ?side5 ?side6 A19.out).mono ?_
    (case side1=>exact HK1.out.trans HK.out);(case side2=>exact Nat.le_trans HN.out HK.out.1);(case side3=>exact HV51.out);(case side4=>exact HC51.out);(case side5=>exact BKr.out);(case side6=>exact HO.out);rintro e w15 ⟨rfl,u_,hbr,hor,hkk⟩;refine ⟨_,rfl,?_⟩;obtain ⟨Aq,cq,rfl⟩:=Kd.R_slice hor;replace BKr:=zA hbr;replace BKc:=zA (KpR.blk hkk BKc.out NE.out (by decide));replace HO:=zA hor;replace HK:=zA (HK.out.trans hkk);clear hbr hor hkk hx37_0;obtain ⟨adx,ex,hx37_0⟩:=Kd.at_int (HV.out _ (HK1.out.trans HK.out)) 0 p37 hpos
    cases ex
    (try rw [show ((0:Int)).toNat=0 from rfl] at hx37_0);(try rw [Addr.add_zero'] at hx37_0);refine hK.out _ _ ⟨zc0 BKc,zc1 BKc,hx37_0⟩ (fun hHeld=>?_);clear hK K;refine norm_ (a':=?_) ?_ ?_;rotate_left
    ·show Act.put _ (some 61) _=_
     simp only [Act.put,zi,zs,zt,i64_w,i32_w];rfl
    refine zP 10 62 (bz 11 2047) HT_ ?_;refine done_ (done_of HT_.out zK) ?_;have H:=HC12.out;clear HC12
    cases qb with
    | false=>
     simp only [Bool.false_eq_true,if_false,Option.some.injEq,Prod.mk.injEq] at H;obtain ⟨rfl,rfl⟩:=H
     go_wp2
     go_ret
     exact ⟨rfl,_,BKr.out,HO.out,HK.out⟩
    | true=>
     simp only [if_true] at H
     by_cases c30:(l3.length:Int)<(q_.length:Int)
     rotate_left
     ·rw [if_neg c30] at H;exact absurd H (by simp)
     rw [if_pos c30] at H;replace H:=Option.bind_eq_some_iff.mp H;obtain ⟨⟨t53,t59⟩,A65,H⟩:=H;have A21:=zA A65;clear A65
     obtain ⟨z_,hz_⟩:∃ y:List (S55),y=q_.set l3.length (⟨(rd_T55 q_ (l3.length:Int)).f0,(rd_T55 q_ (l3.length:Int)).f1,(q_.length:Int),(rd_T55 q_ (l3.length:Int)).f3⟩:S55):=⟨_,rfl⟩
     simp only [← hz_] at H;have A22:=zA H;have Nz:=zA hz_;clear H hz_
     have p25:0≤(l3.length:Int):=by omega
     have c30b0:decide ((l3.length:Int)<(q_.length:Int))=true:=decide_eq_true c30
     go_wp2
     replace BKr:=zA (blk_drew BKr.out);replace BKc:=zA (blk_drew BKc.out);replace HO:=zA (Kd.R_drew HO.out);replace HK:=zA (HK.out.trans (KpR.below (below_drew1 (Below.refl _ _))));obtain ⟨go25,co25,eo25,gb25,gl25,cl25,HG25⟩:=Kd.R_form HO.out (by omega)
     (first|cases eo25|(injection eo25 with ea_ en_ ec_;(first|subst ea_|(injection ea_ with ea_;subst ea_));subst ec_;clear en_))
     clear gb25 gl25 HG25;obtain ⟨ce36,hcl36,hM36,hcc36,hfr36⟩:=Kd.R_elem HO.out z55 (l3.length:Int) p25 c30;obtain rfl:=k55_openM hM36;have HP36:=Kd.R_seg HO.out (l3.length:Int) p25 c30 (seg:=[.int .i64 (q_.length:Int)]) (j:=2) hcl36 hcc36 (show 3≤4 from by decide) (x':=(⟨(rd_T55 q_ (l3.length:Int)).f0,(rd_T55 q_ (l3.length:Int)).f1,(q_.length:Int),(rd_T55 q_ (l3.length:Int)).f3⟩:S55)) (k55_mkM _ _ _ (⟨(rd_T55 q_ (l3.length:Int)).f0,(rd_T55 q_ (l3.length:Int)).f1,(q_.length:Int),(rd_T55 q_ (l3.length:Int)).f3⟩:S55)) (fun _ hk=>hk);have hx36_2:=hcc36 2 _ rfl;(try simp only [show (k55).sz=4 from rfl,Nat.mul_one,Nat.add_zero,Int.toNat_natCast] at hx36_2);have hf36_2:=hfr36 2;(try simp only [show (k55).sz=4 from rfl,Nat.mul_one,Nat.add_zero,Int.toNat_natCast] at hf36_2);clear hcl36 hcc36 hfr36 hM36;simp only [show (k55).sz=4 from rfl,Int.toNat_natCast] at HP36;have HPP:=zA HP36;clear HP36;have p25b:=eq_true p25;have q25b:=eq_true c30;have q25n:(l3.length<q_.length)=True:=eq_true (by omega);refine start_ (n:=13) (S:=fun w'=>w'.cell? ⟨g,0,none⟩=some (.slice (some ⟨go25,0,none⟩) q_.length cq)) (ds:=[12]) (bz 13 0) zK rfl rfl (zc0 BKr) (fun hHeld=>?_);refine with_tabW solve_split.tab13 solve_split.bits13 (fun HT_ HW_=>?_)
     generalize w15.drew=w16 at BKr BKc HO HK HPP hx36_2 hf36_2 hHeld ⊢
     refine zP 0 63 (bz 13 1) HT_ ?_;refine zP 1 64 (bz 13 3) HT_ ?_;refine zP 2 65 (bz 13 7) HT_ ?_;refine zP 4 67 (bz 13 23) HT_ ?_;refine zP 5 68 (bz 13 55) HT_ ?_;refine zP 6 69 (bz 13 119) HT_ ?_;refine zP 7 70 (bz 13 247) HT_ ?_;refine take_ (i:=3) (N:=some 66) (v:=?_) (a':=?_) (bz 13 255) rfl rfl (take_ofW HT_.out HW_.out zK) (fun _ _ _ h=>h) (Or.inl ⟨by rfl,?_⟩) hHeld ?_ ?_;rotate_left
     ·rintro w' s0
      go_simp
      with_reducible rfl
     rotate_left
     ·simp only [Act.put,zi,zs,zt,i64_w,i32_w];rfl
     refine take_ (i:=8) (N:=some 71) (v:=?_) (a':=?_) (bz 13 511) rfl rfl (take_ofW HT_.out HW_.out zK) (fun _ _ _ h=>h) (Or.inl ⟨by rfl,?_⟩) hHeld ?_ ?_;rotate_left
     ·rintro w' s0
      go_simp
      with_reducible rfl
     rotate_left
     ·simp only [Act.put,zi,zs,zt,i64_w,i32_w];rfl
     refine zP 9 72 (bz 13 1023) HT_ ?_;refine zP 10 73 (bz 13 2047) HT_ ?_;refine zP 11 74 (bz 13 4095) HT_ ?_;refine last_ (i:=12) (N:=none) (bz 13 8191) rfl rfl (one_of HT_.out zK) (by decide) (fun K hK=>?_);refine skip_ (w1:=?_) (by rfl) rfl ?_ ?_;rotate_left
     ·go_simp
      rfl
     refine hK.out _ _ ?_;clear hK K;clear hHeld;refine done_ (done_of HT_.out zK) ?_;have hgw:w16.grownBy (w16.setCell ⟨go25,l3.length * 4+2,none⟩ (.int .i64 (q_.length:Int))) (some go25):=HPP.out.2
     have hzl:z_.length=q_.length:=by rw [Nz.out,List.length_set]
     have n0_:=zA (blk_grown BKr.out hgw (Kd.R_ne HO.out BKr.out (by decide)));have n1_:=zA (blk_grown BKc.out hgw (Kd.R_ne HO.out BKc.out (by decide)))
     have n2_:Aside0 (Kd.R k55 55 (w16.setCell ⟨go25,l3.length * 4+2,none⟩ (.int .i64 (q_.length:Int))) n0 (fun _=>True) (.slice (some ⟨go25,0,none⟩) q_.length cq) z_):=⟨by rw [Nz.out];exact HPP.out.1⟩
     have n3_:=zA (HK.out.trans (KpR.grown hgw (fun k e=>by cases e;exact ⟨Kd.R_base HO.out go25 rfl,Kd.R_typed HO.out go25 rfl⟩)));clear BKr BKc HO HK HPP hgw hx36_2 hf36_2
     generalize w16.setCell ⟨go25,l3.length * 4+2,none⟩ (.int .i64 (q_.length:Int))=w17 at n0_ n1_ n2_ n3_ ⊢
     rw [← hzl] at n0_ n2_;have BKr:=n0_;have BKc:=n1_;have HO:=n2_;have HK:=n3_;clear n0_ n1_ n2_ n3_
     go_wp2
     replace BKr:=zA (blk_drew BKr.out);replace BKc:=zA (blk_drew BKc.out);replace HO:=zA (Kd.R_drew HO.out);replace HK:=zA (HK.out.trans (KpR.below (below_drew1 (Below.refl _ _))));obtain ⟨adx,ex,hx37_0⟩:=Kd.at_int (HV.out _ (HK1.out.trans HK.out)) 0 p37 hpos
     cases ex
     (try rw [show ((0:Int)).toNat=0 from rfl] at hx37_0);(try rw [Addr.add_zero'] at hx37_0);refine start_ (n:=11) (S:=fun w'=>w'.cell? ⟨gb,0,none⟩=some (.int .i64 a2_0)∧w'.cell? ⟨gb,1,none⟩=some (.int .i64 a2_1)∧w'.cell? ad37=some (.int .i64 (rd l1 0))) (ds:=[]) (bz 11 0) zK rfl rfl ⟨zc0 BKc,zc1 BKc,hx37_0⟩ (fun hHeld=>?_);refine with_tabW solve_split.tab14 solve_split.bits14 (fun HT_ HW_=>?_)
     generalize w17.drew=w18 at BKr BKc HO HK hx37_0 hHeld ⊢
     refine zP 0 75 (bz 11 1) HT_ ?_;refine zP 1 76 (bz 11 3) HT_ ?_;refine zP 2 77 (bz 11 7) HT_ ?_;refine zP 4 79 (bz 11 23) HT_ ?_;refine zP 5 80 (bz 11 55) HT_ ?_;refine zP 8 83 (bz 11 311) HT_ ?_;refine zQ 3 78 (bz 11 319) HT_ HW_ hHeld ?_;refine zQ 6 81 (bz 11 383) HT_ HW_ hHeld ?_;refine one_ (i:=7) (N:=some 82) (bz 11 511) rfl rfl (one_of HT_.out zK) (by decide) (fun K hK=>?_);refine goes_ Try.func27 zK rfl #[.agg #[.int .i64 a2_0,.int .i64 a2_1],.int .i64 (rd l1 0),.int .i64 1] (by rfl) rfl rfl zM ?_
     with_reducible refine (solve_choices_with.calls a2_0 a2_1 (rd l1 0) 1 t53 t59 _ A21.out).mono ?_
     rintro e w19 ⟨rfl,hb⟩;refine ⟨_,rfl,?_⟩;replace BKr:=zA (blk_below BKr.out hb);replace BKc:=zA (blk_below BKc.out hb);replace HO:=zA (Kd.R_below HO.out hb);replace HK:=zA (HK.out.trans (KpR.below (n0:=n0) (g:=g) hb));clear hb hx37_0;obtain ⟨adx,ex,hx37_0⟩:=Kd.at_int (HV.out _ (HK1.out.trans HK.out)) 0 p37 hpos
     cases ex
     (try rw [show ((0:Int)).toNat=0 from rfl] at hx37_0);(try rw [Addr.add_zero'] at hx37_0);refine hK.out _ _ ⟨zc0 BKc,zc1 BKc,hx37_0⟩ (fun hHeld=>?_);clear hK K;refine norm_ (a':=?_) ?_ ?_;rotate_left
     ·show Act.put _ (some 82) _=_
      simp only [Act.put,zi,zs,zt,i64_w,i32_w];rfl
     refine one_ (i:=9) (N:=some 84) (bz 11 1023) rfl rfl (one_of HT_.out zK) (by decide) (fun K hK=>?_);refine goes_ Try.func25 zK rfl #[.slice A0 l0.length c0,.slice A23 lt_.length (c1 - 1),.agg #[.int .i64 t53,.int .i64 t59],.pointer (some ⟨g,0,none⟩)] (by rfl) rfl rfl zM ?_
     with_reducible refine (IH.out k (by omega) A23 (c1 - 1) lt_ t53 t59 z_ (.slice (some ⟨go25,0,none⟩) z_.length cq) r b _ ?side1 ?side2 ?side3 ?side4 ?side5 ?side6 A22.out).mono ?_
     (case side1=>exact HK1.out.trans HK.out);(case side2=>exact Nat.le_trans HN.out HK.out.1);(case side3=>exact HV51.out);(case side4=>exact HC51.out);(case side5=>exact BKr.out);(case side6=>exact HO.out);rintro e w20 ⟨rfl,u_,hbr,hor,hkk⟩;refine ⟨_,rfl,?_⟩;obtain ⟨Aq,cq,rfl⟩:=Kd.R_slice hor;replace BKr:=zA hbr;replace BKc:=zA (KpR.blk hkk BKc.out NE.out (by decide));replace HO:=zA hor;replace HK:=zA (HK.out.trans hkk);clear hbr hor hkk hx37_0;obtain ⟨adx,ex,hx37_0⟩:=Kd.at_int (HV.out _ (HK1.out.trans HK.out)) 0 p37 hpos
     cases ex
     (try rw [show ((0:Int)).toNat=0 from rfl] at hx37_0);(try rw [Addr.add_zero'] at hx37_0);refine hK.out _ _ ⟨zc0 BKc,zc1 BKc,hx37_0⟩ (fun hHeld=>?_);clear hK K;refine norm_ (a':=?_) ?_ ?_;rotate_left
     ·show Act.put _ (some 84) _=_
      simp only [Act.put,zi,zs,zt,i64_w,i32_w];rfl
     refine zP 10 8 (bz 11 2047) HT_ ?_;refine done_ (done_of HT_.out zK) ?_
     go_wp2
     go_ret
     exact ⟨rfl,_,BKr.out,HO.out,HK.out⟩
/-- What Refute says,no solution being there. -/
def solve_Refute.of (q:List (S55)×Bool):List (S55)×Int:=if q.2=true then (q.1,0) else ([],3)
def solve_Refute.f (k:Nat) (l0:List (S35)):Option ((List (S55))×Int):=(solve_valid.f k l0).bind fun t45=>(if t45=0 then ((solve_occurring.f k l0).bind fun t44=>((solve_search.f k l0 t44 0 0).bind fun s=>(if (s.length:Int)=0 then ((solve_split.f k l0 t44 0 0 []).bind fun q=>some (solve_Refute.of q)) else (some (([]:List (S55)),11))))) else (some (([]:List (S55)),t45)))
section
attribute [local go_sem] Oper.semAt_some
set_option maxHeartbeats 8000000 in
set_option maxRecDepth 100000 in
theorem solve_Refute.calls (k:Nat) (A0:Option Addr) (c0:Nat) (l0:List (S35)) (r1:List (S55)) (r2:Int) (w:World) (hr0:Kd.C k35 w A0 l0.length l0) (hc0:l0.length≤c0) (h:solve_Refute.f k l0=some (r1,r2)) :
  Calls Try.prog 10 #[.slice A0 l0.length c0] w fun e w'=>∃ v0_:Value,e=.returned (.tuple #[.agg #[v0_],.int .i64 r2])∧Kd.R k55 55 w' w.heap.size (fun _=>True) v0_ r1∧Below w.heap.size w w':=by
 have HR0:=zA hr0;have HC0:=zA hc0;clear hr0 hc0;have HB:=zA (Below.refl w.heap.size w);have H:((solve_valid.f k l0).bind fun t45=>(if t45=0 then ((solve_occurring.f k l0).bind fun t44=>((solve_search.f k l0 t44 0 0).bind fun s=>(if (s.length:Int)=0 then ((solve_split.f k l0 t44 0 0 []).bind fun q=>some (solve_Refute.of q)) else (some (([]:List (S55)),11))))) else (some (([]:List (S55)),t45))))=some (r1,r2):=h;clear h;obtain ⟨t45,A2,H⟩:=zo H;have HC3:=zA H;clear H;refine (callsIn_wide (n:=5)).1 ?_;refine callsIn_of_wp_marks Try.func10 rfl trivial ?_ rfl;simp only [Try.ntmps10,List.size_toArray,List.length_cons,List.length_nil,Nat.reduceAdd,Nat.reduceSub,Array.replicate_succ,Array.replicate_zero,List.push_toArray,List.append_toArray,List.nil_append,List.cons_append];refine wpIn_wide.2 ?_
 go_upto_if 10 with (first|((with_reducible refine gd 2 rfl ?_);refine zx #[.slice none 0 0] 25 ?_;intro gb31 hg w4 BK31 hb GW31 HB1;have GE31:=GW31;clear HB hb hg;have HB:=HB1;clear HB1)|((with_reducible refine gd 3 rfl ?_);refine zx #[.int .i64 0] 28 ?_;intro gb34 hg w5 BK34 hb GW34 HB1;have GE34:=GW34;have NB31_34:=zL hg BK31;have NB34_31:=zLs NB31_34;replace BK31:=zw BK31 hb;clear HB hb hg;have HB:=HB1;clear HB1)|((with_reducible refine gate_callee (f:=15) rfl ?_);refine zgo 8 Try.func15 #[.slice A0 l0.length c0] ?_;(with_reducible refine (solve_valid.calls k _ _ l0 t45 _ (zD HR0 HB) HC0.out A2.out).mono ?_);rintro e w6 ⟨rfl,hb⟩;refine ⟨_,rfl,?_⟩;replace BK31:=zw BK31 hb;replace BK34:=zw BK34 hb;replace HB:=zu hb;clear hb))
 (try simp only [Act.put,zi,zs,zt]);have H:=HC3.out;clear HC3
 rcases ife H with ⟨c7b0,c7b1,H⟩|⟨c7,c7b0,c7b1,H⟩
 ·(first|rw [c7b0]|(simp only [i64_w,i32_w];rw [c7b0])|skip)
  (try rw [c7b1]);obtain ⟨t44,A8,H⟩:=zo H;replace H:=Option.bind_eq_some_iff.mp H;obtain ⟨s_,AS0,H⟩:=H;have AS:=zA AS0;clear AS0;have HFS:=zA H;clear H;have HLT31:=zA (blk_lt BK31.out);have HLT34:=zA (blk_lt BK34.out)
  go_wp2_with (first
   | ((with_reducible refine gate_callee (f:=23) rfl ?_);refine zgo 14 Try.func23 #[.slice A0 l0.length c0] ?_;(with_reducible refine (solve_occurring.calls k _ _ l0 t44 _ (zD HR0 HB) HC0.out A8.out).mono ?_);rintro e w9 ⟨v43,rfl,ho0,hb⟩;refine ⟨_,rfl,?_⟩;have hn6:=zA hb.size;have HO47:=zA ho0;have HS6:=zA (below_size HB.out);replace BK31:=zw BK31 hb;replace BK34:=zw BK34 hb;replace HB:=zu hb;clear hb ho0;obtain ⟨A43,c43,e43⟩:=Kd.R_slice HO47.out;subst e43))
  refine (solve_solutions.in_ A0 l0.length c0 A43 t44.length c43 0 0 _).mono ?_;rintro e w10 ⟨g0,g1,g2,rfl,hg0,hg1,hs0,hs1,hs2,hb⟩;have n0_:=zA (Kd.R_below HO47.out hb);have n1_:=zA (zb BK31 hb);have n2_:=zA (zb BK34 hb);have n3_:=zA (below_step zB hb);have hn9:=zA hb.size;have hc43:=zA (Kd.R_reads' HO47.out).2.1;clear BK31 BK34 HB HO47 hb hg0 hg1;have HO47:=n0_;have BK31:=n1_;have BK34:=n2_;have HB:=n3_;clear n0_ n1_ n2_ n3_
  go_wp2
  have h67:w6.heap.size≤w10.heap.size:=Nat.le_trans hn6.out hn9.out
  have hL:∀ W',KpS w.heap.size w6.heap.size w10.heap.size w10 W'→Kd.C k35 W' A0 l0.length l0:=fun W' hk=>Kd.C_kept_came k35_heap HR0.out HB.out (fun k hk=>hk.1) W' hk.kept
  have hV:∀ W',KpS w.heap.size w6.heap.size w10.heap.size w10 W'→Kd.C (Kd.int .i64) W' A43 t44.length t44:=fun W' hk=>Kd.C_kept_own (Kd.R_bound HO47.out) (fun k hk hs=>by have h_:=HS6.out;obtain ⟨_,h1,h2,_⟩:=hk;omega) W' hk.kept
  refine (wpIn_wide (n:=5)).1 ?_;refine wpIn_rangeFunc_ownF (n:=5) rfl (by omega) (gf:=38) (lb:=#[.pointer (some ⟨g0,0,none⟩),.pointer (some ⟨g1,0,none⟩),.pointer (some ⟨g2,0,none⟩)]) rfl trivial (enters_of Try.func38 zK rfl)
   (solve_solutions_stops w.heap.size w6.heap.size w10.heap.size A0 c0 l0 HC0.out A43 c43 t44 hc43.out 0 0 g0 g1 g2 k s_ w10 (Nat.le_refl _) hL hV AS.out hs0 hs1 hs2)
   KpS.trans (fun W l o o' hl h ho _=>KpS.put (Nat.le_trans HS6.out h67) W l o o' hl h ho) (Below.refl _ _) (fun _=>rfl)
   (fun (pre:List Int) (W:World)=>pre=[]∧W.heap[gb31]?=some (.cells #[.slice none 0 0] 25 (0,0))∧W.heap[gb34]?=some (.cells #[.int .i64 0] 28 (0,0))∧Kd.R (Kd.int .i64) 3 W w6.heap.size (fun _=>True) (.slice A43 t44.length c43) t44∧Below w.heap.size w W)
   (fun c pre W=>c=Code.ret∧(∃ x:Int,pre=[x])∧W.heap[gb31]?=some (.cells #[.slice none 0 0] 25 (0,0))∧W.heap[gb34]?=some (.cells #[.int .i64 11] 28 (0,0))∧Below w.heap.size w W)
   (fun s A B row hs hg hr=>by
    obtain ⟨h0,h1,h2,h4,h3⟩:=hs
    exact ⟨h0,blk_grown h1 hg (ne_row_ hr h1),blk_grown h2 hg (ne_row_ hr h2),Kd.R_mono (Kd.R_grown (Kd.R_bound h4) hg (fun k hk=>by obtain ⟨_,_,_,q,_,cs,hb⟩:=hk;exact ne_row_ hr hb)) (fun _ _=>trivial),h3.grown hg h3.size (fun k e=>Nat.le_trans HB.out.size (hr k e).1)⟩)
   (fun c s A B row hs hg hr=>by
    obtain ⟨e1,e2,h1,h2,h3⟩:=hs
    exact ⟨e1,e2,blk_grown h1 hg (ne_row_ hr h1),blk_grown h2 hg (ne_row_ hr h2),h3.grown hg h3.size (fun k e=>Nat.le_trans HB.out.size (hr k e).1)⟩)
   ⟨rfl,BK31.out,BK34.out,HO47.out,HB.out⟩
   (fun x=>{tmps:=#[.slice A0 l0.length c0,undef,.pointer (some ⟨gb31,0,none⟩),.pointer (some ⟨gb34,0,none⟩),.int .i64 t45,.slice A43 t44.length c43,undef,.slice A0 l0.length c0,.int .i64 t45,.int .i64 t45,.bool false,undef,undef,.slice A0 l0.length c0,.slice A43 t44.length c43,.slice A0 l0.length c0,.slice A43 t44.length c43,.agg #[.int .i64 0,.int .i64 0],.func (.func 38) #[] #[.pointer (some ⟨g0,0,none⟩),.pointer (some ⟨g1,0,none⟩),.pointer (some ⟨g2,0,none⟩)],.int .i64 x,undef,undef,undef,undef,undef,undef,undef,undef],defers:=[]}) ?assign ?body ?done ?stop
  case assign=>
   intro l x W K hK
   gi_wp2
   simpa using hK
  case body=>
   rintro l pre x W ⟨rfl,hb1,hb2,hRv,hbl⟩ _;have hcz0:W.cell? ⟨gb31,0,none⟩=some (.slice none 0 0):=(blk_cell hb1 0).trans rfl;have hfz0:=blk_frozen hb1 0;have hcz1:W.cell? ⟨gb34,0,none⟩=some (.int .i64 0):=(blk_cell hb2 0).trans rfl;have hfz1:=blk_frozen hb2 0;have hnb:=NB31_34.out;have hnc:=NB34_31.out
   gi_wp2
   have h2_:=two_set hb1 hb2 NB31_34.out (.slice none 0 0) (.int .i64 11);exact ⟨two_keep _ _ _ _ _,rfl,⟨x,rfl⟩,h2_.1,h2_.2,below_set (below_set hbl GE31.out) GE34.out⟩
  case done=>
   rintro D ys W hD hys ⟨rfl,hb1,hb2,hRv,hbl⟩ hK;subst hys;have H:=HFS.out;rw [if_pos (show (([]:List Int).length:Int)=0 from rfl)] at H;replace H:=Option.bind_eq_some_iff.mp H;obtain ⟨⟨q_,qb⟩,AQ0,H⟩:=H;have AQ:=zA AQ0;have HFQ:=zA (Option.some.inj H);have BK31:=zA hb1;have BK34:=zA hb2;have HKD:=zA hK;have HRV:=zA hRv;have HBL:=zA hbl;clear hK AQ0 H hb1 hb2 hRv hbl
   dsimp only
   go_wp2_with (first
    | ((with_reducible refine gate_dst (N:=6) rfl ?_);refine box_event ?hg (N:=6) ?hd (cs:=#[.slice none 0 0]) (t:=25) ?hr ?_;(case hd=>rfl);(case hg=>rfl);(case hr=>first|(go_simp;done)|(go_simp;rfl));intro gr hg w11 hbox hb;have BKR:=zA hbox;have GER:=zA (show w.heap.size≤gr by rw [hg];exact HBL.out.size);have ND:=zA (show D≠gr by rw [hg];exact Nat.ne_of_lt (Array.getElem?_eq_some_iff.1 HKD.out).1);have N31:=zA (show gb31≠gr by rw [hg];exact Nat.ne_of_lt (blk_lt BK31.out));have N34:=zA (show gb34≠gr by rw [hg];exact Nat.ne_of_lt (blk_lt BK34.out));replace BK31:=zA (blk_below BK31.out hb);replace BK34:=zA (blk_below BK34.out hb);replace HRV:=zA (Kd.R_below HRV.out hb);replace HBL:=zA (below_step HBL.out hb);replace HKD:=zA ((hb.block D (Array.getElem?_eq_some_iff.1 HKD.out).1).trans HKD.out);clear hbox hb hg))
   have hLs:∀ W',KpR w.heap.size gr w11 W'→Kd.C k35 W' A0 l0.length l0:=fun W' hk=>Kd.C_kept_came k35_heap HR0.out HBL.out (fun k hk=>hk.1) W' hk.kept
   have hVs:∀ W',KpR w.heap.size gr w11 W'→Kd.C (Kd.int .i64) W' A43 t44.length t44:=fun W' hk=>Kd.C_kept_own (Kd.R_bound HRV.out) (fun k hk hs=>by
    obtain ⟨_,_,_,q,hq,cs,hbk⟩:=hk;have hq':q∈([3]:List Nat):=hq
    have e3:q=3:=by simpa using hq'
    subst e3;obtain ⟨_,rfl|⟨cs',hc⟩⟩:=hs
    ·rw [BKR.out] at hbk;cases hbk
    ·rw [hc] at hbk;cases hbk) W' hk.kept
   have hcallS:=zA (solve_split.in_ w.heap.size gr GER.out w11 A0 c0 l0 HC0.out hLs k A43 c43 t44 0 0 [] (.slice none 0 0) q_ qb w11 (KpR.refl _) HBL.out.size hVs hc43.out BKR.out (Kd.R_nil _ _ _ _ _) AQ.out);refine hcallS.out.mono ?_;clear hcallS hLs hVs;rintro e w12 ⟨rfl,u_,hbr,hor,hkk⟩;have n0_:=zA (KpR.blk hkk BK31.out N31.out (by decide));have n1_:=zA (KpR.blk hkk BK34.out N34.out (by decide));have n4_:=zA (KpR.other hkk HKD.out ND.out rfl);have n3_:=zA (HBL.out.trans (KpR.belowN hkk HBL.out.size));clear BK31 BK34 HBL HKD HRV BKR hkk;have BK31:=n0_;have BK34:=n1_;have HBL:=n3_;have HKD:=n4_;have BKR:=zA hbr;have HOR:=zA hor;clear n0_ n1_ n3_ n4_ hbr hor;have hcz0:w12.cell? ⟨gb31,0,none⟩=some (.slice none 0 0):=zc0 BK31;have hfz0:=zf BK31 0;have hcz1:w12.cell? ⟨gb34,0,none⟩=some (.int .i64 0):=zc0 BK34;have hfz1:=zf BK34 0;have hcz2:w12.cell? ⟨gr,0,none⟩=some u_:=zc0 BKR;have hfz2:=blk_frozen BKR.out 0;have hnb:=NB31_34.out;have hnc:=NB34_31.out;have e_:=HFQ.out;obtain ⟨Ar,cr,rfl⟩:=Kd.R_slice HOR.out
   cases qb with
   | false=>
    simp only [solve_Refute.of,Bool.false_eq_true,if_false,Prod.mk.injEq] at e_;obtain ⟨rfl,rfl⟩:=e_
    go_wp2
    have h2_:=two_set BK31.out BK34.out NB31_34.out (.slice none 0 0) (.int .i64 3);have hKD:=(two_keep w12 gb31 gb34 (.slice none 0 0) (.int .i64 3)).same D _ HKD.out rfl;have hbl2:Below w.heap.size w ((w12.setCell ⟨gb31,0,none⟩ (.slice none 0 0)).setCell ⟨gb34,0,none⟩ (.int .i64 3)):=below_set (below_set HBL.out GE31.out) GE34.out;refine ⟨by simp,.inl ⟨_,_,rfl,run_takeDeferred hKD,?_⟩⟩;exact ⟨_,results_two rfl _ _ gb31 gb34 _ _ rfl rfl (run_loadVar_row _ _ 25 25 _ (0,0) _ (blk_deferred h2_.1 hKD _) Try.underlying25 rfl zK) (run_loadVar_one _ _ 28 28 _ (0,0) _ (blk_deferred h2_.2 hKD _) Try.underlying28 rfl),_,rfl,Kd.R_nil _ _ _ _ _,hbl2.grown (grownBy_putObj' _ D _) hbl2.size (fun k e=>by cases e;exact Nat.le_trans HB.out.size hD)⟩
   | true=>
    simp only [solve_Refute.of,if_true,Prod.mk.injEq] at e_;obtain ⟨rfl,rfl⟩:=e_
    go_wp2
    have h2_:=two_set BK31.out BK34.out NB31_34.out (.slice Ar q_.length cr) (.int .i64 0);have hKD:=(two_keep w12 gb31 gb34 (.slice Ar q_.length cr) (.int .i64 0)).same D _ HKD.out rfl;have hbl2:Below w.heap.size w ((w12.setCell ⟨gb31,0,none⟩ (.slice Ar q_.length cr)).setCell ⟨gb34,0,none⟩ (.int .i64 0)):=below_set (below_set HBL.out GE31.out) GE34.out
    have hR2:Kd.R k55 55 ((w12.setCell ⟨gb31,0,none⟩ (.slice Ar q_.length cr)).setCell ⟨gb34,0,none⟩ (.int .i64 0)) w.heap.size (fun _=>True) (.slice Ar q_.length cr) q_:=
     Kd.R_mono (Kd.R_far (p:=⟨gb34,0,none⟩) (Kd.R_far (p:=⟨gb31,0,none⟩) (Kd.R_types (Kd.R_types HOR.out BK31.out (by decide)) BK34.out (by decide)) (fun _ hk=>hk.1.2) _) (fun _ hk=>hk.2) _) (fun _ _=>trivial)
    refine ⟨by simp,.inl ⟨_,_,rfl,run_takeDeferred hKD,?_⟩⟩;refine ⟨_,results_two rfl _ _ gb31 gb34 _ _ rfl rfl (run_loadVar_row _ _ 25 25 _ (0,0) _ (blk_deferred h2_.1 hKD _) Try.underlying25 rfl zK) (run_loadVar_one _ _ 28 28 _ (0,0) _ (blk_deferred h2_.2 hKD _) Try.underlying28 rfl),_,rfl,?_,hbl2.grown (grownBy_putObj' _ D _) hbl2.size (fun k e=>by cases e;exact Nat.le_trans HB.out.size hD)⟩;exact Kd.R_mono (Kd.R_grown (Kd.R_bound hR2) (grownBy_putObj' _ D (.deferred none)) (fun k hk e=>by obtain ⟨_,_,_,q,_,cs,hb⟩:=hk;cases e;rw [hKD] at hb;cases hb)) (fun _ _=>trivial)
  case stop=>
   rintro D c pre W hD hSp ⟨rfl,⟨x,rfl⟩,hb1,hb2,hbl⟩ hK;refine wpIn_wide.2 ?_
   go_wp2
   obtain ⟨z_,rfl⟩:=hSp;have e_:=HFS.out;rw [if_neg (by simp;omega)] at e_;simp only [Option.some.injEq,Prod.mk.injEq] at e_;obtain ⟨rfl,rfl⟩:=e_;refine ⟨by simp,.inl ⟨_,_,rfl,run_takeDeferred hK,?_⟩⟩;exact ⟨_,results_two rfl _ _ gb31 gb34 _ _ rfl rfl (run_loadVar_row _ _ 25 25 _ (0,0) _ (blk_deferred hb1 hK _) Try.underlying25 rfl zK) (run_loadVar_one _ _ 28 28 _ (0,0) _ (blk_deferred hb2 hK _) Try.underlying28 rfl),_,rfl,Kd.R_nil _ _ _ _ _,hbl.grown (grownBy_putObj' _ D _) hbl.size (fun k e=>by cases e;exact Nat.le_trans HB.out.size hD)⟩
 ·(first|rw [c7b0]|(simp only [i64_w,i32_w];rw [c7b0])|skip)
  (try rw [c7b1]);simp only [Option.some.injEq,Prod.mk.injEq] at H;obtain ⟨rfl,rfl⟩:=H;have hnb13:=NB31_34.out;have hnc13:=NB34_31.out;have hcz14_0:=zc0 BK31;have hfz14_0:=zf BK31 0;have hcz15_0:=zc0 BK34;have hfz15_0:=zf BK34 0
  go_wp2
  have h2_:=two_set BK31.out BK34.out NB31_34.out (.slice none 0 0) (.int .i64 t45);exact ⟨_,results_two rfl _ _ gb31 gb34 _ _ rfl rfl (run_loadVar_row _ _ 25 25 _ (0,0) _ h2_.1 Try.underlying25 rfl zK) (run_loadVar_one _ _ 28 28 _ (0,0) _ h2_.2 Try.underlying28 rfl),_,rfl,Kd.R_nil _ _ _ _ _,below_set (below_set HB.out GE31.out) GE34.out⟩
end
/-- What First says of all solutions. -/
def solve_First.of:List Int→Int×Int
 | []=>(0,10)
 | x :: _=>(x,0)
def solve_First.f (k:Nat) (l0:List (S35)):Option (Int×Int):=(solve_valid.f k l0).bind fun t45=>(if t45=0 then ((solve_occurring.f k l0).bind fun t44=>((solve_search.f k l0 t44 0 0).bind fun s=>some (solve_First.of s))) else (some (0,t45)))
section
attribute [local go_sem] Oper.semAt_some
set_option maxHeartbeats 8000000 in
set_option maxRecDepth 100000 in
theorem solve_First.calls (k:Nat) (A0:Option Addr) (c0:Nat) (l0:List (S35)) (r1:Int) (r2:Int) (w:World) (hr0:Kd.C k35 w A0 l0.length l0) (hc0:l0.length≤c0) (h:solve_First.f k l0=some (r1,r2)) :
  Calls Try.prog 11 #[.slice A0 l0.length c0] w fun e w'=>e=.returned (.tuple #[.int .i64 r1,.int .i64 r2])∧Below w.heap.size w w':=by
 have HR0:=zA hr0;have HC0:=zA hc0;clear hr0 hc0;have HB:=zA (Below.refl w.heap.size w);have H:((solve_valid.f k l0).bind fun t45=>(if t45=0 then ((solve_occurring.f k l0).bind fun t44=>((solve_search.f k l0 t44 0 0).bind fun s=>some (solve_First.of s))) else (some (0,t45))))=some (r1,r2):=h;clear h;obtain ⟨t45,A2,H⟩:=zo H;have HC3:=zA H;clear H;refine (callsIn_wide (n:=5)).1 ?_;refine callsIn_of_wp_marks Try.func11 rfl trivial ?_ rfl;simp only [Try.ntmps11,List.size_toArray,List.length_cons,List.length_nil,Nat.reduceAdd,Nat.reduceSub,Array.replicate_succ,Array.replicate_zero,List.push_toArray,List.append_toArray,List.nil_append,List.cons_append];refine wpIn_wide.2 ?_
 go_upto_if 9 with (first|((with_reducible refine gd 2 rfl ?_);refine zx #[.int .i64 0] 3 ?_;intro gb31 hg w4 BK31 hb GW31 HB1;have GE31:=GW31;clear HB hb hg;have HB:=HB1;clear HB1)|((with_reducible refine gd 3 rfl ?_);refine zx #[.int .i64 0] 28 ?_;intro gb34 hg w5 BK34 hb GW34 HB1;have GE34:=GW34;have NB31_34:=zL hg BK31;have NB34_31:=zLs NB31_34;replace BK31:=zw BK31 hb;clear HB hb hg;have HB:=HB1;clear HB1)|((with_reducible refine gate_callee (f:=15) rfl ?_);refine zgo 7 Try.func15 #[.slice A0 l0.length c0] ?_;(with_reducible refine (solve_valid.calls k _ _ l0 t45 _ (zD HR0 HB) HC0.out A2.out).mono ?_);rintro e w6 ⟨rfl,hb⟩;refine ⟨_,rfl,?_⟩;replace BK31:=zw BK31 hb;replace BK34:=zw BK34 hb;replace HB:=zu hb;clear hb))
 (try simp only [Act.put,zi,zs,zt]);have H:=HC3.out;clear HC3
 rcases ife H with ⟨c7b0,c7b1,H⟩|⟨c7,c7b0,c7b1,H⟩
 ·(first|rw [c7b0]|(simp only [i64_w,i32_w];rw [c7b0])|skip)
  (try rw [c7b1]);obtain ⟨t44,A8,H⟩:=zo H;replace H:=Option.bind_eq_some_iff.mp H;obtain ⟨s_,AS0,H⟩:=H;have AS:=zA AS0;clear AS0;have HFS:=zA (Option.some.inj H);clear H;have HLT31:=zA (blk_lt BK31.out);have HLT34:=zA (blk_lt BK34.out)
  go_wp2_with (first
   | ((with_reducible refine gate_callee (f:=23) rfl ?_);refine zgo 13 Try.func23 #[.slice A0 l0.length c0] ?_;(with_reducible refine (solve_occurring.calls k _ _ l0 t44 _ (zD HR0 HB) HC0.out A8.out).mono ?_);rintro e w9 ⟨v43,rfl,ho0,hb⟩;refine ⟨_,rfl,?_⟩;have hn6:=zA hb.size;have HO47:=zA ho0;have HS6:=zA (below_size HB.out);replace BK31:=zw BK31 hb;replace BK34:=zw BK34 hb;replace HB:=zu hb;clear hb ho0;obtain ⟨A43,c43,e43⟩:=Kd.R_slice HO47.out;subst e43))
  refine (solve_solutions.in_ A0 l0.length c0 A43 t44.length c43 0 0 _).mono ?_;rintro e w10 ⟨g0,g1,g2,rfl,hg0,hg1,hs0,hs1,hs2,hb⟩;have n0_:=zA (Kd.R_below HO47.out hb);have n1_:=zA (zb BK31 hb);have n2_:=zA (zb BK34 hb);have n3_:=zA (below_step zB hb);have hn9:=zA hb.size;have hc43:=zA (Kd.R_reads' HO47.out).2.1;clear BK31 BK34 HB HO47 hb hg0 hg1;have HO47:=n0_;have BK31:=n1_;have BK34:=n2_;have HB:=n3_;clear n0_ n1_ n2_ n3_
  go_wp2
  have h67:w6.heap.size≤w10.heap.size:=Nat.le_trans hn6.out hn9.out
  have hL:∀ W',KpS w.heap.size w6.heap.size w10.heap.size w10 W'→Kd.C k35 W' A0 l0.length l0:=fun W' hk=>Kd.C_kept_came k35_heap HR0.out HB.out (fun k hk=>hk.1) W' hk.kept
  have hV:∀ W',KpS w.heap.size w6.heap.size w10.heap.size w10 W'→Kd.C (Kd.int .i64) W' A43 t44.length t44:=fun W' hk=>Kd.C_kept_own (Kd.R_bound HO47.out) (fun k hk hs=>by have h_:=HS6.out;obtain ⟨_,h1,h2,_⟩:=hk;omega) W' hk.kept
  refine (wpIn_wide (n:=5)).1 ?_;refine wpIn_rangeFunc_ownF (n:=5) rfl (by omega) (gf:=38) (lb:=#[.pointer (some ⟨g0,0,none⟩),.pointer (some ⟨g1,0,none⟩),.pointer (some ⟨g2,0,none⟩)]) rfl trivial (enters_of Try.func38 zK rfl)
   (solve_solutions_stops w.heap.size w6.heap.size w10.heap.size A0 c0 l0 HC0.out A43 c43 t44 hc43.out 0 0 g0 g1 g2 k s_ w10 (Nat.le_refl _) hL hV AS.out hs0 hs1 hs2)
   KpS.trans (fun W l o o' hl h ho _=>KpS.put (Nat.le_trans HS6.out h67) W l o o' hl h ho) (Below.refl _ _) (fun _=>rfl)
   (fun (pre:List Int) (W:World)=>pre=[]∧W.heap[gb31]?=some (.cells #[.int .i64 0] 3 (0,0))∧W.heap[gb34]?=some (.cells #[.int .i64 0] 28 (0,0))∧Below w.heap.size w W)
   (fun c pre W=>c=Code.ret∧∃ x:Int,pre=[x]∧W.heap[gb31]?=some (.cells #[.int .i64 x] 3 (0,0))∧W.heap[gb34]?=some (.cells #[.int .i64 0] 28 (0,0))∧Below w.heap.size w W)
   (fun s A B row hs hg hr=>⟨hs.1,blk_grown hs.2.1 hg (ne_row_ hr hs.2.1),blk_grown hs.2.2.1 hg (ne_row_ hr hs.2.2.1),hs.2.2.2.grown hg hs.2.2.2.size (fun k e=>Nat.le_trans HB.out.size (hr k e).1)⟩)
   (fun c s A B row hs hg hr=>by
    obtain ⟨e1,x,e2,h1,h2,h3⟩:=hs
    exact ⟨e1,x,e2,blk_grown h1 hg (ne_row_ hr h1),blk_grown h2 hg (ne_row_ hr h2),h3.grown hg h3.size (fun k e=>Nat.le_trans HB.out.size (hr k e).1)⟩)
   ⟨rfl,BK31.out,BK34.out,HB.out⟩
   (fun x=>{tmps:=#[.slice A0 l0.length c0,undef,.pointer (some ⟨gb31,0,none⟩),.pointer (some ⟨gb34,0,none⟩),.int .i64 t45,.int .i64 x,.slice A0 l0.length c0,.int .i64 t45,.int .i64 t45,.bool false,undef,.slice A0 l0.length c0,.slice A0 l0.length c0,.slice A43 t44.length c43,.agg #[.int .i64 0,.int .i64 0],.func (.func 38) #[] #[.pointer (some ⟨g0,0,none⟩),.pointer (some ⟨g1,0,none⟩),.pointer (some ⟨g2,0,none⟩)],.int .i64 x,undef],defers:=[]}) ?assign ?body ?done ?stop
  case assign=>
   intro l x W K hK
   gi_wp2
   exact hK
  case body=>
   rintro l pre x W ⟨rfl,hb1,hb2,hbl⟩ _;have hcz0:W.cell? ⟨gb31,0,none⟩=some (.int .i64 0):=(blk_cell hb1 0).trans rfl;have hfz0:=blk_frozen hb1 0;have hcz1:W.cell? ⟨gb34,0,none⟩=some (.int .i64 0):=(blk_cell hb2 0).trans rfl;have hfz1:=blk_frozen hb2 0;have hnb:=NB31_34.out;have hnc:=NB34_31.out
   gi_wp2
   have h2_:=two_set hb1 hb2 NB31_34.out (.int .i64 x) (.int .i64 0);exact ⟨two_keep _ _ _ _ _,rfl,x,rfl,h2_.1,h2_.2,below_set (below_set hbl GE31.out) GE34.out⟩
  case done=>
   rintro D ys W hD hys ⟨rfl,hb1,hb2,hbl⟩ hK;have hcz0:W.cell? ⟨gb31,0,none⟩=some (.int .i64 0):=(blk_cell hb1 0).trans rfl;have hfz0:=blk_frozen hb1 0;have hcz1:W.cell? ⟨gb34,0,none⟩=some (.int .i64 0):=(blk_cell hb2 0).trans rfl;have hfz1:=blk_frozen hb2 0;have hnb:=NB31_34.out;have hnc:=NB34_31.out;have HKD:=zA hK;clear hK
   go_wp2
   have h2_:=two_set hb1 hb2 NB31_34.out (.int .i64 0) (.int .i64 10);have hKD:=(two_keep W gb31 gb34 (.int .i64 0) (.int .i64 10)).same D _ HKD.out rfl;have hbl2:Below w.heap.size w ((W.setCell ⟨gb31,0,none⟩ (.int .i64 0)).setCell ⟨gb34,0,none⟩ (.int .i64 10)):=below_set (below_set hbl GE31.out) GE34.out;have e_:=HFS.out;rw [← hys] at e_;simp only [solve_First.of,Prod.mk.injEq] at e_;obtain ⟨rfl,rfl⟩:=e_;refine ⟨by simp,.inl ⟨_,_,rfl,run_takeDeferred hKD,?_⟩⟩;exact ⟨_,results_two rfl _ _ gb31 gb34 _ _ rfl rfl (run_loadVar_one _ _ 3 3 _ (0,0) _ (blk_deferred h2_.1 hKD _) Try.underlying3 rfl) (run_loadVar_one _ _ 28 28 _ (0,0) _ (blk_deferred h2_.2 hKD _) Try.underlying28 rfl),rfl,hbl2.grown (grownBy_putObj' _ D _) hbl2.size (fun k e=>by cases e;exact Nat.le_trans HB.out.size hD)⟩
  case stop=>
   rintro D c pre W hD hSp ⟨rfl,x,rfl,hb1,hb2,hbl⟩ hK;refine wpIn_wide.2 ?_
   go_wp2
   obtain ⟨z_,rfl⟩:=hSp;have e_:=HFS.out;simp only [solve_First.of,List.cons_append,List.nil_append,Prod.mk.injEq] at e_;obtain ⟨rfl,rfl⟩:=e_;refine ⟨by simp,.inl ⟨_,_,rfl,run_takeDeferred hK,?_⟩⟩;exact ⟨_,results_two rfl _ _ gb31 gb34 _ _ rfl rfl (run_loadVar_one _ _ 3 3 _ (0,0) _ (blk_deferred hb1 hK _) Try.underlying3 rfl) (run_loadVar_one _ _ 28 28 _ (0,0) _ (blk_deferred hb2 hK _) Try.underlying28 rfl),rfl,hbl.grown (grownBy_putObj' _ D _) hbl.size (fun k e=>by cases e;exact Nat.le_trans HB.out.size hD)⟩
 ·(first|rw [c7b0]|(simp only [i64_w,i32_w];rw [c7b0])|skip)
  (try rw [c7b1]);simp only [Option.some.injEq,Prod.mk.injEq] at H;obtain ⟨rfl,rfl⟩:=H;have hnb13:=NB31_34.out;have hnc13:=NB34_31.out;have hcz14_0:=zc0 BK31;have hfz14_0:=zf BK31 0;have hcz15_0:=zc0 BK34;have hfz15_0:=zf BK34 0
  go_wp2
  have h2_:=two_set BK31.out BK34.out NB31_34.out (.int .i64 0) (.int .i64 t45);exact ⟨_,results_two rfl _ _ gb31 gb34 _ _ rfl rfl (run_loadVar_one _ _ 3 3 _ (0,0) _ h2_.1 Try.underlying3 rfl) (run_loadVar_one _ _ 28 28 _ (0,0) _ h2_.2 Try.underlying28 rfl),rfl,below_set (below_set HB.out GE31.out) GE34.out⟩
end
end Go.Proofs.Ytkaalbbbpebpdaa.T
