import Derived.Test.YtngpkbbljnbojaaGreatL0
import Derived.Test.YtngpkbbljnbojaaGreatL2
import Derived.Test.YtngpkbbljnbojaaGreatL4
namespace Go.Proofs.YtngpkbbljnbojaaGreat.L
open Go.RowKit Go.Proofs.YtngpkbbljnbojaaGreatW.PrintWords Go.Proofs.YtngpkbbljnbojaaGreatW.PrintLast Go.Proofs.YtngpkbbljnbojaaGreatW.PrintMore
attribute [local go_sem] max2_int min2_int max_two min_two max_three min_three max_four min_four Tryz.underlying103 Tryz.underlying108 Tryz.underlying26 Tryz.underlying3 Tryz.underlying38 Tryz.underlying40 Tryz.underlying42
set_option linter.unusedVariables false
set_option linter.unusedSimpArgs false
def solve_split.T10:Bool×List (List Nat×List Nat):=(true,[([],[]),([],[]),([1],[1]),([2],[2]),([3],[3]),([],[]),([5],[5]),([6],[6]),([],[]),([8],[8]),([7,9],[7,9]),([10],[10]),([4,11],[4,11]),([0,0,1,2,3,4,5,6,7,8,9,10,11,12],[0]),([13,0,1,2,3,4,5,6,7,8,9,10,11,12],[13]),([14,12,12,0,1,2,3,4,5,6,7,8,9,10,11,12],[12,14])])
def solve_split.B10:List Nat:=[0,0,2,6,14,0,32,96,0,256,992,2016,4094,8191,16383,32767]
theorem solve_split.tab10:rtab .any (opsOf Tryz.f101 10)=solve_split.T10:=by kernel_rfl
theorem solve_split.bits10:waitsOk solve_split.T10.2 solve_split.B10=true:=by kernel_rfl
def solve_split.T11:Bool×List (List Nat×List Nat):=(true,[([],[]),([],[]),([1],[1]),([],[]),([],[]),([4],[4]),([5],[5]),([3,6],[3,6]),([],[]),([0,2,7,8,7],[0,2,7,8]),([9],[9])])
def solve_split.B11:List Nat:=[0,0,2,0,0,16,48,120,0,511,1023]
theorem solve_split.tab11:rtab .any (opsOf Tryz.f101 11)=solve_split.T11:=by kernel_rfl
theorem solve_split.bits11:waitsOk solve_split.T11.2 solve_split.B11=true:=by kernel_rfl
def solve_split.T13:Bool×List (List Nat×List Nat):=(true,[([],[]),([0],[0]),([1],[1]),([2],[2]),([],[]),([],[]),([5],[5]),([6],[6]),([7],[7]),([8],[8]),([3,4,0,1,2,3,4,5,6,7,8,9],[3,4]),([10,0,1,2,3,4,5,6,7,8,9],[10]),([11,9,0,1,2,3,4,5,6,7,8,9],[9,11])])
def solve_split.B13:List Nat:=[0,1,3,7,0,0,32,96,224,480,1023,2047,4095]
theorem solve_split.tab13:rtab .any (opsOf Tryz.f101 13)=solve_split.T13:=by kernel_rfl
theorem solve_split.bits13:waitsOk solve_split.T13.2 solve_split.B13=true:=by kernel_rfl
def solve_split.T14:Bool×List (List Nat×List Nat):=(true,[([],[]),([],[]),([1],[1]),([],[]),([],[]),([4],[4]),([5],[5]),([3,6],[3,6]),([],[]),([0,2,7,8,7],[0,2,7,8]),([9,9,0,1,2,3,4,5,6,7,8,9],[9])])
def solve_split.B14:List Nat:=[0,0,2,0,0,16,48,120,0,511,1023]
theorem solve_split.tab14:rtab .any (opsOf Tryz.f101 14)=solve_split.T14:=by kernel_rfl
theorem solve_split.bits14:waitsOk solve_split.T14.2 solve_split.B14=true:=by kernel_rfl
/-- What split keeps: all that lay below n0,and all but the nodes' variable and rows of nodes. -/
def KpR (n0 g:Nat) (W W':World):Prop:=W.heap.size≤W'.heap.size∧(∀ k,k<W.heap.size→(k<n0∨(k≠g∧∀ cs,W.heap[k]?≠some (.cells cs 103 (0,0))))→W'.heap[k]?=W.heap[k]?)∧W'.os=W.os∧W'.tape=W.tape∧W'.output=W.output
theorem KpR.refl {n0 g:Nat} (W:World):KpR n0 g W W:=⟨Nat.le_refl _,fun _ _ _=>rfl,rfl,rfl,rfl⟩
theorem KpR.trans {n0 g:Nat} {A B C:World} (h:KpR n0 g A B) (k:KpR n0 g B C):KpR n0 g A C:=
 ⟨Nat.le_trans h.1 k.1,fun j hj hp=>by
  have e:=h.2.1 j hj hp
  exact (k.2.1 j (Nat.lt_of_lt_of_le hj h.1) (hp.elim .inl (fun ⟨h1,h2⟩=>.inr ⟨h1,fun cs hc=>h2 cs (e.symm.trans hc)⟩))).trans e,k.2.2.1.trans h.2.2.1,k.2.2.2.1.trans h.2.2.2.1,k.2.2.2.2.trans h.2.2.2.2⟩
theorem KpR.below {n0 g:Nat} {A B:World} (h:Below A.heap.size A B):KpR n0 g A B:=⟨h.size,fun j hj _=>h.block j hj,h.os,h.tape,h.output⟩
theorem KpR.belowN {n0 g:Nat} {A B:World} (h:KpR n0 g A B) (hn:n0≤A.heap.size):Below n0 A B:=⟨h.2.2.1,h.2.2.2.1,h.2.2.2.2,h.1,fun k hk=>h.2.1 k (by omega) (.inl hk)⟩
theorem KpR.blk {n0 g:Nat} {A B:World} (h:KpR n0 g A B) {j t:Nat} {cs:Array Value} (hb:A.heap[j]?=some (.cells cs t (0,0))) (hj:j≠g) (ht:t≠103):B.heap[j]?=some (.cells cs t (0,0)):=
 (h.2.1 j (blk_lt hb) (.inr ⟨hj,fun cs' hc=>by rw [hb] at hc;cases hc;exact ht rfl⟩)).trans hb
theorem KpR.other {n0 g:Nat} {A B:World} (h:KpR n0 g A B) {j:Nat} {o:Obj} (hb:A.heap[j]?=some o) (hj:j≠g) (ho:o.isCells=false):B.heap[j]?=some o:=
 (h.2.1 j (Array.getElem?_eq_some_iff.1 hb).1 (.inr ⟨hj,fun cs' hc=>by rw [hb] at hc;cases hc;simp [Obj.isCells] at ho⟩)).trans hb
theorem KpR.kept {n0 g:Nat} {A B:World} (h:KpR n0 g A B):Kept A B (fun k=>n0≤k∧(k=g∨∃ cs,A.heap[k]?=some (.cells cs 103 (0,0)))):=
 ⟨h.1,fun i hi hn=>h.2.1 i hi (by
  by_cases hlt:i<n0
  ·exact .inl hlt
  ·exact .inr ⟨fun e=>hn ⟨by omega,.inl e⟩,fun cs hc=>hn ⟨by omega,.inr ⟨cs,hc⟩⟩⟩)⟩
theorem KpR.set {n0 g:Nat} (W:World) (hg:n0≤g) (j:Nat) (u:Value):KpR n0 g W (W.setCell ⟨g,j,none⟩ u):=
 ⟨by simp [World.setCell],fun k hk hp=>Below.heap_setCell W _ u k (fun e=>by
  dsimp only at e
  subst e
  rcases hp with hp|⟨hp,_⟩
  ·omega
  ·exact hp rfl),rfl,rfl,rfl⟩
theorem KpR.grown {n0 g:Nat} {W W':World} {row:Option Nat} (hg:W.grownBy W' row) (hr:∀ k,row=some k→n0≤k∧∃ cs,W.heap[k]?=some (.cells cs 103 (0,0))):KpR n0 g W W':=
 ⟨hg.size,fun k hk hp=>hg.block k hk (fun e=>by
  obtain ⟨h1,cs,hb⟩:=hr k e.symm
  rcases hp with hp|⟨_,hc⟩
  ·omega
  ·exact hc cs hb),hg.os,hg.tape,hg.output⟩
theorem cell_alloc_ {W:World} {a:Addr} {v:Value} {o:Obj} (h:W.cell? a=some v):(W.alloc o).cell? a=some v:=cell_kept h (World.grownBy_alloc W o none) (fun r e=>by cases e)
def solve_split.f:Nat→List (S63)→List Int→Int→Int→List (S103)→Option (List (S103)×Bool)
 | 0,_,_,_,_,_=>none
 | k+1,l0,l1,a2_0,a2_1,l3=>if (l3.length:Int)=2000 then some (l3,false) else (solve_choices_failing.f k a2_0 a2_1 l0).bind fun t=>(if t≥0 then (if l3.length<4398046511104 then some (l3++[(⟨(-1),0,0,t⟩:S103)],true) else none) else (if (l1.length:Int)=0 then some (l3,false) else (if l3.length<4398046511104 then (solve_choices_with.f a2_0 a2_1 (rd l1 0) 0).bind fun b=>(solve_split.f k l0 (l1.drop 1) b.1 b.2 (l3++[(⟨rd l1 0,wrap64 ((l3.length:Int)+1),0,0⟩:S103)])).bind fun q=>(if q.2=true then (if (l3.length:Int)<(q.1.length:Int) then (solve_choices_with.f a2_0 a2_1 (rd l1 0) 1).bind fun b'=>solve_split.f k l0 (l1.drop 1) b'.1 b'.2 (q.1.set l3.length (⟨(rd_T103 q.1 (l3.length:Int)).f0,(rd_T103 q.1 (l3.length:Int)).f1,(q.1.length:Int),(rd_T103 q.1 (l3.length:Int)).f3⟩:S103)) else none) else some (q.1,false)) else none)))
theorem solve_split.mono_l:∀ k,(∀ y0 y1 y2 y3 y4,LeO (solve_split.f k y0 y1 y2 y3 y4) (solve_split.f (k+1) y0 y1 y2 y3 y4))
 | 0=>fun _ _ _ _ _ r h=>by simp [solve_split.f] at h
 | k+1=>by
  have ih0:=solve_split.mono_l k
  ·intro y0 y1 y2 y3 y4
   unfold solve_split.f
   repeat' first
   | (with_reducible exact ih0 _ _ _ _ _)
   | (with_reducible exact solve_choices_failing.mono _ _ _ _)
   | (with_reducible exact LeO.refl _)
   | (with_reducible exact LeO.none _)
   | (with_reducible refine LeO.ite ?_ ?_)
   | (with_reducible refine LeO.bind ?_ (fun _=>?_))
   | exact LeO.refl _
   | exact LeO.none _
   | refine LeO.ite ?_ ?_
   | refine LeO.bind ?_ (fun _=>?_)
theorem solve_split.mono:∀ a0 a1 a2 a3 a4 k,LeO (solve_split.f k a0 a1 a2 a3 a4) (solve_split.f (k+1) a0 a1 a2 a3 a4):=by
 intro a0 a1 a2 a3 a4 k;have ih0:=solve_split.mono_l k;exact ih0 a0 a1 a2 a3 a4
set_option maxHeartbeats 8000000 in
set_option maxRecDepth 100000 in
theorem solve_split.in_ (n0 g:Nat) (hge_:n0≤g) (w1:World) (A0:Option Addr) (c0:Nat) (l0:List (S63)) (hl0_:l0.length≤c0) (hL_:∀ W',KpR n0 g w1 W'→Kd.C k63 W' A0 l0.length l0) (k:Nat) :
  ∀ (A1:Option Addr) (c1:Nat) (l1:List Int) (a2_0 a2_1:Int) (l3:List (S103)) (u:Value) (r:List (S103)) (b:Bool) (w:World) (hK_:KpR n0 g w1 w) (hn_:n0≤w.heap.size) (hV_:∀ W',KpR n0 g w1 W'→Kd.C (Kd.int .i64) W' A1 l1.length l1) (hc1_:l1.length≤c1)
   (hb_:w.heap[g]?=some (.cells #[u] 40 (0,0))) (ho_:Kd.R k103 103 w n0 (fun _=>True) u l3) (h:solve_split.f k l0 l1 a2_0 a2_1 l3=some (r,b)),
  Calls Tryz.prog 101 #[.slice A0 l0.length c0,.slice A1 l1.length c1,.agg #[.int .i64 a2_0,.int .i64 a2_1],.pointer (some ⟨g,0,none⟩)] w fun e w'=>e=.returned (.bool b)∧∃ u':Value,w'.heap[g]?=some (.cells #[u'] 40 (0,0))∧Kd.R k103 103 w' n0 (fun _=>True) u' r∧KpR n0 g w w':=by
 have hL:=zA hL_;have hge:=zA hge_;have hl0:=zA hl0_;clear hL_ hge_ hl0_
 induction k using Nat.strongRecOn with
 | _ k ih=>
 intro A1 c1 l1 a2_0 a2_1 l3 u r b w hK_ hn_ hV_ hc1_ hb_ ho_ h
 cases k with
 | zero=>exact absurd h (by simp [solve_split.f])
 | succ k=>
 simp only [solve_split.f] at h;obtain ⟨Au,cu,rfl⟩:=Kd.R_slice ho_;have HK1:=zA hK_;have HN:=zA hn_;have HV:=zA hV_;have HC1:=zA hc1_;have BKr:=zA hb_;have HO:=zA ho_;have HK:=zA (KpR.refl (n0:=n0) (g:=g) w);have IH:=zA ih;have HGW:=zA (blk_lt hb_);clear hK_ hn_ hV_ hc1_ hb_ ho_ ih;have H0:=zA h;clear h
 go_enter Tryz.func101,Tryz.ntmps101
 go_upto_if 17 with (first|((with_reducible refine gate_dst (N:=6) rfl ?_);refine box_event ?hg (N:=6) ?hd (cs:=#[.int .i64 a2_0,.int .i64 a2_1]) (t:=108) ?hr ?_;(case hd=>rfl);(case hg=>rfl);(case hr=>first|(go_simp;done)|(go_simp;rfl));intro gb hg w7 hbox hb;have BKc:=zA hbox;have GE:=zA (show w.heap.size≤gb by rw [hg];exact Nat.le_refl _);replace BKr:=zA (blk_below BKr.out hb);replace HO:=zA (Kd.R_below HO.out hb);replace HK:=zA (KpR.below (n0:=n0) (g:=g) hb);clear hb hbox hg;have hcr:w7.cell? ⟨g,0,none⟩=some (.slice Au l3.length cu):=zc0 BKr;have hfr:=blk_frozen BKr.out 0;have hc0:w7.cell? ⟨gb,0,none⟩=some (.int .i64 a2_0):=zc0 BKc;have hc1:w7.cell? ⟨gb,1,none⟩=some (.int .i64 a2_1):=zc1 BKc;have hf0:=blk_frozen BKc.out 0;have hf1:=blk_frozen BKc.out 1))
 (try simp only [Act.put,zi,zs,zt]);have NE:=zA (show gb≠g from by have h1:=GE.out;have h2:=HGW.out;omega);have H:=H0.out;clear H0
 rcases if0 H with ⟨c2,H⟩|⟨c2,H⟩
 ·have c2b0:((l3.length:Int) == 2000)=true:=beq_iff_eq.mpr c2
  (first|rw [c2b0]|(simp only [i64_w,i32_w];rw [c2b0])|skip)
  simp only [Option.some.injEq,Prod.mk.injEq] at H;obtain ⟨rfl,rfl⟩:=H
  go_wp2
  go_ret
  exact ⟨rfl,_,BKr.out,HO.out,HK.out⟩
 ·have c2b0:((l3.length:Int) == 2000)=false:=beq_eq_false_iff_ne.mpr c2
  (first|rw [c2b0]|(simp only [i64_w,i32_w];rw [c2b0])|skip)
  replace H:=Option.bind_eq_some_iff.mp H;obtain ⟨t77,A50,H⟩:=H;have A5:=zA A50;have HC6:=zA H;clear A50 H
  go_upto_if 22 with (first|(go_at_call 119;(with_reducible refine (solve_choices_failing.calls k a2_0 a2_1 _ _ l0 t77 _ ?side1 ?side2 A5.out).mono ?_);(case side1=>exact hL.out _ (KpR.trans HK1.out HK.out));(case side2=>exact hl0.out);rintro e w9 ⟨rfl,hb⟩;replace BKr:=zA (blk_below BKr.out hb);replace BKc:=zA (blk_below BKc.out hb);replace HO:=zA (Kd.R_below HO.out hb);replace HK:=zA (KpR.trans HK.out (KpR.below (n0:=n0) (g:=g) hb));clear hb hcr hfr hc0 hc1 hf0 hf1;have hcr:w9.cell? ⟨g,0,none⟩=some (.slice Au l3.length cu):=zc0 BKr;have hfr:=blk_frozen BKr.out 0;have hc0:w9.cell? ⟨gb,0,none⟩=some (.int .i64 a2_0):=zc0 BKc;have hc1:w9.cell? ⟨gb,1,none⟩=some (.int .i64 a2_1):=zc1 BKc;have hf0:=blk_frozen BKc.out 0;have hf1:=blk_frozen BKc.out 1))
  (try simp only [Act.put,zi,zs,zt]);have hn9:=zA (Nat.le_trans HN.out HK.out.1);have H:=HC6.out;clear HC6
  rcases if0 H with ⟨c10,H⟩|⟨c10,H⟩
  ·have c10b0:decide (0≤t77)=true:=decide_eq_true c10;clear c10
   (first|rw [c10b0]|(simp only [i64_w,i32_w];rw [c10b0])|skip)
   obtain ⟨c16,H⟩:=if1 H;have LMc16:=zA c16;clear c16;simp only [Option.some.injEq,Prod.mk.injEq] at H;obtain ⟨hr_,rfl⟩:=H;have Ny:=zA hr_;clear hr_
   go_wp2_with (first|((with_reducible refine gate_builtin (b:=.append) (xs:=#[.tmp 27,.tmp 30]) rfl ?_);at_builtin;refine Kd.R_append k103 (w0:=w9) n0 rfl (.tmp 27) (.tmp 30) 38 103 (.agg #[(.int .i64 0),(.int .i64 0),(.int .i64 0),(.int .i64 0)]) 32 rfl Tryz.underlying38 info103 rfl (by decide) (by omega) (.slice Au l3.length cu) l3 (⟨(-1),0,0,t77⟩:S103) [.int .i64 (-1),.int .i64 0,.int .i64 0,.int .i64 t77] (fun _=>True) (fun _=>False) rfl rfl ?aP (fun _ hk=>hk.elim) ?aF ?aO ?aB ?aS ?aL ?_;(case aP=>exact k103_mkM _ _ _ (⟨(-1),0,0,t77⟩:S103));(case aF=>exact fun _ _=>trivial);(case aB=>first|exact Below.refl n0 w9|exact (Below.refl n0 w9).alloc hn9.out _);(case aO=>exact (by refine zr ?_;exact HO.out));(case aS=>first|exact hn9.out|exact Nat.le_trans hn9.out (by rw [World.size_alloc];omega));(case aL=>have:=LMc16.out;omega);intro v93 w17 ho hb hg hat;rw [Ny.out] at ho;obtain ⟨Av,cv,rfl⟩:=Kd.R_slice ho;have hbr:w17.heap[g]?=some (.cells #[.slice Au l3.length cu] 40 (0,0)):=blk_grown BKr.out hg (Kd.R_ne HO.out BKr.out (by decide));have hcr:w17.cell? ⟨g,0,none⟩=some (.slice Au l3.length cu):=(blk_cell hbr 0).trans rfl;have hfr:=blk_frozen hbr 0))
   go_ret
   exact ⟨rfl,_,blk_put (cs:=#[.slice Au l3.length cu]) hbr 0 _ rfl,Kd.R_mono (Kd.R_far (p:=⟨g,0,none⟩) (Kd.R_types ho hbr (by decide)) (fun _ hk=>hk.2) _) (fun _ _=>trivial),(HK.out.trans (KpR.grown hg (fun k e=>⟨Kd.R_base HO.out k e,Kd.R_typed HO.out k e⟩))).trans (KpR.set _ hge.out _ _)⟩
  ·have c10b0:decide (0≤t77)=false:=decide_eq_false c10;clear c10
   (first|rw [c10b0]|(simp only [i64_w,i32_w];rw [c10b0])|skip)
   rcases ife H with ⟨c11b0,c11b1,H⟩|⟨c11,c11b0,c11b1,H⟩
   ·simp only [Option.some.injEq,Prod.mk.injEq] at H;obtain ⟨rfl,rfl⟩:=H
    go_wp2
    go_ret
    exact ⟨rfl,_,BKr.out,HO.out,HK.out⟩
   ·have c11b2:¬ (l1=[]):=fun h_=>c11 (by rw [h_];rfl)
    have hpos:0<(l1.length:Int):=by omega
    obtain ⟨c16,H⟩:=if1 H;have LMc16:=zA c16;clear c16 c11;replace H:=Option.bind_eq_some_iff.mp H;obtain ⟨⟨t81,t82⟩,A88,H⟩:=H;have A18:=zA A88;clear A88;replace H:=Option.bind_eq_some_iff.mp H;obtain ⟨⟨q_,qb⟩,A83,H⟩:=H
    obtain ⟨ji,hji⟩:∃ j_:Int,wrap64 ((l3.length:Int)+1)=j_:=⟨_,rfl⟩
    obtain ⟨y_,hy_⟩:∃ y:List (S103),y=l3++[(⟨rd l1 0,ji,0,0⟩:S103)]:=⟨_,rfl⟩
    obtain ⟨lt_,hlt_⟩:∃ t_:List Int,t_=l1.drop 1:=⟨_,rfl⟩
    rw [hji,← hy_,← hlt_] at A83;simp only [← hlt_] at H;have hjiw:(IntKind.i64.wrap ((l3.length:Int)+1))=ji:=(i64_w _).trans hji;have A19:=zA A83;clear A83;have Ny:=zA hy_;clear hy_;have HC12:=zA H;clear H
    have p45:0≤(0:Int):=by omega
    obtain ⟨ad45,e45,hx45_0⟩:=Kd.at_int (HV.out w9.drew (HK1.out.trans (HK.out.trans (KpR.below (below_drew1 (Below.refl _ _)))))) 0 p45 hpos
    cases e45
    (try rw [show ((0:Int)).toNat=0 from rfl] at hx45_0);(try rw [Addr.add_zero'] at hx45_0);obtain ⟨i84,hi84,_,hsz23,_⟩:=info_parts info3;obtain ⟨A23,hcut23,hA23,hC23⟩:=print_drop_of (P:=Tryz.prog) (Value.int .i64) 0 43 3 .i64 Tryz.underlying43 hi84 hsz23 (some ad45) c1 l1 1 (by omega) (by omega) HC1.out;rw [show (1:Int).toNat=1 from rfl,← hlt_] at hcut23 hA23 hC23;have HV78:=zA (fun W' hk_=>Kd.C_of_reads (h1:=fun _=>rfl) (hA23 _ (Kd.reads_of_C (HV.out W' hk_))));have HC78:=zA hC23;have HLT:=zA hlt_;clear hA23 hC23 hi84 hsz23 hlt_;have qi45:(0<l1.length)=True:=eq_true (by omega);have qj45:((0:Int)<(l1.length:Int))=True:=eq_true hpos
    go_wp2
    replace BKr:=zA (blk_drew BKr.out);replace BKc:=zA (blk_drew BKc.out);replace HO:=zA (Kd.R_drew HO.out);replace HK:=zA (HK.out.trans (KpR.below (below_drew1 (Below.refl _ _))));clear hcr hfr hc0 hc1 hf0 hf1;refine start_ (n:=16) (S:=fun w'=>w'.cell? ⟨g,0,none⟩=some (.slice Au l3.length cu)∧w'.cell? ad45=some (.int .i64 (rd l1 0))) (ds:=[15]) (bz 16 0) zK rfl rfl ⟨zc0 BKr,hx45_0⟩ (fun hHeld=>?_);refine with_tabW solve_split.tab10 solve_split.bits10 (fun HT_ HW_=>?_)
    generalize w9.drew=w10 at BKr BKc HO HK hx45_0 hHeld ⊢
    refine zP 0 37 (bz 16 1) HT_ ?_;refine zP 1 38 (bz 16 3) HT_ ?_;refine zP 2 39 (bz 16 7) HT_ ?_;refine zP 3 40 (bz 16 15) HT_ ?_;refine zP 5 42 (bz 16 47) HT_ ?_;refine zP 6 43 (bz 16 111) HT_ ?_;refine zP 8 45 (bz 16 367) HT_ ?_;refine zP 9 46 (bz 16 879) HT_ ?_;refine zQ 4 41 (bz 16 895) HT_ HW_ hHeld ?_;refine zQ 7 44 (bz 16 1023) HT_ HW_ hHeld ?_;refine zP 10 47 (bz 16 2047) HT_ ?_;refine one_ (i:=11) (N:=some 48) (bz 16 4095) rfl rfl (one_of HT_.out zK) (by decide) (fun K hK=>?_);refine value_ (w1:=?_) (v:=?_) (by rfl) rfl ?_ ?_;rotate_left 2
    ·go_simp
     constructor
     ·rfl
     ·rfl
    refine hK.out _ _ ⟨(blk_cell (blk_alloc BKr.out _) 0).trans rfl,(cell_alloc_ hx45_0)⟩ (fun hHeld=>?_);clear hK K;refine norm_ (a':=?_) ?_ ?_;rotate_left
    ·show Act.put _ (some 48) _=_
     simp only [Act.put,zi,zs,zt,i64_w,i32_w];rfl
    refine one_ (i:=12) (N:=some 49) (bz 16 8191) rfl rfl (one_of HT_.out zK) (by decide) (fun K hK=>?_);refine Kd.R_append_step k103 (w0:=w10) n0 (by rfl) (.tmp 41) (.tmp 48) 38 103 (.agg #[(.int .i64 0),(.int .i64 0),(.int .i64 0),(.int .i64 0)]) 32 rfl Tryz.underlying38 info103 rfl (by decide) (by omega) (.slice Au l3.length cu) l3 (⟨rd l1 0,ji,0,0⟩:S103) [.int .i64 (rd l1 0),.int .i64 ji,.int .i64 0,.int .i64 0] (fun _=>True) (fun _=>False) rfl rfl ?aP (fun _ hk=>hk.elim) ?aF ?aO ?aB ?aS ?aL ?_;(case aP=>exact k103_mkM _ _ _ (⟨rd l1 0,ji,0,0⟩:S103));(case aF=>exact fun _ _=>trivial);(case aB=>first|exact Below.refl n0 w10|exact (Below.refl n0 w10).alloc (Nat.le_trans HN.out HK.out.1) _);(case aO=>exact (by refine zr ?_;exact HO.out));(case aS=>first|exact Nat.le_trans HN.out HK.out.1|exact Nat.le_trans (Nat.le_trans HN.out HK.out.1) (by rw [World.size_alloc];omega));(case aL=>have:=LMc16.out;omega);intro v93 w11 ho hb hg hat;rw [← Ny.out] at ho;obtain ⟨Av,cv,rfl⟩:=Kd.R_slice ho;replace BKr:=zA (blk_grown BKr.out hg (Kd.R_ne HO.out BKr.out (by decide)));replace BKc:=zA (blk_grown BKc.out hg (Kd.R_ne HO.out BKc.out (by decide)));replace HK:=zA (HK.out.trans (KpR.grown hg (fun k e=>⟨Kd.R_base HO.out k e,Kd.R_typed HO.out k e⟩)));replace HO:=zA ho;clear ho hb hg hat hx45_0;obtain ⟨adx,ex,hx45_0⟩:=Kd.at_int (HV.out w11 (HK1.out.trans HK.out)) 0 p45 hpos
    cases ex
    (try rw [show ((0:Int)).toNat=0 from rfl] at hx45_0);(try rw [Addr.add_zero'] at hx45_0);refine hK.out _ _ ⟨zc0 BKr,hx45_0⟩ (fun hHeld=>?_);clear hK K;refine norm_ (a':=?_) ?_ ?_;rotate_left
    ·show Act.put _ (some 49) _=_
     simp only [Act.put,zi,zs,zt,i64_w,i32_w];rfl
    refine zP 13 50 (bz 16 16383) HT_ ?_;refine zP 14 51 (bz 16 32767) HT_ ?_;refine last_ (i:=15) (N:=none) (bz 16 65535) rfl rfl (one_of HT_.out zK) (by decide) (fun K hK=>?_);have hs38:w11.cell? ⟨g,0,none⟩=some (.slice Au l3.length cu):=zc0 BKr;have hfs38:=blk_frozen BKr.out 0;refine skip_ (w1:=?_) (by rfl) rfl ?_ ?_;rotate_left
    ·go_simp
     rfl
    refine hK.out _ _ ?_;clear hK K;clear hs38 hfs38 hHeld;refine done_ (done_of HT_.out zK) ?_;have n0_:=zA (blk_put (cs:=#[.slice Au l3.length cu]) BKr.out 0 (.slice Av y_.length cv) rfl);have n1_:=zA (blk_far BKc.out NE.out (.slice Av y_.length cv) (p:=⟨g,0,none⟩));have n2_:=zA (Kd.R_mono (ok':=fun _=>True) (Kd.R_far (p:=⟨g,0,none⟩) (Kd.R_types HO.out BKr.out (by decide)) (fun _ hk=>hk.2) (.slice Av y_.length cv)) (fun _ _=>trivial));have n3_:=zA (HK.out.trans (KpR.set _ hge.out 0 (.slice Av y_.length cv)));clear BKr BKc HO HK hx45_0
    generalize w11.setCell ⟨g,0,none⟩ (.slice Av y_.length cv)=w12 at n0_ n1_ n2_ n3_ ⊢
    have BKr:=n0_;have BKc:=n1_;have HO:=n2_;have HK:=n3_;clear n0_ n1_ n2_ n3_
    go_wp2
    replace BKr:=zA (blk_drew BKr.out);replace BKc:=zA (blk_drew BKc.out);replace HO:=zA (Kd.R_drew HO.out);replace HK:=zA (HK.out.trans (KpR.below (below_drew1 (Below.refl _ _))));obtain ⟨adx,ex,hx45_0⟩:=Kd.at_int (HV.out _ (HK1.out.trans HK.out)) 0 p45 hpos
    cases ex
    (try rw [show ((0:Int)).toNat=0 from rfl] at hx45_0);(try rw [Addr.add_zero'] at hx45_0);refine start_ (n:=11) (S:=fun w'=>w'.cell? ⟨gb,0,none⟩=some (.int .i64 a2_0)∧w'.cell? ⟨gb,1,none⟩=some (.int .i64 a2_1)∧w'.cell? ad45=some (.int .i64 (rd l1 0))) (ds:=[]) (bz 11 0) zK rfl rfl ⟨zc0 BKc,zc1 BKc,hx45_0⟩ (fun hHeld=>?_);refine with_tabW solve_split.tab11 solve_split.bits11 (fun HT_ HW_=>?_)
    generalize w12.drew=w13 at BKr BKc HO HK hx45_0 hHeld ⊢
    refine zP 0 52 (bz 11 1) HT_ ?_;refine zP 1 53 (bz 11 3) HT_ ?_;refine zP 2 54 (bz 11 7) HT_ ?_;refine zP 4 56 (bz 11 23) HT_ ?_;refine zP 5 57 (bz 11 55) HT_ ?_;refine zP 8 60 (bz 11 311) HT_ ?_;refine zQ 3 55 (bz 11 319) HT_ HW_ hHeld ?_;refine zQ 6 58 (bz 11 383) HT_ HW_ hHeld ?_;refine one_ (i:=7) (N:=some 59) (bz 11 511) rfl rfl (one_of HT_.out zK) (by decide) (fun K hK=>?_);refine goes_ Tryz.func120 zK rfl #[.agg #[.int .i64 a2_0,.int .i64 a2_1],.int .i64 (rd l1 0),.int .i64 0] (by rfl) rfl rfl zM ?_
    with_reducible refine (solve_choices_with.calls a2_0 a2_1 (rd l1 0) 0 t81 t82 _ A18.out).mono ?_
    rintro e w14 ⟨rfl,hb⟩;refine ⟨_,rfl,?_⟩;replace BKr:=zA (blk_below BKr.out hb);replace BKc:=zA (blk_below BKc.out hb);replace HO:=zA (Kd.R_below HO.out hb);replace HK:=zA (HK.out.trans (KpR.below (n0:=n0) (g:=g) hb));clear hb hx45_0;obtain ⟨adx,ex,hx45_0⟩:=Kd.at_int (HV.out _ (HK1.out.trans HK.out)) 0 p45 hpos
    cases ex
    (try rw [show ((0:Int)).toNat=0 from rfl] at hx45_0);(try rw [Addr.add_zero'] at hx45_0);refine hK.out _ _ ⟨zc0 BKc,zc1 BKc,hx45_0⟩ (fun hHeld=>?_);clear hK K;refine norm_ (a':=?_) ?_ ?_;rotate_left
    ·show Act.put _ (some 59) _=_
     simp only [Act.put,zi,zs,zt,i64_w,i32_w];rfl
    refine one_ (i:=9) (N:=some 61) (bz 11 1023) rfl rfl (one_of HT_.out zK) (by decide) (fun K hK=>?_);refine goes_ Tryz.func101 zK rfl #[.slice A0 l0.length c0,.slice A23 lt_.length (c1 - 1),.agg #[.int .i64 t81,.int .i64 t82],.pointer (some ⟨g,0,none⟩)] (by rfl) rfl rfl zM ?_
    with_reducible refine (IH.out k (by omega) A23 (c1 - 1) lt_ t81 t82 y_ (.slice Av y_.length cv) q_ qb _ ?side1 ?side2 ?side3 ?side4 ?side5 ?side6 A19.out).mono ?_
    (case side1=>exact HK1.out.trans HK.out);(case side2=>exact Nat.le_trans HN.out HK.out.1);(case side3=>exact HV78.out);(case side4=>exact HC78.out);(case side5=>exact BKr.out);(case side6=>exact HO.out);rintro e w15 ⟨rfl,u_,hbr,hor,hkk⟩;refine ⟨_,rfl,?_⟩;obtain ⟨Aq,cq,rfl⟩:=Kd.R_slice hor;replace BKr:=zA hbr;replace BKc:=zA (KpR.blk hkk BKc.out NE.out (by decide));replace HO:=zA hor;replace HK:=zA (HK.out.trans hkk);clear hbr hor hkk hx45_0;obtain ⟨adx,ex,hx45_0⟩:=Kd.at_int (HV.out _ (HK1.out.trans HK.out)) 0 p45 hpos
    cases ex
    (try rw [show ((0:Int)).toNat=0 from rfl] at hx45_0);(try rw [Addr.add_zero'] at hx45_0);refine hK.out _ _ ⟨zc0 BKc,zc1 BKc,hx45_0⟩ (fun hHeld=>?_);clear hK K;refine norm_ (a':=?_) ?_ ?_;rotate_left
    ·show Act.put _ (some 61) _=_
     simp only [Act.put,zi,zs,zt,i64_w,i32_w];rfl
    refine zP 10 62 (bz 11 2047) HT_ ?_;refine done_ (done_of HT_.out zK) ?_;have H:=HC12.out;clear HC12
    cases qb with
    | false=>
     simp only [Bool.false_eq_true,if_false,Option.some.injEq,Prod.mk.injEq] at H;obtain ⟨rfl,rfl⟩:=H
     go_wp2
     go_ret
     exact ⟨rfl,_,BKr.out,HO.out,HK.out⟩
    | true=>
     simp only [if_true] at H
     by_cases c30:(l3.length:Int)<(q_.length:Int)
     rotate_left
     ·rw [if_neg c30] at H;exact absurd H (by simp)
     rw [if_pos c30] at H;replace H:=Option.bind_eq_some_iff.mp H;obtain ⟨⟨t85,t86⟩,A89,H⟩:=H;have A21:=zA A89;clear A89
     obtain ⟨z_,hz_⟩:∃ y:List (S103),y=q_.set l3.length (⟨(rd_T103 q_ (l3.length:Int)).f0,(rd_T103 q_ (l3.length:Int)).f1,(q_.length:Int),(rd_T103 q_ (l3.length:Int)).f3⟩:S103):=⟨_,rfl⟩
     simp only [← hz_] at H;have A22:=zA H;have Nz:=zA hz_;clear H hz_
     have p25:0≤(l3.length:Int):=by omega
     have c30b0:decide ((l3.length:Int)<(q_.length:Int))=true:=decide_eq_true c30
     go_wp2
     replace BKr:=zA (blk_drew BKr.out);replace BKc:=zA (blk_drew BKc.out);replace HO:=zA (Kd.R_drew HO.out);replace HK:=zA (HK.out.trans (KpR.below (below_drew1 (Below.refl _ _))));obtain ⟨go25,co25,eo25,gb25,gl25,cl25,HG25⟩:=Kd.R_form HO.out (by omega)
     (first|cases eo25|(injection eo25 with ea_ en_ ec_;(first|subst ea_|(injection ea_ with ea_;subst ea_));subst ec_;clear en_))
     clear gb25 gl25 HG25;obtain ⟨ce36,hcl36,hM36,hcc36,hfr36⟩:=Kd.R_elem HO.out z103 (l3.length:Int) p25 c30;obtain rfl:=k103_openM hM36;have HP36:=Kd.R_seg HO.out (l3.length:Int) p25 c30 (seg:=[.int .i64 (q_.length:Int)]) (j:=2) hcl36 hcc36 (show 3≤4 from by decide) (x':=(⟨(rd_T103 q_ (l3.length:Int)).f0,(rd_T103 q_ (l3.length:Int)).f1,(q_.length:Int),(rd_T103 q_ (l3.length:Int)).f3⟩:S103)) (k103_mkM _ _ _ (⟨(rd_T103 q_ (l3.length:Int)).f0,(rd_T103 q_ (l3.length:Int)).f1,(q_.length:Int),(rd_T103 q_ (l3.length:Int)).f3⟩:S103)) (fun _ hk=>hk);have hx36_2:=hcc36 2 _ rfl;(try simp only [show (k103).sz=4 from rfl,Nat.mul_one,Nat.add_zero,Int.toNat_natCast] at hx36_2);have hf36_2:=hfr36 2;(try simp only [show (k103).sz=4 from rfl,Nat.mul_one,Nat.add_zero,Int.toNat_natCast] at hf36_2);clear hcl36 hcc36 hfr36 hM36;simp only [show (k103).sz=4 from rfl,Int.toNat_natCast] at HP36;have HPP:=zA HP36;clear HP36;have p25b:=eq_true p25;have q25b:=eq_true c30;have q25n:(l3.length<q_.length)=True:=eq_true (by omega);refine start_ (n:=13) (S:=fun w'=>w'.cell? ⟨g,0,none⟩=some (.slice (some ⟨go25,0,none⟩) q_.length cq)) (ds:=[12]) (bz 13 0) zK rfl rfl (zc0 BKr) (fun hHeld=>?_);refine with_tabW solve_split.tab13 solve_split.bits13 (fun HT_ HW_=>?_)
     generalize w15.drew=w16 at BKr BKc HO HK HPP hx36_2 hf36_2 hHeld ⊢
     refine zP 0 63 (bz 13 1) HT_ ?_;refine zP 1 64 (bz 13 3) HT_ ?_;refine zP 2 65 (bz 13 7) HT_ ?_;refine zP 4 67 (bz 13 23) HT_ ?_;refine zP 5 68 (bz 13 55) HT_ ?_;refine zP 6 69 (bz 13 119) HT_ ?_;refine zP 7 70 (bz 13 247) HT_ ?_;refine take_ (i:=3) (N:=some 66) (v:=?_) (a':=?_) (bz 13 255) rfl rfl (take_ofW HT_.out HW_.out zK) (fun _ _ _ h=>h) (Or.inl ⟨by rfl,?_⟩) hHeld ?_ ?_;rotate_left
     ·rintro w' s0
      go_simp
      with_reducible rfl
     rotate_left
     ·simp only [Act.put,zi,zs,zt,i64_w,i32_w];rfl
     refine take_ (i:=8) (N:=some 71) (v:=?_) (a':=?_) (bz 13 511) rfl rfl (take_ofW HT_.out HW_.out zK) (fun _ _ _ h=>h) (Or.inl ⟨by rfl,?_⟩) hHeld ?_ ?_;rotate_left
     ·rintro w' s0
      go_simp
      with_reducible rfl
     rotate_left
     ·simp only [Act.put,zi,zs,zt,i64_w,i32_w];rfl
     refine zP 9 72 (bz 13 1023) HT_ ?_;refine zP 10 73 (bz 13 2047) HT_ ?_;refine zP 11 74 (bz 13 4095) HT_ ?_;refine last_ (i:=12) (N:=none) (bz 13 8191) rfl rfl (one_of HT_.out zK) (by decide) (fun K hK=>?_);refine skip_ (w1:=?_) (by rfl) rfl ?_ ?_;rotate_left
     ·go_simp
      rfl
     refine hK.out _ _ ?_;clear hK K;clear hHeld;refine done_ (done_of HT_.out zK) ?_;have hgw:w16.grownBy (w16.setCell ⟨go25,l3.length * 4+2,none⟩ (.int .i64 (q_.length:Int))) (some go25):=HPP.out.2
     have hzl:z_.length=q_.length:=by rw [Nz.out,List.length_set]
     have n0_:=zA (blk_grown BKr.out hgw (Kd.R_ne HO.out BKr.out (by decide)));have n1_:=zA (blk_grown BKc.out hgw (Kd.R_ne HO.out BKc.out (by decide)))
     have n2_:Aside0 (Kd.R k103 103 (w16.setCell ⟨go25,l3.length * 4+2,none⟩ (.int .i64 (q_.length:Int))) n0 (fun _=>True) (.slice (some ⟨go25,0,none⟩) q_.length cq) z_):=⟨by rw [Nz.out];exact HPP.out.1⟩
     have n3_:=zA (HK.out.trans (KpR.grown hgw (fun k e=>by cases e;exact ⟨Kd.R_base HO.out go25 rfl,Kd.R_typed HO.out go25 rfl⟩)));clear BKr BKc HO HK HPP hgw hx36_2 hf36_2
     generalize w16.setCell ⟨go25,l3.length * 4+2,none⟩ (.int .i64 (q_.length:Int))=w17 at n0_ n1_ n2_ n3_ ⊢
     rw [← hzl] at n0_ n2_;have BKr:=n0_;have BKc:=n1_;have HO:=n2_;have HK:=n3_;clear n0_ n1_ n2_ n3_
     go_wp2
     replace BKr:=zA (blk_drew BKr.out);replace BKc:=zA (blk_drew BKc.out);replace HO:=zA (Kd.R_drew HO.out);replace HK:=zA (HK.out.trans (KpR.below (below_drew1 (Below.refl _ _))));obtain ⟨adx,ex,hx45_0⟩:=Kd.at_int (HV.out _ (HK1.out.trans HK.out)) 0 p45 hpos
     cases ex
     (try rw [show ((0:Int)).toNat=0 from rfl] at hx45_0);(try rw [Addr.add_zero'] at hx45_0);refine start_ (n:=11) (S:=fun w'=>w'.cell? ⟨gb,0,none⟩=some (.int .i64 a2_0)∧w'.cell? ⟨gb,1,none⟩=some (.int .i64 a2_1)∧w'.cell? ad45=some (.int .i64 (rd l1 0))) (ds:=[]) (bz 11 0) zK rfl rfl ⟨zc0 BKc,zc1 BKc,hx45_0⟩ (fun hHeld=>?_);refine with_tabW solve_split.tab14 solve_split.bits14 (fun HT_ HW_=>?_)
     generalize w17.drew=w18 at BKr BKc HO HK hx45_0 hHeld ⊢
     refine zP 0 75 (bz 11 1) HT_ ?_;refine zP 1 76 (bz 11 3) HT_ ?_;refine zP 2 77 (bz 11 7) HT_ ?_;refine zP 4 79 (bz 11 23) HT_ ?_;refine zP 5 80 (bz 11 55) HT_ ?_;refine zP 8 83 (bz 11 311) HT_ ?_;refine zQ 3 78 (bz 11 319) HT_ HW_ hHeld ?_;refine zQ 6 81 (bz 11 383) HT_ HW_ hHeld ?_;refine one_ (i:=7) (N:=some 82) (bz 11 511) rfl rfl (one_of HT_.out zK) (by decide) (fun K hK=>?_);refine goes_ Tryz.func120 zK rfl #[.agg #[.int .i64 a2_0,.int .i64 a2_1],.int .i64 (rd l1 0),.int .i64 1] (by rfl) rfl rfl zM ?_
     with_reducible refine (solve_choices_with.calls a2_0 a2_1 (rd l1 0) 1 t85 t86 _ A21.out).mono ?_
     rintro e w19 ⟨rfl,hb⟩;refine ⟨_,rfl,?_⟩;replace BKr:=zA (blk_below BKr.out hb);replace BKc:=zA (blk_below BKc.out hb);replace HO:=zA (Kd.R_below HO.out hb);replace HK:=zA (HK.out.trans (KpR.below (n0:=n0) (g:=g) hb));clear hb hx45_0;obtain ⟨adx,ex,hx45_0⟩:=Kd.at_int (HV.out _ (HK1.out.trans HK.out)) 0 p45 hpos
     cases ex
     (try rw [show ((0:Int)).toNat=0 from rfl] at hx45_0);(try rw [Addr.add_zero'] at hx45_0);refine hK.out _ _ ⟨zc0 BKc,zc1 BKc,hx45_0⟩ (fun hHeld=>?_);clear hK K;refine norm_ (a':=?_) ?_ ?_;rotate_left
     ·show Act.put _ (some 82) _=_
      simp only [Act.put,zi,zs,zt,i64_w,i32_w];rfl
     refine one_ (i:=9) (N:=some 84) (bz 11 1023) rfl rfl (one_of HT_.out zK) (by decide) (fun K hK=>?_);refine goes_ Tryz.func101 zK rfl #[.slice A0 l0.length c0,.slice A23 lt_.length (c1 - 1),.agg #[.int .i64 t85,.int .i64 t86],.pointer (some ⟨g,0,none⟩)] (by rfl) rfl rfl zM ?_
     with_reducible refine (IH.out k (by omega) A23 (c1 - 1) lt_ t85 t86 z_ (.slice (some ⟨go25,0,none⟩) z_.length cq) r b _ ?side1 ?side2 ?side3 ?side4 ?side5 ?side6 A22.out).mono ?_
     (case side1=>exact HK1.out.trans HK.out);(case side2=>exact Nat.le_trans HN.out HK.out.1);(case side3=>exact HV78.out);(case side4=>exact HC78.out);(case side5=>exact BKr.out);(case side6=>exact HO.out);rintro e w20 ⟨rfl,u_,hbr,hor,hkk⟩;refine ⟨_,rfl,?_⟩;obtain ⟨Aq,cq,rfl⟩:=Kd.R_slice hor;replace BKr:=zA hbr;replace BKc:=zA (KpR.blk hkk BKc.out NE.out (by decide));replace HO:=zA hor;replace HK:=zA (HK.out.trans hkk);clear hbr hor hkk hx45_0;obtain ⟨adx,ex,hx45_0⟩:=Kd.at_int (HV.out _ (HK1.out.trans HK.out)) 0 p45 hpos
     cases ex
     (try rw [show ((0:Int)).toNat=0 from rfl] at hx45_0);(try rw [Addr.add_zero'] at hx45_0);refine hK.out _ _ ⟨zc0 BKc,zc1 BKc,hx45_0⟩ (fun hHeld=>?_);clear hK K;refine norm_ (a':=?_) ?_ ?_;rotate_left
     ·show Act.put _ (some 84) _=_
      simp only [Act.put,zi,zs,zt,i64_w,i32_w];rfl
     refine zP 10 8 (bz 11 2047) HT_ ?_;refine done_ (done_of HT_.out zK) ?_
     go_wp2
     go_ret
     exact ⟨rfl,_,BKr.out,HO.out,HK.out⟩
/-- What Refute says,no solution being there. -/
def solve_Refute.of (q:List (S103)×Bool):List (S103)×Int:=if q.2=true then (q.1,0) else ([],3)
def solve_Refute.f (k:Nat) (l0:List (S63)):Option ((List (S103))×Int):=(solve_valid.f k l0).bind fun t62=>(if t62=0 then ((solve_occurring.f k l0).bind fun t57=>((solve_search.f k l0 t57 0 0).bind fun s=>(if (s.length:Int)=0 then ((solve_split.f k l0 t57 0 0 []).bind fun q=>some (solve_Refute.of q)) else (some (([]:List (S103)),11))))) else (some (([]:List (S103)),t62)))
section
attribute [local go_sem] Oper.semAt_some
set_option maxHeartbeats 8000000 in
set_option maxRecDepth 100000 in
theorem solve_Refute.calls (k:Nat) (A0:Option Addr) (c0:Nat) (l0:List (S63)) (r1:List (S103)) (r2:Int) (w:World) (hr0:Kd.C k63 w A0 l0.length l0) (hc0:l0.length≤c0) (h:solve_Refute.f k l0=some (r1,r2)) :
  Calls Tryz.prog 72 #[.slice A0 l0.length c0] w fun e w'=>∃ v0_:Value,e=.returned (.tuple #[.agg #[v0_],.int .i64 r2])∧Kd.R k103 103 w' w.heap.size (fun _=>True) v0_ r1∧Below w.heap.size w w':=by
 have HR0:=zA hr0;have HC0:=zA hc0;clear hr0 hc0;have HB:=zA (Below.refl w.heap.size w);have H:((solve_valid.f k l0).bind fun t62=>(if t62=0 then ((solve_occurring.f k l0).bind fun t57=>((solve_search.f k l0 t57 0 0).bind fun s=>(if (s.length:Int)=0 then ((solve_split.f k l0 t57 0 0 []).bind fun q=>some (solve_Refute.of q)) else (some (([]:List (S103)),11))))) else (some (([]:List (S103)),t62))))=some (r1,r2):=h;clear h;obtain ⟨t62,A2,H⟩:=zo H;have HC3:=zA H;clear H;refine (callsIn_wide (n:=5)).1 ?_;refine callsIn_of_wp_marks Tryz.func72 rfl trivial ?_ rfl;simp only [Tryz.ntmps72,List.size_toArray,List.length_cons,List.length_nil,Nat.reduceAdd,Nat.reduceSub,Array.replicate_succ,Array.replicate_zero,List.push_toArray,List.append_toArray,List.nil_append,List.cons_append];refine wpIn_wide.2 ?_
 go_upto_if 10 with (first|((with_reducible refine gd 2 rfl ?_);refine zx #[.slice none 0 0] 40 ?_;intro gb41 hg w4 BK41 hb GW41 HB1;have GE41:=GW41;clear HB hb hg;have HB:=HB1;clear HB1)|((with_reducible refine gd 3 rfl ?_);refine zx #[.int .i64 0] 26 ?_;intro gb44 hg w5 BK44 hb GW44 HB1;have GE44:=GW44;have NB41_44:=zL hg BK41;have NB44_41:=zLs NB41_44;replace BK41:=zw BK41 hb;clear HB hb hg;have HB:=HB1;clear HB1)|((with_reducible refine gate_callee (f:=69) rfl ?_);refine zgo 8 Tryz.func69 #[.slice A0 l0.length c0] ?_;(with_reducible refine (solve_valid.calls k _ _ l0 t62 _ (zD HR0 HB) HC0.out A2.out).mono ?_);rintro e w6 ⟨rfl,hb⟩;refine ⟨_,rfl,?_⟩;replace BK41:=zw BK41 hb;replace BK44:=zw BK44 hb;replace HB:=zu hb;clear hb))
 (try simp only [Act.put,zi,zs,zt]);have H:=HC3.out;clear HC3
 rcases ife H with ⟨c7b0,c7b1,H⟩|⟨c7,c7b0,c7b1,H⟩
 ·(first|rw [c7b0]|(simp only [i64_w,i32_w];rw [c7b0])|skip)
  (try rw [c7b1]);obtain ⟨t57,A8,H⟩:=zo H;replace H:=Option.bind_eq_some_iff.mp H;obtain ⟨s_,AS0,H⟩:=H;have AS:=zA AS0;clear AS0;have HFS:=zA H;clear H;have HLT41:=zA (blk_lt BK41.out);have HLT44:=zA (blk_lt BK44.out)
  go_wp2_with (first
   | ((with_reducible refine gate_callee (f:=70) rfl ?_);refine zgo 14 Tryz.func70 #[.slice A0 l0.length c0] ?_;(with_reducible refine (solve_occurring.calls k _ _ l0 t57 _ (zD HR0 HB) HC0.out A8.out).mono ?_);rintro e w9 ⟨v48,rfl,ho0,hb⟩;refine ⟨_,rfl,?_⟩;have hn6:=zA hb.size;have HO74:=zA ho0;have HS6:=zA (below_size HB.out);replace BK41:=zw BK41 hb;replace BK44:=zw BK44 hb;replace HB:=zu hb;clear hb ho0;obtain ⟨A48,c48,e48⟩:=Kd.R_slice HO74.out;subst e48))
  refine (solve_solutions.in_ A0 l0.length c0 A48 t57.length c48 0 0 _).mono ?_;rintro e w10 ⟨g0,g1,g2,rfl,hg0,hg1,hs0,hs1,hs2,hb⟩;have n0_:=zA (Kd.R_below HO74.out hb);have n1_:=zA (zb BK41 hb);have n2_:=zA (zb BK44 hb);have n3_:=zA (below_step zB hb);have hn9:=zA hb.size;have hc48:=zA (Kd.R_reads' HO74.out).2.1;clear BK41 BK44 HB HO74 hb hg0 hg1;have HO74:=n0_;have BK41:=n1_;have BK44:=n2_;have HB:=n3_;clear n0_ n1_ n2_ n3_
  go_wp2
  have h67:w6.heap.size≤w10.heap.size:=Nat.le_trans hn6.out hn9.out
  have hL:∀ W',KpS w.heap.size w6.heap.size w10.heap.size w10 W'→Kd.C k63 W' A0 l0.length l0:=fun W' hk=>Kd.C_kept_came k63_heap HR0.out HB.out (fun k hk=>hk.1) W' hk.kept
  have hV:∀ W',KpS w.heap.size w6.heap.size w10.heap.size w10 W'→Kd.C (Kd.int .i64) W' A48 t57.length t57:=fun W' hk=>Kd.C_kept_own (Kd.R_bound HO74.out) (fun k hk hs=>by have h_:=HS6.out;obtain ⟨_,h1,h2,_⟩:=hk;omega) W' hk.kept
  refine (wpIn_wide (n:=5)).1 ?_;refine wpIn_rangeFunc_ownF (n:=5) rfl (by omega) (gf:=103) (lb:=#[.pointer (some ⟨g0,0,none⟩),.pointer (some ⟨g1,0,none⟩),.pointer (some ⟨g2,0,none⟩)]) rfl trivial (enters_of Tryz.func103 zK rfl)
   (solve_solutions_stops w.heap.size w6.heap.size w10.heap.size A0 c0 l0 HC0.out A48 c48 t57 hc48.out 0 0 g0 g1 g2 k s_ w10 (Nat.le_refl _) hL hV AS.out hs0 hs1 hs2)
   KpS.trans (fun W l o o' hl h ho _=>KpS.put (Nat.le_trans HS6.out h67) W l o o' hl h ho) (Below.refl _ _) (fun _=>rfl)
   (fun (pre:List Int) (W:World)=>pre=[]∧W.heap[gb41]?=some (.cells #[.slice none 0 0] 40 (0,0))∧W.heap[gb44]?=some (.cells #[.int .i64 0] 26 (0,0))∧Kd.R (Kd.int .i64) 3 W w6.heap.size (fun _=>True) (.slice A48 t57.length c48) t57∧Below w.heap.size w W)
   (fun c pre W=>c=Code.ret∧(∃ x:Int,pre=[x])∧W.heap[gb41]?=some (.cells #[.slice none 0 0] 40 (0,0))∧W.heap[gb44]?=some (.cells #[.int .i64 11] 26 (0,0))∧Below w.heap.size w W)
   (fun s A B row hs hg hr=>by
    obtain ⟨h0,h1,h2,h4,h3⟩:=hs
    exact ⟨h0,blk_grown h1 hg (ne_row_ hr h1),blk_grown h2 hg (ne_row_ hr h2),Kd.R_mono (Kd.R_grown (Kd.R_bound h4) hg (fun k hk=>by obtain ⟨_,_,_,q,_,cs,hb⟩:=hk;exact ne_row_ hr hb)) (fun _ _=>trivial),h3.grown hg h3.size (fun k e=>Nat.le_trans HB.out.size (hr k e).1)⟩)
   (fun c s A B row hs hg hr=>by
    obtain ⟨e1,e2,h1,h2,h3⟩:=hs
    exact ⟨e1,e2,blk_grown h1 hg (ne_row_ hr h1),blk_grown h2 hg (ne_row_ hr h2),h3.grown hg h3.size (fun k e=>Nat.le_trans HB.out.size (hr k e).1)⟩)
   ⟨rfl,BK41.out,BK44.out,HO74.out,HB.out⟩
   (fun x=>{tmps:=#[.slice A0 l0.length c0,undef,.pointer (some ⟨gb41,0,none⟩),.pointer (some ⟨gb44,0,none⟩),.int .i64 t62,.slice A48 t57.length c48,undef,.slice A0 l0.length c0,.int .i64 t62,.int .i64 t62,.bool false,undef,undef,.slice A0 l0.length c0,.slice A48 t57.length c48,.slice A0 l0.length c0,.slice A48 t57.length c48,.agg #[.int .i64 0,.int .i64 0],.func (.func 103) #[] #[.pointer (some ⟨g0,0,none⟩),.pointer (some ⟨g1,0,none⟩),.pointer (some ⟨g2,0,none⟩)],.int .i64 x,undef,undef,undef,undef,undef,undef,undef,undef],defers:=[]}) ?assign ?body ?done ?stop
  case assign=>
   intro l x W K hK
   gi_wp2
   simpa using hK
  case body=>
   rintro l pre x W ⟨rfl,hb1,hb2,hRv,hbl⟩ _;have hcz0:W.cell? ⟨gb41,0,none⟩=some (.slice none 0 0):=(blk_cell hb1 0).trans rfl;have hfz0:=blk_frozen hb1 0;have hcz1:W.cell? ⟨gb44,0,none⟩=some (.int .i64 0):=(blk_cell hb2 0).trans rfl;have hfz1:=blk_frozen hb2 0;have hnb:=NB41_44.out;have hnc:=NB44_41.out
   gi_wp2
   have h2_:=two_set hb1 hb2 NB41_44.out (.slice none 0 0) (.int .i64 11);exact ⟨two_keep _ _ _ _ _,rfl,⟨x,rfl⟩,h2_.1,h2_.2,below_set (below_set hbl GE41.out) GE44.out⟩
  case done=>
   rintro D ys W hD hys ⟨rfl,hb1,hb2,hRv,hbl⟩ hK;subst hys;have H:=HFS.out;rw [if_pos (show (([]:List Int).length:Int)=0 from rfl)] at H;replace H:=Option.bind_eq_some_iff.mp H;obtain ⟨⟨q_,qb⟩,AQ0,H⟩:=H;have AQ:=zA AQ0;have HFQ:=zA (Option.some.inj H);have BK41:=zA hb1;have BK44:=zA hb2;have HKD:=zA hK;have HRV:=zA hRv;have HBL:=zA hbl;clear hK AQ0 H hb1 hb2 hRv hbl
   dsimp only
   go_wp2_with (first
    | ((with_reducible refine gate_dst (N:=6) rfl ?_);refine box_event ?hg (N:=6) ?hd (cs:=#[.slice none 0 0]) (t:=40) ?hr ?_;(case hd=>rfl);(case hg=>rfl);(case hr=>first|(go_simp;done)|(go_simp;rfl));intro gr hg w11 hbox hb;have BKR:=zA hbox;have GER:=zA (show w.heap.size≤gr by rw [hg];exact HBL.out.size);have ND:=zA (show D≠gr by rw [hg];exact Nat.ne_of_lt (Array.getElem?_eq_some_iff.1 HKD.out).1);have N41:=zA (show gb41≠gr by rw [hg];exact Nat.ne_of_lt (blk_lt BK41.out));have N44:=zA (show gb44≠gr by rw [hg];exact Nat.ne_of_lt (blk_lt BK44.out));replace BK41:=zA (blk_below BK41.out hb);replace BK44:=zA (blk_below BK44.out hb);replace HRV:=zA (Kd.R_below HRV.out hb);replace HBL:=zA (below_step HBL.out hb);replace HKD:=zA ((hb.block D (Array.getElem?_eq_some_iff.1 HKD.out).1).trans HKD.out);clear hbox hb hg))
   have hLs:∀ W',KpR w.heap.size gr w11 W'→Kd.C k63 W' A0 l0.length l0:=fun W' hk=>Kd.C_kept_came k63_heap HR0.out HBL.out (fun k hk=>hk.1) W' hk.kept
   have hVs:∀ W',KpR w.heap.size gr w11 W'→Kd.C (Kd.int .i64) W' A48 t57.length t57:=fun W' hk=>Kd.C_kept_own (Kd.R_bound HRV.out) (fun k hk hs=>by
    obtain ⟨_,_,_,q,hq,cs,hbk⟩:=hk;have hq':q∈([3]:List Nat):=hq
    have e3:q=3:=by simpa using hq'
    subst e3;obtain ⟨_,rfl|⟨cs',hc⟩⟩:=hs
    ·rw [BKR.out] at hbk;cases hbk
    ·rw [hc] at hbk;cases hbk) W' hk.kept
   have hcallS:=zA (solve_split.in_ w.heap.size gr GER.out w11 A0 c0 l0 HC0.out hLs k A48 c48 t57 0 0 [] (.slice none 0 0) q_ qb w11 (KpR.refl _) HBL.out.size hVs hc48.out BKR.out (Kd.R_nil _ _ _ _ _) AQ.out);refine hcallS.out.mono ?_;clear hcallS hLs hVs;rintro e w12 ⟨rfl,u_,hbr,hor,hkk⟩;have n0_:=zA (KpR.blk hkk BK41.out N41.out (by decide));have n1_:=zA (KpR.blk hkk BK44.out N44.out (by decide));have n4_:=zA (KpR.other hkk HKD.out ND.out rfl);have n3_:=zA (HBL.out.trans (KpR.belowN hkk HBL.out.size));clear BK41 BK44 HBL HKD HRV BKR hkk;have BK41:=n0_;have BK44:=n1_;have HBL:=n3_;have HKD:=n4_;have BKR:=zA hbr;have HOR:=zA hor;clear n0_ n1_ n3_ n4_ hbr hor;have hcz0:w12.cell? ⟨gb41,0,none⟩=some (.slice none 0 0):=zc0 BK41;have hfz0:=zf BK41 0;have hcz1:w12.cell? ⟨gb44,0,none⟩=some (.int .i64 0):=zc0 BK44;have hfz1:=zf BK44 0;have hcz2:w12.cell? ⟨gr,0,none⟩=some u_:=zc0 BKR;have hfz2:=blk_frozen BKR.out 0;have hnb:=NB41_44.out;have hnc:=NB44_41.out;have e_:=HFQ.out;obtain ⟨Ar,cr,rfl⟩:=Kd.R_slice HOR.out
   cases qb with
   | false=>
    simp only [solve_Refute.of,Bool.false_eq_true,if_false,Prod.mk.injEq] at e_;obtain ⟨rfl,rfl⟩:=e_
    go_wp2
    have h2_:=two_set BK41.out BK44.out NB41_44.out (.slice none 0 0) (.int .i64 3);have hKD:=(two_keep w12 gb41 gb44 (.slice none 0 0) (.int .i64 3)).same D _ HKD.out rfl;have hbl2:Below w.heap.size w ((w12.setCell ⟨gb41,0,none⟩ (.slice none 0 0)).setCell ⟨gb44,0,none⟩ (.int .i64 3)):=below_set (below_set HBL.out GE41.out) GE44.out;refine ⟨by simp,.inl ⟨_,_,rfl,run_takeDeferred hKD,?_⟩⟩;exact ⟨_,results_two rfl _ _ gb41 gb44 _ _ rfl rfl (run_loadVar_row _ _ 40 40 _ (0,0) _ (blk_deferred h2_.1 hKD _) Tryz.underlying40 rfl zK) (run_loadVar_one _ _ 26 26 _ (0,0) _ (blk_deferred h2_.2 hKD _) Tryz.underlying26 rfl),_,rfl,Kd.R_nil _ _ _ _ _,hbl2.grown (grownBy_putObj' _ D _) hbl2.size (fun k e=>by cases e;exact Nat.le_trans HB.out.size hD)⟩
   | true=>
    simp only [solve_Refute.of,if_true,Prod.mk.injEq] at e_;obtain ⟨rfl,rfl⟩:=e_
    go_wp2
    have h2_:=two_set BK41.out BK44.out NB41_44.out (.slice Ar q_.length cr) (.int .i64 0);have hKD:=(two_keep w12 gb41 gb44 (.slice Ar q_.length cr) (.int .i64 0)).same D _ HKD.out rfl;have hbl2:Below w.heap.size w ((w12.setCell ⟨gb41,0,none⟩ (.slice Ar q_.length cr)).setCell ⟨gb44,0,none⟩ (.int .i64 0)):=below_set (below_set HBL.out GE41.out) GE44.out
    have hR2:Kd.R k103 103 ((w12.setCell ⟨gb41,0,none⟩ (.slice Ar q_.length cr)).setCell ⟨gb44,0,none⟩ (.int .i64 0)) w.heap.size (fun _=>True) (.slice Ar q_.length cr) q_:=
     Kd.R_mono (Kd.R_far (p:=⟨gb44,0,none⟩) (Kd.R_far (p:=⟨gb41,0,none⟩) (Kd.R_types (Kd.R_types HOR.out BK41.out (by decide)) BK44.out (by decide)) (fun _ hk=>hk.1.2) _) (fun _ hk=>hk.2) _) (fun _ _=>trivial)
    refine ⟨by simp,.inl ⟨_,_,rfl,run_takeDeferred hKD,?_⟩⟩;refine ⟨_,results_two rfl _ _ gb41 gb44 _ _ rfl rfl (run_loadVar_row _ _ 40 40 _ (0,0) _ (blk_deferred h2_.1 hKD _) Tryz.underlying40 rfl zK) (run_loadVar_one _ _ 26 26 _ (0,0) _ (blk_deferred h2_.2 hKD _) Tryz.underlying26 rfl),_,rfl,?_,hbl2.grown (grownBy_putObj' _ D _) hbl2.size (fun k e=>by cases e;exact Nat.le_trans HB.out.size hD)⟩;exact Kd.R_mono (Kd.R_grown (Kd.R_bound hR2) (grownBy_putObj' _ D (.deferred none)) (fun k hk e=>by obtain ⟨_,_,_,q,_,cs,hb⟩:=hk;cases e;rw [hKD] at hb;cases hb)) (fun _ _=>trivial)
  case stop=>
   rintro D c pre W hD hSp ⟨rfl,⟨x,rfl⟩,hb1,hb2,hbl⟩ hK;refine wpIn_wide.2 ?_
   go_wp2
   obtain ⟨z_,rfl⟩:=hSp;have e_:=HFS.out;rw [if_neg (by simp;omega)] at e_;simp only [Option.some.injEq,Prod.mk.injEq] at e_;obtain ⟨rfl,rfl⟩:=e_;refine ⟨by simp,.inl ⟨_,_,rfl,run_takeDeferred hK,?_⟩⟩;exact ⟨_,results_two rfl _ _ gb41 gb44 _ _ rfl rfl (run_loadVar_row _ _ 40 40 _ (0,0) _ (blk_deferred hb1 hK _) Tryz.underlying40 rfl zK) (run_loadVar_one _ _ 26 26 _ (0,0) _ (blk_deferred hb2 hK _) Tryz.underlying26 rfl),_,rfl,Kd.R_nil _ _ _ _ _,hbl.grown (grownBy_putObj' _ D _) hbl.size (fun k e=>by cases e;exact Nat.le_trans HB.out.size hD)⟩
 ·(first|rw [c7b0]|(simp only [i64_w,i32_w];rw [c7b0])|skip)
  (try rw [c7b1]);simp only [Option.some.injEq,Prod.mk.injEq] at H;obtain ⟨rfl,rfl⟩:=H;have hnb13:=NB41_44.out;have hnc13:=NB44_41.out;have hcz14_0:=zc0 BK41;have hfz14_0:=zf BK41 0;have hcz15_0:=zc0 BK44;have hfz15_0:=zf BK44 0
  go_wp2
  have h2_:=two_set BK41.out BK44.out NB41_44.out (.slice none 0 0) (.int .i64 t62);exact ⟨_,results_two rfl _ _ gb41 gb44 _ _ rfl rfl (run_loadVar_row _ _ 40 40 _ (0,0) _ h2_.1 Tryz.underlying40 rfl zK) (run_loadVar_one _ _ 26 26 _ (0,0) _ h2_.2 Tryz.underlying26 rfl),_,rfl,Kd.R_nil _ _ _ _ _,below_set (below_set HB.out GE41.out) GE44.out⟩
end
def shared_evidence.f (k:Nat) (l0:List (S63)) (a1:Int):Option (Int×Int×Int×Int×Int×(List (S103))×Int):=(shared_with.f k l0 a1 0).bind fun bt59=>((shared_with.f k l0 a1 1).bind fun bt51=>(if bt59.2.2=true then (if bt51.2.2=true then (some (a1,3,0,bt59.2.1,bt51.2.1,([]:List (S103)),0)) else ((solve_Refute.f k bt51.1).bind fun bt52=>(some (a1,1,bt59.2.1,0,0,bt52.1,bt52.2)))) else ((solve_Refute.f k bt59.1).bind fun bt58=>(some (a1,2,bt51.2.1,0,0,bt58.1,bt58.2)))))
set_option maxHeartbeats 8000000 in
set_option maxRecDepth 100000 in
theorem shared_evidence.calls (k:Nat) (A0:Option Addr) (c0:Nat) (l0:List (S63)) (a1:Int) (r1:Int) (r2:Int) (r3:Int) (r4:Int) (r5:Int) (r6:List (S103)) (r7:Int) (w:World) (hr0:Kd.C k63 w A0 l0.length l0) (hc0:l0.length≤c0) (h:shared_evidence.f k l0 a1=some (r1,r2,r3,r4,r5,r6,r7)) :
  Calls Tryz.prog 37 #[.slice A0 l0.length c0,.int .i64 a1] w fun e w'=>∃ v5_:Value,e=.returned (.tuple #[.agg #[.int .i64 r1,.int .i64 r2,.int .i64 r3,.int .i64 r4,.int .i64 r5,v5_],.int .i64 r7])∧Kd.R k103 103 w' w.heap.size (fun _=>True) v5_ r6∧Below w.heap.size w w':=by
 have HR0:=zA hr0;have HC0:=zA hc0;clear hr0 hc0;have HB:=zA (Below.refl w.heap.size w);have H:((shared_with.f k l0 a1 0).bind fun bt59=>((shared_with.f k l0 a1 1).bind fun bt51=>(if bt59.2.2=true then (if bt51.2.2=true then (some (a1,3,0,bt59.2.1,bt51.2.1,([]:List (S103)),0)) else ((solve_Refute.f k bt51.1).bind fun bt52=>(some (a1,1,bt59.2.1,0,0,bt52.1,bt52.2)))) else ((solve_Refute.f k bt59.1).bind fun bt58=>(some (a1,2,bt51.2.1,0,0,bt58.1,bt58.2))))))=some (r1,r2,r3,r4,r5,r6,r7):=h;clear h;replace H:=Option.bind_eq_some_iff.mp H;obtain ⟨⟨t59,t54,t79⟩,A30,H⟩:=H;replace H:((shared_with.f k l0 a1 1).bind fun bt51=>(if t79=true then (if bt51.2.2=true then (some (a1,3,0,t54,bt51.2.1,([]:List (S103)),0)) else ((solve_Refute.f k bt51.1).bind fun bt52=>(some (a1,1,t54,0,0,bt52.1,bt52.2)))) else ((solve_Refute.f k t59).bind fun bt58=>(some (a1,2,bt51.2.1,0,0,bt58.1,bt58.2)))))=some (r1,r2,r3,r4,r5,r6,r7):=H;have A3:=zA A30;clear A30;replace H:=Option.bind_eq_some_iff.mp H;obtain ⟨⟨t51,t60,t80⟩,A40,H⟩:=H;replace H:(if t79=true then (if t80=true then (some (a1,3,0,t54,t60,([]:List (S103)),0)) else ((solve_Refute.f k t51).bind fun bt52=>(some (a1,1,t54,0,0,bt52.1,bt52.2)))) else ((solve_Refute.f k t59).bind fun bt58=>(some (a1,2,t60,0,0,bt58.1,bt58.2))))=some (r1,r2,r3,r4,r5,r6,r7):=H;have A4:=zA A40;clear A40;have HC5:=zA H;clear H
 go_enter Tryz.func37,Tryz.ntmps37
 go_upto_region 7 with (first|((with_reducible refine gd 4 rfl ?_);refine zx #[.int .i64 0,.int .i64 0,.int .i64 0,.int .i64 0,.int .i64 0,.slice none 0 0] 42 ?_;intro gb34 hg w6 BK34 hb GW34 HB1;have GE34:=GW34;clear HB hb hg;have HB:=HB1;clear HB1)|((with_reducible refine gd 6 rfl ?_);refine zx #[.int .i64 0,.int .i64 0,.int .i64 0,.int .i64 0,.int .i64 0,.slice none 0 0] 42 ?_;intro gb33 hg w7 BK33 hb GW33 HB1;have GE33:=GW33;have NB34_33:=zL hg BK34;have NB33_34:=zLs NB34_33;replace BK34:=zw BK34 hb;clear HB hb hg;have HB:=HB1;clear HB1;have hnb8:=NB33_34.out;have hnc8:=NB34_33.out;have hcz9_0:=zc0 BK33;have hcz9_1:=zc1 BK33;have hcz9_2:=zc2 BK33;have hcz9_3:=zc3 BK33;have hcz9_4:w7.cell? ⟨gb33,4,none⟩=some (.int .i64 0):=zc4 BK33;have hcz9_5:w7.cell? ⟨gb33,5,none⟩=some (.slice none 0 0):=zc5 BK33;have hfz9_0:=zf BK33)|((with_reducible refine gate_callee (f:=71) rfl ?_);refine zgo 19 Tryz.func71 #[.slice A0 l0.length c0,.int .i64 a1,.int .i64 0] ?_;(with_reducible refine (shared_with.calls k _ _ l0 a1 0 t59 t54 t79 _ ?side1 HC0.out A3.out).mono ?_);(case side1=>exact Kd.C_below HR0.out zB);rintro e w10 ⟨v94,rfl,ho0,hb⟩;refine ⟨_,rfl,?_⟩;have HO65:=zA (Kd.S_lower ho0 (below_size zB));replace BK34:=zA (blk_below (g:=gb34) (o:=.cells #[.int .i64 0,.int .i64 0,.int .i64 0,.int .i64 0,.int .i64 0,.slice none 0 0] 42 (0,0)) (by refine zj ?_;refine blk_far ?_ NB34_33.out _;refine zj ?_;refine blk_far ?_ NB34_33.out _;refine zj ?_;refine blk_far ?_ NB34_33.out _;refine zj ?_;refine blk_far ?_ NB34_33.out _;refine zj ?_;refine blk_far ?_ NB34_33.out _;refine zj ?_;refine blk_far ?_ NB34_33.out _;refine zj ?_;exact BK34.out) hb);replace BK33:=zA (blk_below (g:=gb33) (o:=.cells #[.int .i64 a1,.int .i64 0,.int .i64 0,.int .i64 0,.int .i64 0,.slice none 0 0] 42 (0,0)) (by refine zj ?_;refine blk_put (cs:=#[.int .i64 a1,.int .i64 0,.int .i64 0,.int .i64 0,.int .i64 0,.slice none 0 0]) ?_ 5 _ rfl;refine zj ?_;refine blk_put (cs:=#[.int .i64 a1,.int .i64 0,.int .i64 0,.int .i64 0,.int .i64 0,.slice none 0 0]) ?_ 4 _ rfl;refine zj ?_;refine blk_put (cs:=#[.int .i64 a1,.int .i64 0,.int .i64 0,.int .i64 0,.int .i64 0,.slice none 0 0]) ?_ 3 _ rfl;refine zj ?_;refine blk_put (cs:=#[.int .i64 a1,.int .i64 0,.int .i64 0,.int .i64 0,.int .i64 0,.slice none 0 0]) ?_ 2 _ rfl;refine zj ?_;refine blk_put (cs:=#[.int .i64 a1,.int .i64 0,.int .i64 0,.int .i64 0,.int .i64 0,.slice none 0 0]) ?_ 1 _ rfl;refine zj ?_;refine blk_put (cs:=#[.int .i64 0,.int .i64 0,.int .i64 0,.int .i64 0,.int .i64 0,.slice none 0 0]) ?_ 0 _ rfl;refine zj ?_;exact BK33.out) hb);replace HB:=zu hb;clear hb;(try clear ho0))|((with_reducible refine gate_callee (f:=71) rfl ?_);refine zgo 26 Tryz.func71 #[.slice A0 l0.length c0,.int .i64 a1,.int .i64 1] ?_;(with_reducible refine (shared_with.calls k _ _ l0 a1 1 t51 t60 t80 _ (zD HR0 HB) HC0.out A4.out).mono ?_);rintro e w11 ⟨v95,rfl,ho0,hb⟩;refine ⟨_,rfl,?_⟩;have HO75:=zA (Kd.S_lower (Kd.S_new' ho0 (Kd.S_lt (zS HO65))) (below_size zB));replace HO65:=zA (Kd.S_elder' (zS HO65) (Kd.S_base ho0) hb);replace BK34:=zw BK34 hb;replace BK33:=zw BK33 hb;replace HB:=zu hb;clear hb;(try clear ho0)))
 (try simp only [Act.put,zi,zs,zt]);have H:=HC5.out;clear HC5
 by_cases c12:t79=true
 ·subst c12
  have H1:(if t80=true then (some (a1,3,0,t54,t60,([]:List (S103)),0)) else ((solve_Refute.f k t51).bind fun bt52=>(some (a1,1,t54,0,0,bt52.1,bt52.2))))=some (r1,r2,r3,r4,r5,r6,r7):=by rw [if_pos rfl] at H;exact H
  clear H;have H:=H1;clear H1
  by_cases c13:t80=true
  ·subst c13
   have H1:(some (a1,3,0,t54,t60,([]:List (S103)),0))=some (r1,r2,r3,r4,r5,r6,r7):=by rw [if_pos rfl] at H;exact H
   clear H;have H:=H1;clear H1;simp only [Option.some.injEq,Prod.mk.injEq] at H;obtain ⟨rfl,rfl,rfl,rfl,rfl,rfl,rfl⟩:=H;have hnb14:=NB33_34.out;have hnc14:=NB34_33.out;have hcz15_0:=zc0 BK33;have hcz15_1:=zc1 BK33;have hcz15_2:=zc2 BK33;have hcz15_3:=zc3 BK33;have hcz15_4:w11.cell? ⟨gb33,4,none⟩=some (.int .i64 0):=zc4 BK33;have hcz15_5:w11.cell? ⟨gb33,5,none⟩=some (.slice none 0 0):=zc5 BK33;have hfz15_0:=zf BK33;have hcz16_0:=zc0 BK34;have hcz16_1:=zc1 BK34;have hcz16_2:=zc2 BK34;have hcz16_3:=zc3 BK34;have hcz16_4:w11.cell? ⟨gb34,4,none⟩=some (.int .i64 0):=zc4 BK34;have hcz16_5:w11.cell? ⟨gb34,5,none⟩=some (.slice none 0 0):=zc5 BK34;have hfz16_0:=zf BK34
   go_wp2
   refine bodyPost_ret (results_ct rfl _ _ gb34 42 #[.int .i64 a1,.int .i64 3,.int .i64 0,.int .i64 t54,.int .i64 t60,.slice none 0 0] (0,0) _ rfl (by refine zj ?_;refine blk_put (cs:=#[.int .i64 a1,.int .i64 3,.int .i64 0,.int .i64 t54,.int .i64 t60,.slice none 0 0]) ?_ 5 _ rfl;refine zj ?_;refine blk_put (cs:=#[.int .i64 a1,.int .i64 3,.int .i64 0,.int .i64 t54,.int .i64 0,.slice none 0 0]) ?_ 4 _ rfl;refine zj ?_;refine blk_put (cs:=#[.int .i64 a1,.int .i64 3,.int .i64 0,.int .i64 0,.int .i64 0,.slice none 0 0]) ?_ 3 _ rfl;refine zj ?_;refine blk_put (cs:=#[.int .i64 a1,.int .i64 3,.int .i64 0,.int .i64 0,.int .i64 0,.slice none 0 0]) ?_ 2 _ rfl;refine zj ?_;refine blk_put (cs:=#[.int .i64 a1,.int .i64 0,.int .i64 0,.int .i64 0,.int .i64 0,.slice none 0 0]) ?_ 1 _ rfl;refine zj ?_;refine blk_put (cs:=#[.int .i64 0,.int .i64 0,.int .i64 0,.int .i64 0,.int .i64 0,.slice none 0 0]) ?_ 0 _ rfl;refine zj ?_;refine blk_far ?_ NB34_33.out _;refine zj ?_;refine blk_far ?_ NB34_33.out _;refine zj ?_;refine blk_far ?_ NB34_33.out _;refine zj ?_;exact BK34.out) Tryz.underlying42 rfl zK) rfl ?_;exact ⟨_,ze,by first|exact Kd.R_nil _ _ _ _ _|exact Kd.N_nil _ _ _ _ _|exact Kd.V_nil _ _ _ _ _|exact Kd.Q_nil _ _ _ _ _|exact Kd.S_nil _ _ _ _ _,zv2 HB GE34 GE33⟩
  ·replace c13:=Bool.eq_false_iff.mpr c13;subst c13
   have H1:((solve_Refute.f k t51).bind fun bt52=>(some (a1,1,t54,0,0,bt52.1,bt52.2)))=some (r1,r2,r3,r4,r5,r6,r7):=by rw [if_neg (show ¬ (false=true) by decide)] at H;exact H
   clear H;have H:=H1;clear H1;obtain ⟨t52,t96,A17,H⟩:=zO H
   dsimp only at H
   simp only [Option.some.injEq,Prod.mk.injEq] at H;obtain ⟨rfl,rfl,rfl,rfl,rfl,rfl,rfl⟩:=H;have hnb18:=NB33_34.out;have hnc18:=NB34_33.out;have hcz19_0:=zc0 BK33;have hcz19_1:=zc1 BK33;have hcz19_2:=zc2 BK33;have hcz19_3:=zc3 BK33;have hcz19_4:w11.cell? ⟨gb33,4,none⟩=some (.int .i64 0):=zc4 BK33;have hcz19_5:w11.cell? ⟨gb33,5,none⟩=some (.slice none 0 0):=zc5 BK33;have hfz19_0:=zf BK33;obtain ⟨Ao20,co20,eo20⟩:=Kd.S_slice HO75.out;subst eo20
   go_wp2_with (first|((with_reducible refine gate_callee (f:=72) rfl ?_);refine zgo 56 Tryz.func72 #[.slice Ao20 t51.length co20] ?_;(with_reducible refine (solve_Refute.calls k _ _ t51 t52 t96 _ ?side1 ?side2 A17.out).mono ?_);(case side1=>refine (Kd.S_reads' (e:=63) (base:=w.heap.size) (ok:=fun k_=>(True∧some k_≠(v94:Value).ownBlock)) (n:=t51.length) (c:=co20) ?_).2.2;exact (by (with_reducible repeat (first|apply Kd.S_alloc|apply Kd.S_drewN|apply Kd.S_drew));exact (Kd.S_mono (Kd.S_far (p:=⟨gb33,2,none⟩) (Kd.S_far (p:=⟨gb33,1,none⟩) (Kd.S_types HO75.out BK33.out (by decide)) (fun _ hk=>hk.2) (.int .i64 1)) (fun _ hk=>hk.2) (.int .i64 t54)) (fun _ h_=>h_.1))));(case side2=>exact (Kd.S_reads' HO75.out).2.1);rintro e w21 ⟨v99,rfl,ho0,hb⟩;refine ⟨_,rfl,?_⟩;have HO90:=zA (Kd.R_lower ho0 (below_size zB));replace HO65:=zA (Kd.S_below (by (with_reducible repeat (first|apply Kd.S_alloc|apply Kd.S_drewN|apply Kd.S_drew));exact (Kd.S_mono (Kd.S_far (p:=⟨gb33,2,none⟩) (Kd.S_far (p:=⟨gb33,1,none⟩) (Kd.S_types HO65.out BK33.out (by decide)) (fun _ hk=>hk.2) (.int .i64 1)) (fun _ hk=>hk.2) (.int .i64 t54)) (fun _ h_=>h_.1))) hb);replace HO75:=zA (Kd.S_below (by (with_reducible repeat (first|apply Kd.S_alloc|apply Kd.S_drewN|apply Kd.S_drew));exact (Kd.S_mono (Kd.S_far (p:=⟨gb33,2,none⟩) (Kd.S_far (p:=⟨gb33,1,none⟩) (Kd.S_types HO75.out BK33.out (by decide)) (fun _ hk=>hk.2) (.int .i64 1)) (fun _ hk=>hk.2) (.int .i64 t54)) (fun _ h_=>h_.1))) hb);replace BK34:=zA (blk_below (g:=gb34) (o:=.cells #[.int .i64 0,.int .i64 0,.int .i64 0,.int .i64 0,.int .i64 0,.slice none 0 0] 42 (0,0)) (by refine zj ?_;refine blk_far ?_ NB34_33.out _;refine zj ?_;refine blk_far ?_ NB34_33.out _;refine zj ?_;exact BK34.out) hb);replace BK33:=zA (blk_below (g:=gb33) (o:=.cells #[.int .i64 a1,.int .i64 1,.int .i64 t54,.int .i64 0,.int .i64 0,.slice none 0 0] 42 (0,0)) (by refine zj ?_;refine blk_put (cs:=#[.int .i64 a1,.int .i64 1,.int .i64 0,.int .i64 0,.int .i64 0,.slice none 0 0]) ?_ 2 _ rfl;refine zj ?_;refine blk_put (cs:=#[.int .i64 a1,.int .i64 0,.int .i64 0,.int .i64 0,.int .i64 0,.slice none 0 0]) ?_ 1 _ rfl;refine zj ?_;exact BK33.out) hb);replace HB:=zu hb;clear hb;(try clear ho0);obtain ⟨Ao22,co22,eo22⟩:=Kd.R_slice HO90.out;subst eo22;have hcz23_0:=zc0 BK33;have hcz23_1:=zc1 BK33;have hcz23_2:=zc2 BK33;have hcz23_3:=zc3 BK33;have hcz23_4:w21.cell? ⟨gb33,4,none⟩=some (.int .i64 0):=zc4 BK33;have hcz23_5:w21.cell? ⟨gb33,5,none⟩=some (.slice none 0 0):=zc5 BK33;have hfz23_0:=zf BK33;have hcz24_0:=zc0 BK34;have hcz24_1:=zc1 BK34;have hcz24_2:=zc2 BK34;have hcz24_3:=zc3 BK34;have hcz24_4:w21.cell? ⟨gb34,4,none⟩=some (.int .i64 0):=zc4 BK34;have hcz24_5:w21.cell? ⟨gb34,5,none⟩=some (.slice none 0 0):=zc5 BK34;have hfz24_0:=zf BK34))
   refine bodyPost_ret (results_ct rfl _ _ gb34 42 #[.int .i64 a1,.int .i64 1,.int .i64 t54,.int .i64 0,.int .i64 0,.slice Ao22 t52.length co22] (0,0) _ rfl (by refine zj ?_;refine blk_put (cs:=#[.int .i64 a1,.int .i64 1,.int .i64 t54,.int .i64 0,.int .i64 0,.slice none 0 0]) ?_ 5 _ rfl;refine zj ?_;refine blk_put (cs:=#[.int .i64 a1,.int .i64 1,.int .i64 t54,.int .i64 0,.int .i64 0,.slice none 0 0]) ?_ 4 _ rfl;refine zj ?_;refine blk_put (cs:=#[.int .i64 a1,.int .i64 1,.int .i64 t54,.int .i64 0,.int .i64 0,.slice none 0 0]) ?_ 3 _ rfl;refine zj ?_;refine blk_put (cs:=#[.int .i64 a1,.int .i64 1,.int .i64 0,.int .i64 0,.int .i64 0,.slice none 0 0]) ?_ 2 _ rfl;refine zj ?_;refine blk_put (cs:=#[.int .i64 a1,.int .i64 0,.int .i64 0,.int .i64 0,.int .i64 0,.slice none 0 0]) ?_ 1 _ rfl;refine zj ?_;refine blk_put (cs:=#[.int .i64 0,.int .i64 0,.int .i64 0,.int .i64 0,.int .i64 0,.slice none 0 0]) ?_ 0 _ rfl;refine zj ?_;refine blk_far ?_ NB34_33.out _;refine zj ?_;exact BK34.out) Tryz.underlying42 rfl zK) rfl ?_;exact ⟨_,ze,by refine zr ?_;exact Kd.R_mono (Kd.R_far (p:=⟨gb34,5,none⟩) (Kd.R_far (p:=⟨gb34,4,none⟩) (Kd.R_far (p:=⟨gb34,3,none⟩) (Kd.R_far (p:=⟨gb34,2,none⟩) (Kd.R_far (p:=⟨gb34,1,none⟩) (Kd.R_far (p:=⟨gb34,0,none⟩) (Kd.R_far (p:=⟨gb33,5,none⟩) (Kd.R_types (Kd.R_types HO90.out BK33.out (by decide)) BK34.out (by decide)) (fun _ hk=>hk.1.2) (.slice Ao22 t52.length co22)) (fun _ hk=>hk.2) (.int .i64 a1)) (fun _ hk=>hk.2) (.int .i64 1)) (fun _ hk=>hk.2) (.int .i64 t54)) (fun _ hk=>hk.2) (.int .i64 0)) (fun _ hk=>hk.2) (.int .i64 0)) (fun _ hk=>hk.2) (.slice Ao22 t52.length co22)) (fun _ hk=>trivial),zv2 HB GE34 GE33⟩
 ·replace c12:=Bool.eq_false_iff.mpr c12;subst c12
  have H1:((solve_Refute.f k t59).bind fun bt58=>(some (a1,2,t60,0,0,bt58.1,bt58.2)))=some (r1,r2,r3,r4,r5,r6,r7):=by rw [if_neg (show ¬ (false=true) by decide)] at H;exact H
  clear H;have H:=H1;clear H1;obtain ⟨t58,t97,A25,H⟩:=zO H
  dsimp only at H
  simp only [Option.some.injEq,Prod.mk.injEq] at H;obtain ⟨rfl,rfl,rfl,rfl,rfl,rfl,rfl⟩:=H;have hnb26:=NB33_34.out;have hnc26:=NB34_33.out;have hcz27_0:=zc0 BK33;have hcz27_1:=zc1 BK33;have hcz27_2:=zc2 BK33;have hcz27_3:=zc3 BK33;have hcz27_4:w11.cell? ⟨gb33,4,none⟩=some (.int .i64 0):=zc4 BK33;have hcz27_5:w11.cell? ⟨gb33,5,none⟩=some (.slice none 0 0):=zc5 BK33;have hfz27_0:=zf BK33;obtain ⟨Ao28,co28,eo28⟩:=Kd.S_slice HO65.out;subst eo28
  go_wp2_with (first|((with_reducible refine gate_callee (f:=72) rfl ?_);refine zgo 35 Tryz.func72 #[.slice Ao28 t59.length co28] ?_;(with_reducible refine (solve_Refute.calls k _ _ t59 t58 t97 _ ?side1 ?side2 A25.out).mono ?_);(case side1=>refine (Kd.S_reads' (e:=63) (base:=w.heap.size) (ok:=fun k_=>(True∧some k_≠(v95:Value).ownBlock)) (n:=t59.length) (c:=co28) ?_).2.2;exact (by (with_reducible repeat (first|apply Kd.S_alloc|apply Kd.S_drewN|apply Kd.S_drew));exact (Kd.S_mono (Kd.S_far (p:=⟨gb33,2,none⟩) (Kd.S_far (p:=⟨gb33,1,none⟩) (Kd.S_types HO65.out BK33.out (by decide)) (fun _ hk=>hk.2) (.int .i64 2)) (fun _ hk=>hk.2) (.int .i64 t60)) (fun _ h_=>h_.1))));(case side2=>exact (Kd.S_reads' HO65.out).2.1);rintro e w29 ⟨v345,rfl,ho0,hb⟩;refine ⟨_,rfl,?_⟩;have HO91:=zA (Kd.R_lower ho0 (below_size zB));replace HO65:=zA (Kd.S_below (by (with_reducible repeat (first|apply Kd.S_alloc|apply Kd.S_drewN|apply Kd.S_drew));exact (Kd.S_mono (Kd.S_far (p:=⟨gb33,2,none⟩) (Kd.S_far (p:=⟨gb33,1,none⟩) (Kd.S_types HO65.out BK33.out (by decide)) (fun _ hk=>hk.2) (.int .i64 2)) (fun _ hk=>hk.2) (.int .i64 t60)) (fun _ h_=>h_.1))) hb);replace HO75:=zA (Kd.S_below (by (with_reducible repeat (first|apply Kd.S_alloc|apply Kd.S_drewN|apply Kd.S_drew));exact (Kd.S_mono (Kd.S_far (p:=⟨gb33,2,none⟩) (Kd.S_far (p:=⟨gb33,1,none⟩) (Kd.S_types HO75.out BK33.out (by decide)) (fun _ hk=>hk.2) (.int .i64 2)) (fun _ hk=>hk.2) (.int .i64 t60)) (fun _ h_=>h_.1))) hb);replace BK34:=zA (blk_below (g:=gb34) (o:=.cells #[.int .i64 0,.int .i64 0,.int .i64 0,.int .i64 0,.int .i64 0,.slice none 0 0] 42 (0,0)) (by refine zj ?_;refine blk_far ?_ NB34_33.out _;refine zj ?_;refine blk_far ?_ NB34_33.out _;refine zj ?_;exact BK34.out) hb);replace BK33:=zA (blk_below (g:=gb33) (o:=.cells #[.int .i64 a1,.int .i64 2,.int .i64 t60,.int .i64 0,.int .i64 0,.slice none 0 0] 42 (0,0)) (by refine zj ?_;refine blk_put (cs:=#[.int .i64 a1,.int .i64 2,.int .i64 0,.int .i64 0,.int .i64 0,.slice none 0 0]) ?_ 2 _ rfl;refine zj ?_;refine blk_put (cs:=#[.int .i64 a1,.int .i64 0,.int .i64 0,.int .i64 0,.int .i64 0,.slice none 0 0]) ?_ 1 _ rfl;refine zj ?_;exact BK33.out) hb);replace HB:=zu hb;clear hb;(try clear ho0);obtain ⟨Ao30,co30,eo30⟩:=Kd.R_slice HO91.out;subst eo30;have hcz31_0:=zc0 BK33;have hcz31_1:=zc1 BK33;have hcz31_2:=zc2 BK33;have hcz31_3:=zc3 BK33;have hcz31_4:w29.cell? ⟨gb33,4,none⟩=some (.int .i64 0):=zc4 BK33;have hcz31_5:w29.cell? ⟨gb33,5,none⟩=some (.slice none 0 0):=zc5 BK33;have hfz31_0:=zf BK33;have hcz32_0:=zc0 BK34;have hcz32_1:=zc1 BK34;have hcz32_2:=zc2 BK34;have hcz32_3:=zc3 BK34;have hcz32_4:w29.cell? ⟨gb34,4,none⟩=some (.int .i64 0):=zc4 BK34;have hcz32_5:w29.cell? ⟨gb34,5,none⟩=some (.slice none 0 0):=zc5 BK34;have hfz32_0:=zf BK34))
  refine bodyPost_ret (results_ct rfl _ _ gb34 42 #[.int .i64 a1,.int .i64 2,.int .i64 t60,.int .i64 0,.int .i64 0,.slice Ao30 t58.length co30] (0,0) _ rfl (by refine zj ?_;refine blk_put (cs:=#[.int .i64 a1,.int .i64 2,.int .i64 t60,.int .i64 0,.int .i64 0,.slice none 0 0]) ?_ 5 _ rfl;refine zj ?_;refine blk_put (cs:=#[.int .i64 a1,.int .i64 2,.int .i64 t60,.int .i64 0,.int .i64 0,.slice none 0 0]) ?_ 4 _ rfl;refine zj ?_;refine blk_put (cs:=#[.int .i64 a1,.int .i64 2,.int .i64 t60,.int .i64 0,.int .i64 0,.slice none 0 0]) ?_ 3 _ rfl;refine zj ?_;refine blk_put (cs:=#[.int .i64 a1,.int .i64 2,.int .i64 0,.int .i64 0,.int .i64 0,.slice none 0 0]) ?_ 2 _ rfl;refine zj ?_;refine blk_put (cs:=#[.int .i64 a1,.int .i64 0,.int .i64 0,.int .i64 0,.int .i64 0,.slice none 0 0]) ?_ 1 _ rfl;refine zj ?_;refine blk_put (cs:=#[.int .i64 0,.int .i64 0,.int .i64 0,.int .i64 0,.int .i64 0,.slice none 0 0]) ?_ 0 _ rfl;refine zj ?_;refine blk_far ?_ NB34_33.out _;refine zj ?_;exact BK34.out) Tryz.underlying42 rfl zK) rfl ?_;exact ⟨_,ze,by refine zr ?_;exact Kd.R_mono (Kd.R_far (p:=⟨gb34,5,none⟩) (Kd.R_far (p:=⟨gb34,4,none⟩) (Kd.R_far (p:=⟨gb34,3,none⟩) (Kd.R_far (p:=⟨gb34,2,none⟩) (Kd.R_far (p:=⟨gb34,1,none⟩) (Kd.R_far (p:=⟨gb34,0,none⟩) (Kd.R_far (p:=⟨gb33,5,none⟩) (Kd.R_types (Kd.R_types HO91.out BK33.out (by decide)) BK34.out (by decide)) (fun _ hk=>hk.1.2) (.slice Ao30 t58.length co30)) (fun _ hk=>hk.2) (.int .i64 a1)) (fun _ hk=>hk.2) (.int .i64 2)) (fun _ hk=>hk.2) (.int .i64 t60)) (fun _ hk=>hk.2) (.int .i64 0)) (fun _ hk=>hk.2) (.int .i64 0)) (fun _ hk=>hk.2) (.slice Ao30 t58.length co30)) (fun _ hk=>trivial),zv2 HB GE34 GE33⟩
def shared_All.l0:Nat→List (S63)→List (S42)→List Int→Int→Int→Option ((List (S42))×Int)
 | 0,_,_,_,_,_=>none
 | k+1,x0,x5,x16,x17,x18=>if x18<x17 then (if 0≤x18 then (if x18<(x16.length:Int) then ((shared_evidence.f k x0 (rd x16 x18)).bind fun bt46=>(if bt46.2.2.2.2.2.2=0 then (if x5.length<2199023255552 then (shared_All.l0 k x0 (x5++[(⟨bt46.1,bt46.2.1,bt46.2.2.1,bt46.2.2.2.1,bt46.2.2.2.2.1,(⟨bt46.2.2.2.2.2.1⟩:S40)⟩:S42)]) x16 x17 (wrap64 (x18+1))) else (none)) else (some (([]:List (S42)),bt46.2.2.2.2.2.2)))) else (none)) else (none)) else (some (x5,0))
def shared_All.f (k:Nat) (l0:List (S63)):Option ((List (S42))×Int):=(shared_solvable.f k l0).bind fun t76=>(if t76=0 then ((solve_Vars.f k l0).bind fun t61=>(shared_All.l0 k l0 ([]:List (S42)) t61 (t61.length:Int) 0)) else (some (([]:List (S42)),t76)))
set_option maxHeartbeats 8000000 in
set_option maxRecDepth 100000 in
theorem shared_All.calls (k:Nat) (A0:Option Addr) (c0:Nat) (l0:List (S63)) (r1:List (S42)) (r2:Int) (w:World) (hr0:Kd.C k63 w A0 l0.length l0) (hc0:l0.length≤c0) (h:shared_All.f k l0=some (r1,r2)) :
  Calls Tryz.prog 9 #[.slice A0 l0.length c0] w fun e w'=>∃ v0_:Value,e=.returned (.tuple #[v0_,.int .i64 r2])∧Kd.S k42 42 w' w.heap.size (fun _=>True) v0_ r1∧Below w.heap.size w w':=by
 have HR0:=zA hr0;have HC0:=zA hc0;clear hr0 hc0;have HB:=zA (Below.refl w.heap.size w);have H:((shared_solvable.f k l0).bind fun t76=>(if t76=0 then ((solve_Vars.f k l0).bind fun t61=>(shared_All.l0 k l0 ([]:List (S42)) t61 (t61.length:Int) 0)) else (some (([]:List (S42)),t76))))=some (r1,r2):=h;clear h;obtain ⟨t76,A2,H⟩:=zo H;have HC3:=zA H;clear H
 go_enter Tryz.func9,Tryz.ntmps9
 go_upto_if 13 with (first|((with_reducible refine gate_callee (f:=35) rfl ?_);refine zgo 11 Tryz.func35 #[.slice A0 l0.length c0] ?_;(with_reducible refine (shared_solvable.calls k _ _ l0 t76 _ ?side1 HC0.out A2.out).mono ?_);(case side1=>repeat (first|exact HR0.out|(with_reducible refine Kd.C_alloc ?_ _)|(with_reducible refine Kd.C_drewN ?_ _)|(with_reducible refine Kd.C_drew ?_)));rintro e w4 ⟨rfl,hb⟩;refine ⟨_,rfl,?_⟩;replace HB:=zu hb;clear hb))
 (try simp only [Act.put,zi,zs,zt]);have H:=HC3.out;clear HC3
 rcases ife H with ⟨c5b0,c5b1,H⟩|⟨c5,c5b0,c5b1,H⟩
 ·(first|rw [c5b0]|(simp only [i64_w,i32_w];rw [c5b0])|skip)
  (try rw [c5b1]);obtain ⟨t61,A6,H⟩:=zo H;have H':=zA H;clear H
  go_wp2_with (first|((with_reducible refine gate_callee (f:=36) rfl ?_);refine zgo 16 Tryz.func36 #[.slice A0 l0.length c0] ?_;(with_reducible refine (solve_Vars.calls k _ _ l0 t61 _ (zD HR0 HB) HC0.out A6.out).mono ?_);rintro e w7 ⟨v350,rfl,ho0,hb⟩;refine ⟨_,rfl,?_⟩;have HO92:=zA (Kd.R_lower ho0 (below_size zB));replace HB:=zu hb;clear hb;(try clear ho0);obtain ⟨Ao8,co8,eo8⟩:=Kd.R_slice HO92.out;subst eo8))
  go_loopg [5,18] k (fun kq v5 v18 w'=>∃ (x5_1:List (S42)) (x18_1:Int),v18=.int .i64 x18_1∧Aside0 (shared_All.l0 kq l0 x5_1 t61 (t61.length:Int) x18_1=some (r1,r2))∧Aside0 (kq≤k)∧Aside0 (Kd.S k42 42 w' w.heap.size (fun _=>True) v5 x5_1)∧Aside0 (Kd.R (Kd.int .i64) 3 w' w.heap.size (fun _=>True) (.slice Ao8 t61.length co8) t61)∧Aside0 (Below w.heap.size w w'))
  case atStart=>exact ⟨(([]:List (S42))),(0),zT,H',⟨Nat.le_refl _⟩,⟨by first|exact Kd.S_nil _ _ _ _ _|exact Kd.N_nil _ _ _ _ _|exact Kd.V_nil _ _ _ _ _|exact Kd.Q_nil _ _ _ _ _|exact Kd.R_nil _ _ _ _ _⟩,⟨by refine zr ?_;exact HO92.out⟩,⟨zv0 HB⟩⟩
  case round=>
   clear H'
   try clear c5
   try clear c5b0
   try clear c5b1
   obtain ⟨x5_1,x18_1,rfl,HA,HK1,HO_5,HO_16,HB⟩:=hrel
   cases gk with
   | zero=>exact absurd HA.out (by simp [shared_All.l0])
   | succ k1=>
    have H:=HA.out;clear HA;simp only [shared_All.l0] at H
    rcases ifd H with ⟨c9b0,H⟩|⟨c9b0,H⟩
    ·obtain ⟨c10b0,H⟩:=ifd1 H;obtain ⟨c11b0,H⟩:=ifd1 H;replace H:=Option.bind_eq_some_iff.mp H;obtain ⟨⟨t46,t49,t53,t55,t56,t47,t87⟩,A120,H⟩:=H;replace H:(if t87=0 then (if x5_1.length<2199023255552 then (shared_All.l0 k1 l0 (x5_1++[(⟨t46,t49,t53,t55,t56,(⟨t47⟩:S40)⟩:S42)]) t61 (t61.length:Int) (wrap64 (x18_1+1))) else (none)) else (some (([]:List (S42)),t87)))=some (r1,r2):=H;have A12:=zA A120;clear A120;have HC13:=zA H;clear H;obtain ⟨p66,q66,ad66,e66,hx66_0⟩:=zp (Kd.at_int (Kd.R_reads' HO_16.out).2.2 x18_1)
     cases e66
     replace p66:=eq_true p66;replace q66:=eq_true q66
     go_upto_if 29 with (first|((with_reducible refine gate_callee (f:=37) rfl ?_);refine zgo 25 Tryz.func37 #[.slice A0 l0.length c0,.int .i64 (rd t61 x18_1)] ?_;(with_reducible refine (shared_evidence.calls k1 _ _ l0 (rd t61 x18_1) t46 t49 t53 t55 t56 t47 t87 _ (zD HR0 HB) HC0.out A12.out).mono ?_);rintro e w14 ⟨v359,rfl,ho0,hb⟩;refine ⟨_,rfl,?_⟩;have HO68:=zA (Kd.R_lower ho0 (below_size zB));replace HO_5:=zA (Kd.S_elder' (zS HO_5) (Kd.R_base ho0) hb);replace HO_16:=zA (Kd.R_below (zR HO_16) hb);replace HB:=zu hb;clear hb;(try clear ho0))|((with_reducible refine gd 8 rfl ?_);refine zx #[.int .i64 0,.int .i64 0,.int .i64 0,.int .i64 0,.int .i64 0,.slice none 0 0] 42 ?_;intro gb39 hg w15 BK39 hb GW39 HB1;have GE39:=GW39;replace HO_5:=zA (Kd.S_below (Kd.S_elderB (zS HO_5) gb39 (Nat.le_of_eq hg.symm)) hb);replace HO_16:=zA (Kd.R_below (zR HO_16) hb);replace HO68:=zA (Kd.R_below (zR HO68) hb);clear HB hb hg;have HB:=HB1;clear HB1;have hcz16_0:=zc0 BK39;have hcz16_1:=zc1 BK39;have hcz16_2:=zc2 BK39;have hcz16_3:=zc3 BK39;have hcz16_4:w15.cell? ⟨gb39,4,none⟩=some (.int .i64 0):=zc4 BK39;have hcz16_5:w15.cell? ⟨gb39,5,none⟩=some (.slice none 0 0):=zc5 BK39;have hfz16_0:=zf BK39;obtain ⟨Ao17,co17,eo17⟩:=Kd.R_slice HO68.out;subst eo17))
     (try simp only [Act.put,zi,zs,zt]);have H:=HC13.out;clear HC13
     rcases ife H with ⟨c18b0,c18b1,H⟩|⟨c18,c18b0,c18b1,H⟩
     ·(first|rw [c18b0]|(simp only [i64_w,i32_w];rw [c18b0])|skip)
      (try rw [c18b1]);obtain ⟨c19,H⟩:=if1 H;have LMc19:=zA c19;clear c19
      first|(replace H:=zyb (x5_1++[(⟨t46,t49,t53,t55,t56,(⟨t47⟩:S40)⟩:S42)]) H;obtain ⟨y73,Ny73,H⟩:=H)|(obtain ⟨y73,hy73⟩:=zY (x5_1++[(⟨t46,t49,t53,t55,t56,(⟨t47⟩:S40)⟩:S42)]);(try rw (occs:=.pos [1]) [← hy73] at H);have Ny73:=zA hy73;clear hy73)
      have H':=zA H;clear H
      have n0_:Aside0 (Kd.S k42 42 ((((((w15.setCell ⟨gb39,0,none⟩ (.int .i64 t46)).setCell ⟨gb39,1,none⟩ (.int .i64 t49)).setCell ⟨gb39,2,none⟩ (.int .i64 t53)).setCell ⟨gb39,3,none⟩ (.int .i64 t55)).setCell ⟨gb39,4,none⟩ (.int .i64 t56)).setCell ⟨gb39,5,none⟩ (.slice Ao17 t47.length co17)) w.heap.size (fun k_=>some k_≠(.slice Ao17 t47.length co17:Value).ownBlock∧k_≠gb39) u5 x5_1):=⟨by (with_reducible repeat (first|apply Kd.S_alloc|apply Kd.S_drewN|apply Kd.S_drew));exact Kd.S_mono (Kd.S_far (p:=⟨gb39,5,none⟩) (Kd.S_far (p:=⟨gb39,4,none⟩) (Kd.S_far (p:=⟨gb39,3,none⟩) (Kd.S_far (p:=⟨gb39,2,none⟩) (Kd.S_far (p:=⟨gb39,1,none⟩) (Kd.S_far (p:=⟨gb39,0,none⟩) (Kd.S_mono HO_5.out (fun k_ hk=>(⟨hk,hk.2⟩:_∧k_≠gb39))) (fun _ hk=>hk.2) (.int .i64 t46)) (fun _ hk=>hk.2) (.int .i64 t49)) (fun _ hk=>hk.2) (.int .i64 t53)) (fun _ hk=>hk.2) (.int .i64 t55)) (fun _ hk=>hk.2) (.int .i64 t56)) (fun _ hk=>hk.2) (.slice Ao17 t47.length co17)) (fun _ hk=>⟨hk.1.1.2,hk.1.2⟩)⟩
      have n1_:Aside0 (Kd.R (Kd.int .i64) 3 ((((((w15.setCell ⟨gb39,0,none⟩ (.int .i64 t46)).setCell ⟨gb39,1,none⟩ (.int .i64 t49)).setCell ⟨gb39,2,none⟩ (.int .i64 t53)).setCell ⟨gb39,3,none⟩ (.int .i64 t55)).setCell ⟨gb39,4,none⟩ (.int .i64 t56)).setCell ⟨gb39,5,none⟩ (.slice Ao17 t47.length co17)) w.heap.size (fun _=>True) (.slice (some ad66) t61.length co8) t61):=⟨by refine zr ?_;exact Kd.R_mono (Kd.R_far (p:=⟨gb39,5,none⟩) (Kd.R_far (p:=⟨gb39,4,none⟩) (Kd.R_far (p:=⟨gb39,3,none⟩) (Kd.R_far (p:=⟨gb39,2,none⟩) (Kd.R_far (p:=⟨gb39,1,none⟩) (Kd.R_far (p:=⟨gb39,0,none⟩) (Kd.R_types HO_16.out BK39.out (by decide)) (fun _ hk=>hk.2) (.int .i64 t46)) (fun _ hk=>hk.2) (.int .i64 t49)) (fun _ hk=>hk.2) (.int .i64 t53)) (fun _ hk=>hk.2) (.int .i64 t55)) (fun _ hk=>hk.2) (.int .i64 t56)) (fun _ hk=>hk.2) (.slice Ao17 t47.length co17)) (fun _ hk=>trivial)⟩
      have n2_:Aside0 (Kd.R k103 103 ((((((w15.setCell ⟨gb39,0,none⟩ (.int .i64 t46)).setCell ⟨gb39,1,none⟩ (.int .i64 t49)).setCell ⟨gb39,2,none⟩ (.int .i64 t53)).setCell ⟨gb39,3,none⟩ (.int .i64 t55)).setCell ⟨gb39,4,none⟩ (.int .i64 t56)).setCell ⟨gb39,5,none⟩ (.slice Ao17 t47.length co17)) w.heap.size (fun _=>True) (.slice Ao17 t47.length co17) t47):=⟨by refine zr ?_;exact Kd.R_mono (Kd.R_far (p:=⟨gb39,5,none⟩) (Kd.R_far (p:=⟨gb39,4,none⟩) (Kd.R_far (p:=⟨gb39,3,none⟩) (Kd.R_far (p:=⟨gb39,2,none⟩) (Kd.R_far (p:=⟨gb39,1,none⟩) (Kd.R_far (p:=⟨gb39,0,none⟩) (Kd.R_types HO68.out BK39.out (by decide)) (fun _ hk=>hk.2) (.int .i64 t46)) (fun _ hk=>hk.2) (.int .i64 t49)) (fun _ hk=>hk.2) (.int .i64 t53)) (fun _ hk=>hk.2) (.int .i64 t55)) (fun _ hk=>hk.2) (.int .i64 t56)) (fun _ hk=>hk.2) (.slice Ao17 t47.length co17)) (fun _ hk=>trivial)⟩
      have n3_:Aside0 (((((((w15.setCell ⟨gb39,0,none⟩ (.int .i64 t46)).setCell ⟨gb39,1,none⟩ (.int .i64 t49)).setCell ⟨gb39,2,none⟩ (.int .i64 t53)).setCell ⟨gb39,3,none⟩ (.int .i64 t55)).setCell ⟨gb39,4,none⟩ (.int .i64 t56)).setCell ⟨gb39,5,none⟩ (.slice Ao17 t47.length co17)).heap[gb39]?=some (.cells #[.int .i64 t46,.int .i64 t49,.int .i64 t53,.int .i64 t55,.int .i64 t56,.slice Ao17 t47.length co17] 42 (0,0))):=⟨by refine zj ?_;refine blk_put (cs:=#[.int .i64 t46,.int .i64 t49,.int .i64 t53,.int .i64 t55,.int .i64 t56,.slice none 0 0]) ?_ 5 _ rfl;refine zj ?_;refine blk_put (cs:=#[.int .i64 t46,.int .i64 t49,.int .i64 t53,.int .i64 t55,.int .i64 0,.slice none 0 0]) ?_ 4 _ rfl;refine zj ?_;refine blk_put (cs:=#[.int .i64 t46,.int .i64 t49,.int .i64 t53,.int .i64 0,.int .i64 0,.slice none 0 0]) ?_ 3 _ rfl;refine zj ?_;refine blk_put (cs:=#[.int .i64 t46,.int .i64 t49,.int .i64 0,.int .i64 0,.int .i64 0,.slice none 0 0]) ?_ 2 _ rfl;refine zj ?_;refine blk_put (cs:=#[.int .i64 t46,.int .i64 0,.int .i64 0,.int .i64 0,.int .i64 0,.slice none 0 0]) ?_ 1 _ rfl;refine zj ?_;refine blk_put (cs:=#[.int .i64 0,.int .i64 0,.int .i64 0,.int .i64 0,.int .i64 0,.slice none 0 0]) ?_ 0 _ rfl;refine zj ?_;exact BK39.out⟩
      have n4_:Aside0 (Below w.heap.size w ((((((w15.setCell ⟨gb39,0,none⟩ (.int .i64 t46)).setCell ⟨gb39,1,none⟩ (.int .i64 t49)).setCell ⟨gb39,2,none⟩ (.int .i64 t53)).setCell ⟨gb39,3,none⟩ (.int .i64 t55)).setCell ⟨gb39,4,none⟩ (.int .i64 t56)).setCell ⟨gb39,5,none⟩ (.slice Ao17 t47.length co17))):=⟨zv1 HB GE39⟩
      (try clear HO_5);(try clear HO_16);(try clear HO68);(try clear BK39);(try clear HB)
      generalize ((((((w15.setCell ⟨gb39,0,none⟩ (.int .i64 t46)).setCell ⟨gb39,1,none⟩ (.int .i64 t49)).setCell ⟨gb39,2,none⟩ (.int .i64 t53)).setCell ⟨gb39,3,none⟩ (.int .i64 t55)).setCell ⟨gb39,4,none⟩ (.int .i64 t56)).setCell ⟨gb39,5,none⟩ (.slice Ao17 t47.length co17))=w20 at n0_ n1_ n2_ n3_ n4_ ⊢
      have HO_5:=n0_;have HO_16:=n1_;have HO68:=n2_;have BK39:=n3_;have HB:=n4_;clear n0_ n1_ n2_ n3_ n4_;have hcz21_0:=zc0 BK39;have hcz21_1:=zc1 BK39;have hcz21_2:=zc2 BK39;have hcz21_3:=zc3 BK39;have hcz21_4:w20.cell? ⟨gb39,4,none⟩=some (.int .i64 t56):=zc4 BK39;have hcz21_5:w20.cell? ⟨gb39,5,none⟩=some (.slice Ao17 t47.length co17):=zc5 BK39;have hfz21_0:=zf BK39
      go_wp2_with (first|((with_reducible refine gate_builtin (b:=.append) (xs:=#[.tmp 31,.tmp 33]) rfl ?_);at_builtin;refine Kd.S_append k42 (w0:=w) w.heap.size rfl (.tmp 31) (.tmp 33) 25 42 (.agg #[(.int .i64 0),(.int .i64 0),(.int .i64 0),(.int .i64 0),(.int .i64 0),(.slice none 0 0)]) 64 rfl Tryz.underlying25 info42 rfl (by decide) (by omega) u5 x5_1 (⟨t46,t49,t53,t55,t56,(⟨t47⟩:S40)⟩:S42) [.int .i64 t46,.int .i64 t49,.int .i64 t53,.int .i64 t55,.int .i64 t56,.slice Ao17 t47.length co17] (fun k_=>k_≠gb39) (fun k_=>some k_=(.slice Ao17 t47.length co17:Value).ownBlock) rfl rfl ?aP (fun k_ hk_=>((Kd.R_mono (ok':=fun k_=>((fun k_=>k_≠gb39)) k_∧some k_≠(u5:Value).ownBlock) (Kd.R_types (Kd.R_apart' (HO68.out) (Kd.S_typed HO_5.out) (by decide)) BK39.out (by decide)) (fun k_ hk=>⟨hk.2,hk.1.2⟩))).1 k_ hk_.symm) ?aF ?aO ?aB ?aS ?aL ?_;(case aP=>exact k42_mkM _ _ _ (⟨t46,t49,t53,t55,t56,(⟨t47⟩:S40)⟩:S42) (Kd.R_mono (Kd.R_tight rfl (Kd.R_mono (ok':=fun k_=>((fun k_=>k_≠gb39)) k_∧some k_≠(u5:Value).ownBlock) (Kd.R_types (Kd.R_apart' (HO68.out) (Kd.S_typed HO_5.out) (by decide)) BK39.out (by decide)) (fun k_ hk=>⟨hk.2,hk.1.2⟩))) (fun _ h_=>h_)));(case aB=>exact zB);(case aF=>exact (fun k_ hk=>Kd.freshB (g:=gb39) (o:=.cells #[.int .i64 t46,.int .i64 t49,.int .i64 t53,.int .i64 t55,.int .i64 t56,.slice Ao17 t47.length co17] 42 (0,0)) (zk BK39) k_ hk));(case aO=>exact (by (with_reducible repeat (first|apply Kd.S_alloc|apply Kd.S_drewN|apply Kd.S_drew));exact Kd.S_mono HO_5.out (fun k_ hk=>⟨hk.2,fun e_=>hk.1 e_⟩)));(case aS=>exact (below_size zB));(case aL=>have:=LMc19.out;omega);intro v364 w22 ho hb hg hat;rw [← Ny73.out] at ho;have HO98:=zA (ho);replace HO_16:=zA (Kd.R_over' (zR HO_16) (Kd.S_typed (zS HO_5)) (by decide) hg);replace BK39:=zA (blk_grown (g:=gb39) (o:=.cells #[.int .i64 t46,.int .i64 t49,.int .i64 t53,.int .i64 t55,.int .i64 t56,.slice Ao17 t47.length co17] 42 (0,0)) (zk BK39) hg (Kd.S_away HO_5.out (fun _ hk=>hk.2)));replace HB:=zA (hb);clear HO_5 HO68;clear ho hb hg hat))
      go_roundg k1
      case measure=>have:=HK1.out;omega
      case rel=>exact ⟨(y73),(wrap64 (x18_1+1)),zT,H',⟨by have:=HK1.out;omega⟩,⟨by (with_reducible repeat (first|apply Kd.S_alloc|apply Kd.S_drewN|apply Kd.S_drew));exact Kd.S_mono HO98.out (fun _ hk=>trivial)⟩,⟨by refine zr ?_;exact HO_16.out⟩,⟨zv1 HB GE39⟩⟩
     ·(first|rw [c18b0]|(simp only [i64_w,i32_w];rw [c18b0])|skip)
      (try rw [c18b1]);simp only [Option.some.injEq,Prod.mk.injEq] at H;obtain ⟨rfl,rfl⟩:=H
      go_wp2
      go_ret2
      exact ⟨_,ze,by first|exact Kd.S_nil _ _ _ _ _|exact Kd.N_nil _ _ _ _ _|exact Kd.V_nil _ _ _ _ _|exact Kd.Q_nil _ _ _ _ _|exact Kd.R_nil _ _ _ _ _,zv1 HB GE39⟩
    ·simp only [Option.some.injEq,Prod.mk.injEq] at H;obtain ⟨rfl,rfl⟩:=H
     go_wp2
     go_ret2
     exact ⟨_,ze,by (with_reducible repeat (first|apply Kd.S_alloc|apply Kd.S_drewN|apply Kd.S_drew));exact HO_5.out,zv0 HB⟩
 ·(first|rw [c5b0]|(simp only [i64_w,i32_w];rw [c5b0])|skip)
  (try rw [c5b1]);simp only [Option.some.injEq,Prod.mk.injEq] at H;obtain ⟨rfl,rfl⟩:=H
  go_wp2
  go_ret2
  exact ⟨_,ze,by first|exact Kd.S_nil _ _ _ _ _|exact Kd.N_nil _ _ _ _ _|exact Kd.V_nil _ _ _ _ _|exact Kd.Q_nil _ _ _ _ _|exact Kd.R_nil _ _ _ _ _,zv0 HB⟩
end Go.Proofs.YtngpkbbljnbojaaGreat.L
