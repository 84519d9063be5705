import Derived.Test.YtpojokndmkhpkaaM0
import Derived.Test.YtpojokndmkhpkaaM1
import Derived.Test.YtpojokndmkhpkaaM2
import Derived.Test.YtpojokndmkhpkaaM3
import Derived.Test.YtpojokndmkhpkaaM4
import Derived.Test.YtpojokndmkhpkaaM5
namespace Go.Proofs.Ytpojokndmkhpkaa.Pure
open Go.RowKit Go.Proofs.YtpojokndmkhpkaaW.PrintWords Go.Proofs.Ytpojokndmkhpkaa.M
set_option linter.unusedVariables false
set_option linter.unusedSimpArgs false
theorem Ev.now {α:Type} (r:α):Ev (fun _=>some r) r:=⟨0,fun _ _=>rfl⟩

theorem w64_in (n:Int) (h : -9223372036854775808≤n∧n≤9223372036854775807):wrap64 n=n:=by unfold wrap64;omega
theorem wrap_succ (i n:Nat) (hi:i<n) (hn:(n:Int)≤9223372036854775807):wrap64 ((i:Int)+1)=((i+1:Nat):Int):=by
  rw [w64_in _ (by omega)];omega
theorem ev_pos {α:Type} {c:Prop} [Decidable c] {g f:Nat→Option α} {r:α} (h:c) (e:Ev g r):Ev (fun k=>if c then g k else f k) r:=Ev.congr (fun k=>if_pos h) e
theorem ev_neg {α:Type} {c:Prop} [Decidable c] {g f:Nat→Option α} {r:α} (h:¬ c) (e:Ev f r):Ev (fun k=>if c then g k else f k) r:=Ev.congr (fun k=>if_neg h) e
theorem ev_eq {α:Type} {g:Nat→Option α} {r s:α} (e:Ev g r) (h:r=s):Ev g s:=h ▸ e
theorem ev_ite {α:Type} {c:Prop} [Decidable c] {g f:Nat→Option α} {r s:α} (h1:c→Ev g r) (h2:¬ c→Ev f s):Ev (fun k=>if c then g k else f k) (if c then r else s):=by
  by_cases h:c
  · rw [if_pos h];exact ev_pos h (h1 h)
  · rw [if_neg h];exact ev_neg h (h2 h)
theorem ev_rounds {α:Type} {g:Nat→Option α} {r:α} (h:Ev g r):∃ k,g k=some r:=h.elim fun K h=>⟨K,h K (Nat.le_refl _)⟩

theorem drops {l:List S24} {P:Nat→List S24→Prop} (h0:P l.length []) (h1:∀ i y r,i<l.length→rd_T24 l (i:Int)=y→y∈l→P (i+1) r→P i (y :: r)) (i:Nat) (hi:i≤l.length):P i (l.drop i):=by
  induction h:l.length - i generalizing i with
  | zero=>
    have:i=l.length:=by omega
    subst this
    rw [List.drop_length];exact h0
  | succ m ih=>
    have hlt:i<l.length:=by omega
    rw [List.drop_eq_getElem_cons hlt]
    refine h1 i _ _ hlt ?_ (List.getElem_mem hlt) (ih (i+1) (by omega) (by omega))
    unfold rd_T24
    rw [Int.toNat_natCast,List.getD_eq_getElem?_getD,List.getElem?_eq_getElem hlt,Option.getD_some]
theorem drops0 {l:List S24} {P:Nat→List S24→Prop} (h0:P l.length []) (h1:∀ i y r,i<l.length→rd_T24 l (i:Int)=y→y∈l→P (i+1) r→P i (y :: r)):P 0 l:=drops h0 h1 0 (Nat.zero_le _)
def szl:List S24→Nat
  | []=>0
  | ⟨_,_,_,l⟩ :: r=>1+szl l+szl r
def sz (x:S24):Nat:=1+szl x.f3
theorem szl_cons (x:S24) (r:List S24):szl (x :: r)=sz x+szl r:=by
  cases x;rw [szl];rfl
theorem sz_pos (x:S24):1≤sz x:=Nat.le_add_right _ _
def dpl:List S24→Nat
  | []=>0
  | ⟨_,_,_,l⟩ :: r=>max (1+dpl l) (dpl r)
def dp (x:S24):Nat:=1+dpl x.f3
theorem dpl_cons (x:S24) (r:List S24):dpl (x :: r)=max (dp x) (dpl r):=by
  cases x;rw [dpl];rfl
def dv:Nat→S24→Bool
  | 0,_=>false
  | n+1,x=>decide (x.f3.length≤600)&&x.f3.all (dv n)
theorem dv_len:∀ {n:Nat} {x:S24},dv n x=true→x.f3.length≤600
  | n+1,x,h=>by rw [dv,Bool.and_eq_true] at h;exact of_decide_eq_true h.1
theorem dv_kid {n:Nat} {x y:S24} (h:dv (n+1) x=true) (hy:y∈x.f3):dv n y=true:=by
  rw [dv,Bool.and_eq_true,List.all_eq_true] at h;exact h.2 y hy
theorem deep_ev:∀ (n:Nat) (x:S24),n≤60→Ev (fun k=>ancepsref08_deep.f k x.f0 x.f1 x.f2 x.f3 (n:Int)) (dv n x)
  | 0,x,_=>Ev.step (fun k=>by rw [ancepsref08_deep.f,if_pos (show ((0:Nat):Int)=0 from rfl),dv]) (Ev.now _)
  | n+1,x,hn=>by
    refine Ev.step (fun k=>by rw [ancepsref08_deep.f,if_neg (by omega)]) ?_
    rw [dv]
    by_cases hl:x.f3.length≤600
    · refine ev_neg (by omega) ?_
      rw [decide_eq_true hl,Bool.true_and]
      refine drops0 (l:=x.f3) (P:=fun i m=>Ev (fun k=>ancepsref08_deep.l0 k ((n+1:Nat):Int) (i:Int) x.f0 x.f1 x.f2 x.f3) (m.all (dv n))) ?_ ?_
      · exact Ev.step (fun k=>by rw [ancepsref08_deep.l0,if_neg (by omega)];rfl) (Ev.now _)
      · intro i y r hi hy _ ih
        refine Ev.step (fun k=>by rw [ancepsref08_deep.l0,if_pos (by omega),if_pos (by omega),hy,wrap_succ _ _ hi (by omega),w64_in _ (by omega),show ((n+1:Nat):Int) - 1=(n:Int) by omega]) ?_
        refine Ev.bind (deep_ev n y (by omega)) ?_
        rw [List.all_cons]
        cases dv n y
        · exact ev_neg (by decide) (Ev.now _)
        · exact ev_pos rfl ih
    · refine ev_pos (by omega) ?_
      rw [decide_eq_false hl,Bool.false_and]
      exact Ev.now _
def szR (s:Int) (z:Nat):Prop:=s=z∨10000<s∧10000<z
theorem size_ev:∀ (n:Nat) (x:S24),n≤60→dv n x=true→∃ s:Int,Ev (fun k=>ancepsref08_Size.f k x.f0 x.f1 x.f2 x.f3) s∧1≤s∧s≤20000 * n∧szR s (sz x)
  | n+1,x,hn,hd=>by
    have hl:=dv_len hd
    have:=drops0 (l:=x.f3) (P:=fun i m=>∀ a:Int,1≤a→a≤10000+20000 * n→∀ c:Nat,szR a c→∃ s:Int,Ev (fun k=>ancepsref08_Size.l0 k a (i:Int) x.f0 x.f1 x.f2 x.f3) s∧1≤s∧s≤10000+20000 * n∧szR s (c+szl m))
      (fun a h1 h2 c hc=>⟨a,Ev.step (fun k=>by rw [ancepsref08_Size.l0,if_neg (by omega)]) (Ev.now _),h1,h2,by rw [szl];exact hc⟩)
      (fun i y r hi hy hm ih a h1 h2 c hc=>by
        rw [szl_cons]
        by_cases h3:a≤10000
        · obtain ⟨s,e,s1,s2,s3⟩:=size_ev n y (by omega) (dv_kid hd hm)
          obtain ⟨s',e',s1',s2',s3'⟩:=ih (a+s) (by omega) (by omega) (c+sz y) (by unfold szR at *;omega)
          refine ⟨s',?_,s1',s2',by rw [← Nat.add_assoc];exact s3'⟩
          refine Ev.step (fun k=>by rw [ancepsref08_Size.l0,if_pos (by omega),if_pos h3,if_pos (by omega),hy,wrap_succ _ _ hi (by omega)]) ?_
          refine Ev.bind e ?_
          rw [w64_in _ (by omega)]
          exact e'
        · refine ⟨a,Ev.step (fun k=>by rw [ancepsref08_Size.l0,if_pos (by omega),if_neg h3]) (Ev.now _),h1,h2,?_⟩
          unfold szR at *;omega) 1 (by omega) (by omega) 1 (.inl rfl)
    obtain ⟨s,e,s1,s2,s3⟩:=this
    exact ⟨s,Ev.step (fun k=>by rw [ancepsref08_Size.f];rfl) e,s1,by omega,s3⟩
theorem measure_ev:∀ (n:Nat) (x:S24) (lev c:Nat),dv n x=true→lev≤41→c≤500→
    ∃ (b:Bool) (c':Nat),Ev (fun k=>expr_measure.f k x.f0 x.f1 x.f2 x.f3 (lev:Int) (c:Int)) (b,(c':Int))∧(b=true↔c+sz x≤500∧lev+dp x≤41)∧(b=true→c'=c+sz x)
  | n+1,x,lev,c,hd,hv,hc=>by
    have hl:=dv_len hd
    have z1:sz x=1+szl x.f3:=rfl
    have z2:dp x=1+dpl x.f3:=rfl
    have e1:wrap64 ((c:Int)+1)=((c+1:Nat):Int):=by rw [w64_in _ (by omega)];omega
    by_cases h1:c+1>500
    · exact ⟨false,c+1,Ev.step (fun k=>by rw [expr_measure.f,e1,if_pos (by omega)]) (Ev.now _),⟨fun h=>(by cases h),fun h=>by omega⟩,fun h=>by cases h⟩
    by_cases h2:lev>40
    · exact ⟨false,c+1,Ev.step (fun k=>by rw [expr_measure.f,e1,if_neg (by omega),if_pos (by omega)]) (Ev.now _),⟨fun h=>(by cases h),fun h=>by omega⟩,fun h=>by cases h⟩
    have:=drops0 (l:=x.f3) (P:=fun i m=>∀ c:Nat,c≤500→∃ (b:Bool) (c':Nat),Ev (fun k=>expr_measure.l0 k (lev:Int) x.f3 (x.f3.length:Int) (i:Int) (c:Int)) (b,(c':Int))∧(b=true↔c+szl m≤500∧lev+dpl m≤40)∧(b=true→c'=c+szl m))
      (fun c hc=>⟨true,c,Ev.step (fun k=>by rw [expr_measure.l0,if_neg (by omega)]) (Ev.now _),⟨fun _=>⟨by rw [szl];exact hc,by rw [dpl];omega⟩,fun _=>rfl⟩,fun _=>by rw [szl];rfl⟩)
      (fun i y r hi hy hm ih c hc=>by
        rw [szl_cons,dpl_cons]
        have p1:=sz_pos y
        obtain ⟨b,c',e,q1,q2⟩:=measure_ev n y (lev+1) c (dv_kid hd hm) (by omega) hc
        cases b with
        | false=>
          refine ⟨false,c',?_,⟨fun h=>(by cases h),fun h=>?_⟩,fun h=>by cases h⟩
          · refine Ev.step (fun k=>by rw [expr_measure.l0,if_pos (by omega),if_pos (by omega),if_pos (by omega),hy,w64_in ((lev:Int)+1) (by omega),show (lev:Int)+1=((lev+1:Nat):Int) by omega]) ?_
            exact Ev.bind e (ev_neg (fun h=>by cases h) (Ev.now _))
          · exact q1.2 (by omega)
        | true=>
          have q3:=q1.1 rfl
          have q4:=q2 rfl
          obtain ⟨b2,c2,e2,r1,r2⟩:=ih c' (by omega)
          refine ⟨b2,c2,?_,⟨fun h=>?_,fun h=>r1.2 (by omega)⟩,fun h=>?_⟩
          · refine Ev.step (fun k=>by rw [expr_measure.l0,if_pos (by omega),if_pos (by omega),if_pos (by omega),hy,w64_in ((lev:Int)+1) (by omega),wrap_succ _ _ hi (by omega),show (lev:Int)+1=((lev+1:Nat):Int) by omega]) ?_
            exact Ev.bind e (ev_pos rfl e2)
          · have:=r1.1 h;omega
          · have:=r2 h;omega) (c+1) (by omega)
    obtain ⟨b,c',e,q1,q2⟩:=this
    refine ⟨b,c',Ev.step (fun k=>by rw [expr_measure.f,e1,if_neg (by omega),if_neg (by omega)];rfl) e,?_,fun h=>by rw [q2 h];omega⟩
    rw [q1];omega
theorem levels_ev:∀ (n:Nat) (x:S24),n≤60→dv n x=true→Ev (fun k=>ancepsref08_levels.f k x.f0 x.f1 x.f2 x.f3) (dp x:Int)∧dp x≤n
  | n+1,x,hn,hd=>by
    have hl:=dv_len hd
    have:=drops0 (l:=x.f3) (P:=fun i m=>∀ a:Nat,a≤n→Ev (fun k=>ancepsref08_levels.l0 k (a:Int) (i:Int) x.f0 x.f1 x.f2 x.f3) ((1+max a (dpl m):Nat):Int)∧dpl m≤n)
      (fun a ha=>⟨Ev.step (fun k=>by rw [ancepsref08_levels.l0,if_neg (by omega),w64_in _ (by omega)]) (ev_eq (Ev.now _) (by rw [dpl];omega)),by rw [dpl];omega⟩)
      (fun i y r hi hy hm ih a ha=>by
        obtain ⟨e,e1⟩:=levels_ev n y (by omega) (dv_kid hd hm)
        rw [dpl_cons]
        refine ⟨?_,by have:=(ih a ha).2;omega⟩
        refine Ev.step (fun k=>by rw [ancepsref08_levels.l0,if_pos (by omega),if_pos (by omega),hy,wrap_succ _ _ hi (by omega)]) ?_
        refine Ev.bind e ?_
        by_cases h:a<dp y
        · exact ev_pos (by omega) (ev_eq (ih _ e1).1 (by omega))
        · exact ev_neg (by omega) (ev_eq (ih _ ha).1 (by omega))) 0 (by omega)
    have z2:dp x=1+dpl x.f3:=rfl
    exact ⟨ev_eq (Ev.step (fun k=>by rw [ancepsref08_levels.f];rfl) this.1) (by omega),by omega⟩
def nd (a b c:Int) (n:Nat):Int:=
  if ¬ (a=1∧n=0∨a=2∨a=3∧2≤n∨(a=4∨a=5∨a=6)∧n=1)∨a≠1∧b≠0∨a≠4∧c≠0 then 1 else if b<0∨255<b∨c<0∨9<c then 6 else 0
def ndl:List S24→Int
  | []=>0
  | ⟨a,b,c,l⟩ :: r=>if nd a b c l.length=0 then (if ndl l=0 then ndl r else ndl l) else nd a b c l.length
def nds (x:S24):Int:=if nd x.f0 x.f1 x.f2 x.f3.length=0 then ndl x.f3 else nd x.f0 x.f1 x.f2 x.f3.length
theorem ndl_cons (x:S24) (r:List S24):ndl (x :: r)=if nds x=0 then ndl r else nds x:=by
  cases x;rw [ndl];unfold nds;split <;> rename_i h
  · rfl
  · rfl
theorem nds_zero {x:S24} (h:nds x=0):nd x.f0 x.f1 x.f2 x.f3.length=0∧ndl x.f3=0:=by
  unfold nds at h;split at h
  · next q=>exact ⟨q,h⟩
  · next q=>exact absurd h q
theorem ndl_zero:∀ {l:List S24},ndl l=0→∀ y∈l,nds y=0
  | x :: r,h,y,hy=>by
    rw [ndl_cons] at h
    split at h
    · next q=>
      rcases List.mem_cons.1 hy with rfl|hy
      · exact q
      · exact ndl_zero h y hy
    · next q=>exact absurd h q
theorem kid_zero {x y:S24} (h:nds x=0) (hy:y∈x.f3):nds y=0:=ndl_zero (nds_zero h).2 y hy
theorem nd_zero {a b c:Int} {n:Nat} (h:nd a b c n=0):(a=1∧n=0∨a=2∨a=3∧2≤n∨(a=4∨a=5∨a=6)∧n=1)∧(a=1∨b=0)∧(a=4∨c=0)∧0≤b∧b≤255∧0≤c∧c≤9:=by
  unfold nd at h;split at h
  · omega
  · split at h <;> omega

def n3 (b:Bool) (y z:Int):Int:=if b=true then 1 else if y<0∨255<y∨z<0∨9<z then 6 else 0
def n2 (b:Bool) (x y z:Int):Int:=n3 (!b||decide (x≠1∧y≠0)||decide (x≠4∧z≠0)) y z
theorem rj3 (k:Nat) (b:Bool) (x y z:Int) (l:List S24):ancepsref08_node.j3 (k+1) b x y z l=some (n3 b y z):=by
  rw [ancepsref08_node.j3];unfold n3;grind
theorem rj2 (k:Nat) (b:Bool) (x y z:Int) (l:List S24):ancepsref08_node.j2 (k+2) b x y z l=some (n2 b x y z):=by
  rw [ancepsref08_node.j2];simp only [rj3];unfold n2 n3;grind
theorem rj1 (k:Nat) (n:Int) (r b:Bool) (x y z:Int) (l:List S24):ancepsref08_node.j1 (k+3) n r b x y z l=some (n2 (if b=true then n == 1 else r) x y z):=by
  rw [ancepsref08_node.j1];simp only [rj2];grind
theorem rj0 (k:Nat) (n:Int) (r:Bool) (x y z:Int) (l:List S24):ancepsref08_node.j0 (k+4) n r x y z l=some (n2 (if x=4∨x=5∨x=6 then n == 1 else r) x y z):=by
  rw [ancepsref08_node.j0];simp only [rj1];grind
theorem nd_n2 (a b c:Int) (n:Nat) (r:Bool) (h:r=true↔(a=1∧n=0∨a=2∨a=3∧2≤n∨(a=4∨a=5∨a=6)∧n=1)):n2 r a b c=nd a b c n:=by
  unfold n2 n3 nd;grind
theorem refnode_ev (x:S24):Ev (fun k=>ancepsref08_node.f k x.f0 x.f1 x.f2 x.f3) (nd x.f0 x.f1 x.f2 x.f3.length):=by
  refine ⟨4,fun k hk=>?_⟩
  obtain ⟨k,rfl⟩:∃ m,k=m+4:=⟨k - 4,by omega⟩
  show ancepsref08_node.f (k+4) x.f0 x.f1 x.f2 x.f3=_
  unfold ancepsref08_node.f
  simp only [rj0]
  by_cases h1:x.f0=1
  · rw [if_pos h1]
    by_cases h0:(x.f3.length:Int)=0
    · rw [if_pos h0,nd_n2];grind
    · rw [if_neg h0,if_neg (by omega),if_neg (by omega),nd_n2];grind
  rw [if_neg h1]
  by_cases h2:x.f0=2
  · rw [if_pos h2,nd_n2];grind
  rw [if_neg h2]
  by_cases h3:x.f0=3
  · rw [if_pos h3,nd_n2];grind
  rw [if_neg h3,nd_n2]
  split
  · rw [beq_iff_eq];omega
  · simp;omega
theorem ej2 {k:Nat} {b:Bool} {x y z:Int} {l:List S24}:expr_node.j2 (k+1) b x y z l=if b=true then some 6 else expr_node.l0 k l (l.length:Int) 0:=by rw [expr_node.j2]
theorem ej1 (k:Nat) (b:Bool) (x y z:Int) (l:List S24):expr_node.j1 (k+2) b x y z l=if n3 b y z=0 then expr_node.l0 k l (l.length:Int) 0 else some (n3 b y z):=by
  rw [expr_node.j1];simp only [ej2];unfold n3;grind
theorem ej0 (k:Nat) (b:Bool) (x y z:Int) (l:List S24):expr_node.j0 (k+3) b x y z l=if n2 b x y z=0 then expr_node.l0 k l (l.length:Int) 0 else some (n2 b x y z):=by
  rw [expr_node.j0];simp only [ej1];unfold n2 n3;grind
theorem exprnode_eq (k:Nat) (x:S24):expr_node.f (k+4) x.f0 x.f1 x.f2 x.f3=if nd x.f0 x.f1 x.f2 x.f3.length=0 then expr_node.l0 k x.f3 (x.f3.length:Int) 0 else some (nd x.f0 x.f1 x.f2 x.f3.length):=by
  rw [expr_node.f]
  simp only [ej0]
  by_cases h1:x.f0=1
  · rw [if_pos h1,nd_n2];rw [beq_iff_eq];omega
  rw [if_neg h1]
  by_cases h2:x.f0=2
  · rw [if_pos h2,nd_n2];simp;omega
  rw [if_neg h2]
  by_cases h3:x.f0=3
  · rw [if_pos h3,nd_n2];rw [decide_eq_true_iff];omega
  rw [if_neg h3]
  by_cases h4:x.f0=4
  · rw [if_pos h4,nd_n2];rw [beq_iff_eq];omega
  rw [if_neg h4]
  by_cases h5:x.f0=5
  · rw [if_pos h5,nd_n2];rw [beq_iff_eq];omega
  rw [if_neg h5]
  by_cases h6:x.f0=6
  · rw [if_pos h6,nd_n2];rw [beq_iff_eq];omega
  rw [if_neg h6]
  have:nd x.f0 x.f1 x.f2 x.f3.length=1:=by unfold nd;rw [if_pos (by omega)]
  rw [this,if_neg (by omega)]
theorem ev_shift {α:Type} {g f:Nat→Option α} {r:α} (m:Nat) (h:∀ k,g (k+m)=f k) (e:Ev f r):Ev g r:=by
  obtain ⟨K,e⟩:=e
  refine ⟨K+m,fun k hk=>?_⟩
  obtain ⟨q,rfl⟩:∃ q,k=q+m:=⟨k - m,by omega⟩
  rw [h];exact e q (by omega)
theorem nodes_ev:∀ (n:Nat) (x:S24),dv n x=true→Ev (fun k=>ancepsref08_nodes.f k x.f0 x.f1 x.f2 x.f3) (nds x)∧Ev (fun k=>expr_node.f k x.f0 x.f1 x.f2 x.f3) (nds x)
  | n+1,x,hd=>by
    have hl:=dv_len hd
    have:=drops0 (l:=x.f3) (P:=fun i m=>Ev (fun k=>ancepsref08_nodes.l0 k (i:Int) x.f0 x.f1 x.f2 x.f3) (ndl m)∧Ev (fun k=>expr_node.l0 k x.f3 (x.f3.length:Int) (i:Int)) (ndl m))
      (by
        rw [ndl]
        exact ⟨Ev.step (fun k=>by rw [ancepsref08_nodes.l0,if_neg (by omega)]) (Ev.now _),Ev.step (fun k=>by rw [expr_node.l0,if_neg (by omega)]) (Ev.now _)⟩)
      (fun i y r hi hy hm ih=>by
        obtain ⟨e,e1⟩:=nodes_ev n y (dv_kid hd hm)
        rw [ndl_cons]
        refine ⟨?_,?_⟩
        · refine Ev.step (fun k=>by rw [ancepsref08_nodes.l0,if_pos (by omega),if_pos (by omega),hy,wrap_succ _ _ hi (by omega)]) ?_
          exact Ev.bind e (ev_ite (fun _=>ih.1) (fun _=>Ev.now _))
        · refine Ev.step (fun k=>by rw [expr_node.l0,if_pos (by omega),if_pos (by omega),if_pos (by omega),hy,wrap_succ _ _ hi (by omega)]) ?_
          exact Ev.bind e1 (ev_ite (fun _=>ih.2) (fun _=>Ev.now _)))
    unfold nds
    refine ⟨Ev.step (fun k=>by rw [ancepsref08_nodes.f]) ?_,ev_shift 4 (fun k=>exprnode_eq k x) (ev_ite (fun _=>this.2) (fun _=>Ev.now _))⟩
    exact Ev.bind (refnode_ev x) (ev_ite (fun _=>this.1) (fun _=>Ev.now _))
def lvl:List S24→Nat
  | []=>0
  | ⟨a,_,c,l⟩ :: r=>(if a=1 then 1 else min 401 (lvl l * (if a=4 then c.toNat else 1)))+lvl r
def lv (x:S24):Nat:=if x.f0=1 then 1 else min 401 (lvl x.f3 * (if x.f0=4 then x.f2.toNat else 1))
theorem lvl_cons (x:S24) (r:List S24):lvl (x :: r)=lv x+lvl r:=by
  cases x;rw [lvl];rfl
theorem lv_le (x:S24):lv x≤401:=by unfold lv;split <;> omega
theorem lvl_le (l:List S24):lvl l≤401 * l.length:=by
  induction l with
  | nil=>rw [lvl];omega
  | cons x r ih=>have:=lv_le x;rw [lvl_cons,List.length_cons];omega
theorem min_mul (S N:Nat):min 401 (min 401 S * N)=min 401 (S * N):=by
  rcases Nat.lt_or_ge S 401 with h|h
  · rw [Nat.min_eq_right (Nat.le_of_lt h)]
  · rw [Nat.min_eq_left h]
    cases N with
    | zero=>rfl
    | succ N=>
      have h1:401≤401 * (N+1):=Nat.le_mul_of_pos_right _ (Nat.succ_pos _)
      have h2:401 * (N+1)≤S * (N+1):=Nat.mul_le_mul_right _ h
      omega
theorem leaves_ev:∀ (n:Nat) (x:S24),dv n x=true→nds x=0→Ev (fun k=>ancepsref08_leaves.f k x.f0 x.f1 x.f2 x.f3) (lv x:Int)∧Ev (fun k=>expr_leaves.f k x.f0 x.f1 x.f2 x.f3) (lv x:Int)
  | n+1,x,hd,hz=>by
    have hl:=dv_len hd
    obtain ⟨q1,q2,q3,q4,q5,q6,q7⟩:=nd_zero (nds_zero hz).1
    by_cases h1:x.f0=1
    · have h0:x.f3=[]:=List.length_eq_zero_iff.1 (by omega)
      have:lv x=1:=by unfold lv;rw [if_pos h1]
      rw [this]
      refine ⟨Ev.step (fun k=>by rw [ancepsref08_leaves.f,if_pos h1];rfl) (Ev.now _),Ev.step (fun k=>by rw [expr_leaves.f,if_pos h1,h0]) ?_⟩
      exact Ev.step (fun k=>by rw [expr_leaves.l0,if_neg (by decide),if_neg (by omega)];rfl) (Ev.now _)
    have hL:=lvl_le x.f3
    have hN:lvl x.f3 * x.f2.toNat≤300000 * 9:=Nat.mul_le_mul (by omega) (by omega)
    have ez:(x.f2.toNat:Int)=x.f2:=Int.toNat_of_nonneg (by omega)
    have elv:lv x=if x.f0=4 then min 401 (lvl x.f3 * x.f2.toNat) else min 401 (lvl x.f3):=by
      unfold lv;rw [if_neg h1];split
      · rfl
      · rw [Nat.mul_one]
    have:=drops0 (l:=x.f3) (P:=fun i m=>∀ a:Nat,a+lvl m=lvl x.f3→Ev (fun k=>ancepsref08_leaves.l0 k (a:Int) (i:Int) x.f0 x.f1 x.f2 x.f3) (lv x:Int)∧Ev (fun k=>expr_leaves.l0 k ((min 401 a:Nat):Int) x.f3 (x.f3.length:Int) (i:Int) x.f0 x.f1 x.f2 x.f3) (lv x:Int))
      (fun a ha=>by
        rw [lvl,Nat.add_zero] at ha
        subst ha
        rw [elv]
        refine ⟨Ev.step (fun k=>by rw [ancepsref08_leaves.l0,if_neg (by omega)]) ?_,Ev.step (fun k=>by rw [expr_leaves.l0,if_neg (by omega)]) ?_⟩
        · by_cases h4:x.f0=4
          · refine ev_pos h4 ?_
            have e:wrap64 (((lvl x.f3:Nat):Int) * x.f2)=((lvl x.f3 * x.f2.toNat:Nat):Int):=by
              rw [← ez,← Int.natCast_mul,w64_in _ (by omega)];simp
            rw [e,if_pos h4]
            by_cases h5:lvl x.f3 * x.f2.toNat>400
            · exact ev_pos (by omega) (ev_eq (Ev.now _) (by omega))
            · exact ev_neg (by omega) (ev_eq (Ev.now _) (by omega))
          · refine ev_neg h4 ?_
            rw [if_neg h4]
            by_cases h5:lvl x.f3>400
            · exact ev_pos (by omega) (ev_eq (Ev.now _) (by omega))
            · exact ev_neg (by omega) (ev_eq (Ev.now _) (by omega))
        · by_cases h4:x.f0=4
          · refine ev_pos h4 ?_
            have hM:min 401 (lvl x.f3) * x.f2.toNat≤401 * 9:=Nat.mul_le_mul (by omega) (by omega)
            have e:wrap64 (((min 401 (lvl x.f3):Nat):Int) * x.f2)=((min 401 (lvl x.f3) * x.f2.toNat:Nat):Int):=by
              rw [← ez,← Int.natCast_mul,w64_in _ (by omega)];simp
            rw [e,if_pos h4,← min_mul]
            refine ev_eq (Ev.now _) ?_
            unfold mn;split <;> omega
          · refine ev_neg h4 ?_
            rw [if_neg h4]
            exact Ev.now _)
      (fun i y r hi hy hm ih a ha=>by
        obtain ⟨e,e1⟩:=leaves_ev n y (dv_kid hd hm) (kid_zero hz hm)
        rw [lvl_cons] at ha
        have hy1:=lv_le y
        obtain ⟨f,f1⟩:=ih (a+lv y) (by omega)
        refine ⟨?_,?_⟩
        · refine Ev.step (fun k=>by rw [ancepsref08_leaves.l0,if_pos (by omega),if_pos (by omega),hy,wrap_succ _ _ hi (by omega)]) ?_
          refine Ev.bind e ?_
          rw [w64_in _ (by omega),show (a:Int)+(lv y:Int)=((a+lv y:Nat):Int) by omega]
          exact f
        · refine Ev.step (fun k=>by rw [expr_leaves.l0,if_pos (by omega),if_pos (by omega),if_pos (by omega),hy,wrap_succ _ _ hi (by omega)]) ?_
          refine Ev.bind e1 ?_
          rw [w64_in _ (by omega),show mn 401 (((min 401 a:Nat):Int)+(lv y:Int))=((min 401 (a+lv y):Nat):Int) by unfold mn;split <;> omega]
          exact f1) 0 (by omega)
    exact ⟨Ev.step (fun k=>by rw [ancepsref08_leaves.f,if_neg h1];rfl) this.1,Ev.step (fun k=>by rw [expr_leaves.f,if_neg h1];rfl) this.2⟩
def vl (x:S24):Int:=if 500<sz x∨40<dp x then 3 else if nds x=0 then (if 400<lv x then 3 else 0) else nds x
theorem refValid_ev {x:S24} (hd:dv 60 x=true):Ev (fun k=>ancepsref08_Valid.f k x.f0 x.f1 x.f2 x.f3) (vl x):=by
  obtain ⟨s,e,s1,s2,s3⟩:=size_ev 60 x (Nat.le_refl _) hd
  refine Ev.congr (fun k=>by rw [ancepsref08_Valid.f]) ?_
  refine Ev.bind e ?_
  unfold vl
  unfold szR at s3
  by_cases h1:500<sz x
  · rw [if_pos (.inl h1)]
    exact ev_pos (by omega) (Ev.now _)
  refine ev_neg (by omega) (Ev.bind (levels_ev 60 x (Nat.le_refl _) hd).1 ?_)
  by_cases h2:40<dp x
  · rw [if_pos (.inr h2)]
    exact ev_pos (by omega) (Ev.now _)
  rw [if_neg (by omega)]
  refine ev_neg (by omega) (Ev.bind (nodes_ev 60 x hd).1 ?_)
  by_cases h3:nds x=0
  · rw [if_pos h3]
    refine ev_pos h3 (Ev.bind (leaves_ev 60 x hd h3).1 ?_)
    by_cases h4:400<lv x
    · rw [if_pos h4];exact ev_pos (by omega) (Ev.now _)
    · rw [if_neg h4];exact ev_neg (by omega) (Ev.now _)
  · rw [if_neg h3]
    exact ev_neg h3 (Ev.now _)
theorem exprValid_ev {x:S24} (hd:dv 60 x=true):Ev (fun k=>expr_Valid.f k x.f0 x.f1 x.f2 x.f3) (vl x):=by
  obtain ⟨b,c,e,q1,q2⟩:=measure_ev 60 x 1 0 hd (by omega) (by omega)
  refine Ev.congr (fun k=>by rw [expr_Valid.f]) ?_
  refine Ev.bind e ?_
  unfold vl
  cases b with
  | false=>
    rw [if_pos (by
      rcases Nat.lt_or_ge 500 (sz x) with h|h
      · exact .inl h
      · rcases Nat.lt_or_ge 40 (dp x) with h'|h'
        · exact .inr h'
        · exact absurd (q1.2 (by omega)) (by decide))]
    exact ev_neg (fun h=>by cases h) (Ev.now _)
  | true=>
    have:=q1.1 rfl
    rw [if_neg (by omega)]
    refine ev_pos rfl (Ev.bind (nodes_ev 60 x hd).2 ?_)
    by_cases h3:nds x=0
    · rw [if_pos h3]
      refine ev_pos h3 (Ev.bind (leaves_ev 60 x hd h3).2 ?_)
      by_cases h4:400<lv x
      · rw [if_pos h4];exact ev_pos (by omega) (Ev.now _)
      · rw [if_neg h4];exact ev_neg (by omega) (Ev.now _)
    · rw [if_neg h3]
      exact ev_neg h3 (Ev.now _)
theorem vl_zero {x:S24} (h:vl x=0):sz x≤500∧dp x≤40∧nds x=0∧lv x≤400:=by
  unfold vl at h
  split at h
  · omega
  · split at h
    · split at h
      · omega
      · omega
    · omega
theorem Few_ev (x:S24) (n:Nat) (hn:n≤10000):∃ b,Ev (fun k=>ancepsref08_Few.f k x.f0 x.f1 x.f2 x.f3 (n:Int)) b∧(b=true→dv 60 x=true∧sz x≤n):=by
  cases hd:dv 60 x with
  | false=>
    refine ⟨false,Ev.congr (fun k=>by rw [ancepsref08_Few.f]) ?_,fun h=>by cases h⟩
    exact Ev.bind (hd ▸ deep_ev 60 x (Nat.le_refl _)) (ev_neg (by decide) (Ev.now _))
  | true=>
    obtain ⟨s,e,s1,s2,s3⟩:=size_ev 60 x (Nat.le_refl _) hd
    refine ⟨decide (s≤n),Ev.congr (fun k=>by rw [ancepsref08_Few.f]) ?_,fun h=>⟨rfl,?_⟩⟩
    · exact Ev.bind (hd ▸ deep_ev 60 x (Nat.le_refl _)) (ev_pos rfl (Ev.bind e (Ev.now _)))
    · have:=of_decide_eq_true h
      unfold szR at s3;omega

def Tot {α:Type} (g:Nat→Option α):Prop:=∃ r,Ev g r
theorem Tot.now {α:Type} (r:α):Tot (fun _=>some r):=⟨r,Ev.now r⟩
theorem Tot.ite {α:Type} {c:Prop} [Decidable c] {g f:Nat→Option α} (h1:Tot g) (h2:Tot f):Tot (fun k=>if c then g k else f k):=by
  by_cases h:c
  · obtain ⟨r,e⟩:=h1;exact ⟨r,ev_pos h e⟩
  · obtain ⟨r,e⟩:=h2;exact ⟨r,ev_neg h e⟩
theorem Tot.bind {α β:Type} {g:Nat→Option α} {f:Nat→α→Option β} (h:Tot g) (h2:∀ a,Tot (fun k=>f k a)):Tot (fun k=>(g k).bind (f k)):=by
  obtain ⟨a,e⟩:=h
  obtain ⟨r,e2⟩:=h2 a
  exact ⟨r,Ev.bind e e2⟩
theorem Tot.step {α:Type} {g f:Nat→Option α} (h:∀ k,g (k+1)=f k) (k:Tot f):Tot g:=by
  obtain ⟨r,e⟩:=k
  exact ⟨r,Ev.step h e⟩
theorem one_kid {l:List S24} (h:l.length=1):∃ y,l=[y]∧rd_T24 l 0=y∧y∈l:=by
  match l,h with
  | [y],_=>exact ⟨y,rfl,rfl,List.mem_cons_self ..⟩
theorem span_tot:∀ (n:Nat) (x:S24),dv n x=true→nds x=0→Tot (fun k=>expr_span.f k x.f0 x.f1 x.f2 x.f3)∧Tot (fun k=>ancepsref08_lengths.f k x.f0 x.f1 x.f2 x.f3)
  | n+1,x,hd,hz=>by
    have hl:=dv_len hd
    obtain ⟨q1,q2,q3,q4,q5,q6,q7⟩:=nd_zero (nds_zero hz).1
    have kid:∀ y∈x.f3,Tot (fun k=>expr_span.f k y.f0 y.f1 y.f2 y.f3)∧Tot (fun k=>ancepsref08_lengths.f k y.f0 y.f1 y.f2 y.f3):=fun y hm=>span_tot n y (dv_kid hd hm) (kid_zero hz hm)
    have a0:=drops0 (l:=x.f3) (P:=fun i m=>∀ a b c,Tot (fun k=>expr_span.l0 k a b c x.f3 (x.f3.length:Int) (i:Int)))
      (fun a b c=>Tot.step (fun k=>by rw [expr_span.l0,if_neg (by omega)]) (Tot.now _))
      (fun i y r hi hy hm ih a b c=>by
        refine Tot.step (fun k=>by rw [expr_span.l0,if_pos (by omega),if_pos (by omega),if_pos (by omega),hy,wrap_succ _ _ hi (by omega)]) ?_
        refine Tot.bind (kid y hm).1 fun t=>?_
        repeat' (first|exact ih _ _ _|refine Tot.ite ?_ ?_))
    have a1:=drops0 (l:=x.f3) (P:=fun i m=>∀ a b c,Tot (fun k=>expr_span.l1 k a b c x.f3 (x.f3.length:Int) (i:Int)))
      (fun a b c=>Tot.step (fun k=>by rw [expr_span.l1,if_neg (by omega)]) (Tot.now _))
      (fun i y r hi hy hm ih a b c=>by
        refine Tot.step (fun k=>by rw [expr_span.l1,if_pos (by omega),if_pos (by omega),if_pos (by omega),hy,wrap_succ _ _ hi (by omega)]) ?_
        refine Tot.bind (kid y hm).1 fun t=>?_
        repeat' (first|exact ih _ _ _|refine Tot.ite ?_ ?_))
    have b0:=drops0 (l:=x.f3) (P:=fun i m=>∀ a b,Tot (fun k=>ancepsref08_lengths.l0 k a b (i:Int) x.f0 x.f1 x.f2 x.f3))
      (fun a b=>Tot.step (fun k=>by rw [ancepsref08_lengths.l0,if_neg (by omega)]) (Tot.now _))
      (fun i y r hi hy hm ih a b=>by
        refine Tot.step (fun k=>by rw [ancepsref08_lengths.l0,if_pos (by omega),if_pos (by omega),hy,wrap_succ _ _ hi (by omega)]) ?_
        refine Tot.bind (kid y hm).2 fun t=>?_
        repeat' (first|exact ih _ _|exact Tot.now _|refine Tot.ite ?_ ?_))
    have b1:=drops0 (l:=x.f3) (P:=fun i m=>∀ a b c,Tot (fun k=>ancepsref08_lengths.l1 k a b c (i:Int) x.f0 x.f1 x.f2 x.f3))
      (fun a b c=>Tot.step (fun k=>by rw [ancepsref08_lengths.l1,if_neg (by omega)]) (Tot.now _))
      (fun i y r hi hy hm ih a b c=>by
        refine Tot.step (fun k=>by rw [ancepsref08_lengths.l1,if_pos (by omega),if_pos (by omega),hy,wrap_succ _ _ hi (by omega)]) ?_
        refine Tot.bind (kid y hm).2 fun t=>?_
        repeat' (first|exact ih _ _ _|refine Tot.ite ?_ ?_))
    have one:x.f0=4∨x.f0=5∨x.f0=6→0<(x.f3.length:Int)∧Tot (fun k=>expr_span.f k (rd_T24 x.f3 0).f0 (rd_T24 x.f3 0).f1 (rd_T24 x.f3 0).f2 (rd_T24 x.f3 0).f3)∧Tot (fun k=>ancepsref08_lengths.f k (rd_T24 x.f3 0).f0 (rd_T24 x.f3 0).f1 (rd_T24 x.f3 0).f2 (rd_T24 x.f3 0).f3):=fun h=>by
      have h1:x.f3.length=1:=by omega
      obtain ⟨y,_,hy,hm⟩:=one_kid h1
      rw [hy]
      exact ⟨by omega,kid y hm⟩
    refine ⟨Tot.step (fun k=>by rw [expr_span.f]) ?_,Tot.step (fun k=>by rw [ancepsref08_lengths.f]) ?_⟩
    · by_cases h1:x.f0=1
      · simp only [if_pos h1];exact Tot.now _
      by_cases h3:x.f0=3
      · simp only [if_neg h1,if_pos h3];exact a0 _ _ _
      by_cases h2:x.f0=2
      · simp only [if_neg h1,if_neg h3,if_neg (show ¬ x.f0=4 by omega),if_neg (show ¬ x.f0=5 by omega),if_neg (show ¬ x.f0=6 by omega)];exact a1 _ _ _
      obtain ⟨o1,o2,o3⟩:=one (by omega)
      simp only [if_neg h1,if_neg h3,if_pos o1]
      repeat' (first|exact Tot.now _|refine Tot.bind o2 fun t=>?_|exact a1 _ _ _|refine Tot.ite ?_ ?_)
    · by_cases h1:x.f0=1
      · simp only [if_pos h1];exact Tot.now _
      by_cases h2:x.f0=2
      · simp only [if_neg h1,if_pos h2];exact b0 _ _
      by_cases h3:x.f0=3
      · simp only [if_neg h1,if_neg h2,if_pos h3];exact b1 _ _ _
      obtain ⟨o1,o2,o3⟩:=one (by omega)
      simp only [if_neg h1,if_neg h2,if_neg h3,if_pos o1]
      repeat' (first|exact Tot.now _|refine Tot.bind o3 fun t=>?_|refine Tot.ite ?_ ?_)
def wn (t:Int×Int×Bool) (L:Nat):Prop:=t.2.2=true→0≤t.1∧t.1≤L∧-1≤t.2.1∧t.2.1≤L
def rel (s r:Int×Int×Bool) (L:Nat):Prop:=s.2.2=r.2.2∧(s.2.2=true→s=r)∧wn s L
def alt (t b:Int×Int×Bool):Int×Int×Bool:=
  if b.2.2=true then (if t.2.2=true then (mn t.1 b.1,(if b.2.1<0∨0≤t.2.1∧t.2.1<b.2.1 then b.2.1 else t.2.1),true) else (b.1,b.2.1,true)) else t
theorem alt_step (k:Nat) (t:Int×Int×Bool) (l:List S24) (i:Nat) (y:S24) (hi:i<l.length) (hl:l.length≤600) (hy:rd_T24 l (i:Int)=y) :
    expr_span.l0 (k+1) t.1 t.2.1 t.2.2 l (l.length:Int) (i:Int)=(expr_span.f k y.f0 y.f1 y.f2 y.f3).bind fun b=>expr_span.l0 k (alt t b).1 (alt t b).2.1 (alt t b).2.2 l (l.length:Int) ((i+1:Nat):Int):=by
  rw [expr_span.l0,if_pos (by omega),if_pos (by omega),if_pos (by omega),hy,wrap_succ _ _ hi (by omega)]
  congr 1;funext b;unfold alt;grind
theorem altr_step (k:Nat) (t:Int×Int×Bool) (x:S24) (i:Nat) (y:S24) (hi:i<x.f3.length) (hl:x.f3.length≤600) (hy:rd_T24 x.f3 (i:Int)=y) (ht:t.2.2=true→-1≤t.2.1) :
    ancepsref08_lengths.l1 (k+1) t.1 t.2.1 t.2.2 (i:Int) x.f0 x.f1 x.f2 x.f3=(ancepsref08_lengths.f k y.f0 y.f1 y.f2 y.f3).bind fun b=>
      ancepsref08_lengths.l1 k (if b.2.2=true∧b.2.1 < -1 then (if t.2.2=true∧t.1≤b.1 then t.1 else b.1) else (alt t b).1) (if b.2.2=true∧b.2.1 < -1 then (if t.2.2=true∧t.2.1<0 then t.2.1 else b.2.1) else (alt t b).2.1) (alt t b).2.2 ((i+1:Nat):Int) x.f0 x.f1 x.f2 x.f3:=by
  rw [ancepsref08_lengths.l1,if_pos (by omega),if_pos (by omega),hy,wrap_succ _ _ hi (by omega)]
  congr 1;funext b;unfold alt mn;grind

theorem alt_wn {t b:Int×Int×Bool} {S T:Nat} (h1:wn t S) (h2:wn b T):wn (alt t b) (S+T):=by
  unfold wn alt mn at *;grind
theorem seq_step (k:Nat) (lo hi:Int) (ok:Bool) (l:List S24) (i:Nat) (y:S24) (hi':i<l.length) (hl:l.length≤600) (hy:rd_T24 l (i:Int)=y) :
    expr_span.l1 (k+1) lo hi ok l (l.length:Int) (i:Int)=(expr_span.f k y.f0 y.f1 y.f2 y.f3).bind fun b=>expr_span.l1 k (wrap64 (lo+b.1)) (if b.2.1<0∨hi<0 then -1 else wrap64 (hi+b.2.1)) (ok&&b.2.2) l (l.length:Int) ((i+1:Nat):Int):=by
  rw [expr_span.l1,if_pos (by omega),if_pos (by omega),if_pos (by omega),hy,wrap_succ _ _ hi' (by omega)]
  congr 1;funext b;grind
theorem seqr_step (k:Nat) (lo hi:Int) (x:S24) (i:Nat) (y:S24) (hi':i<x.f3.length) (hl:x.f3.length≤600) (hy:rd_T24 x.f3 (i:Int)=y) :
    ancepsref08_lengths.l0 (k+1) lo hi (i:Int) x.f0 x.f1 x.f2 x.f3=(ancepsref08_lengths.f k y.f0 y.f1 y.f2 y.f3).bind fun b=>if b.2.2=true then ancepsref08_lengths.l0 k (wrap64 (lo+b.1)) (if b.2.1<0∨hi<0 then -1 else wrap64 (hi+b.2.1)) ((i+1:Nat):Int) x.f0 x.f1 x.f2 x.f3 else some (0,0,false):=by
  rw [ancepsref08_lengths.l0,if_pos (by omega),if_pos (by omega),hy,wrap_succ _ _ hi' (by omega)]
  congr 1;funext b;grind
theorem span_ev:∀ (n:Nat) (x:S24),dv n x=true→nds x=0→lv x≤400→∃ s r,Ev (fun k=>expr_span.f k x.f0 x.f1 x.f2 x.f3) s∧Ev (fun k=>ancepsref08_lengths.f k x.f0 x.f1 x.f2 x.f3) r∧rel s r (lv x)
  | n+1,x,hd,hz,hv=>by
    have hl:=dv_len hd
    obtain ⟨q1,q2,q3,q4,q5,q6,q7⟩:=nd_zero (nds_zero hz).1
    have elv:lv x=if x.f0=1 then 1 else min 401 (lvl x.f3 * (if x.f0=4 then x.f2.toNat else 1)):=rfl
    by_cases h1:x.f0=1
    · refine ⟨(1,1,x.f1 != 0),(1,1,x.f1 != 0),Ev.step (fun k=>by rw [expr_span.f,if_pos h1]) (Ev.now _),Ev.step (fun k=>by rw [ancepsref08_lengths.f,if_pos h1]) (Ev.now _),rfl,fun _=>rfl,fun _=>?_⟩
      rw [if_pos h1] at elv
      rw [elv]
      exact ⟨by show (0:Int)≤1;omega,by show (1:Int)≤(1:Nat);omega,by show (-1:Int)≤1;omega,by show (1:Int)≤(1:Nat);omega⟩
    rw [if_neg h1] at elv
    have kid:∀ y∈x.f3,lv y≤400→∃ s r,Ev (fun k=>expr_span.f k y.f0 y.f1 y.f2 y.f3) s∧Ev (fun k=>ancepsref08_lengths.f k y.f0 y.f1 y.f2 y.f3) r∧rel s r (lv y):=fun y hm hy=>span_ev n y (dv_kid hd hm) (kid_zero hz hm) hy
    by_cases h2:x.f0=2
    · rw [if_neg (by omega),Nat.mul_one] at elv
      have e:lv x=lvl x.f3:=by omega
      have no':∀ i,i≤x.f3.length→∀ a b,∃ s,Ev (fun k=>expr_span.l1 k a b false x.f3 (x.f3.length:Int) (i:Int)) s∧s.2.2=false:=fun i hi=>drops (l:=x.f3) (P:=fun i m=>∀ a b,∃ s,Ev (fun k=>expr_span.l1 k a b false x.f3 (x.f3.length:Int) (i:Int)) s∧s.2.2=false)
        (fun a b=>⟨_,Ev.step (fun k=>by rw [expr_span.l1,if_neg (by omega)]) (Ev.now _),rfl⟩)
        (fun i y r hi hy hm ih a b=>by
          obtain ⟨t,et⟩:=(span_tot n y (dv_kid hd hm) (kid_zero hz hm)).1
          obtain ⟨s,es,hs⟩:=ih (wrap64 (a+t.1)) (if t.2.1<0∨b<0 then -1 else wrap64 (b+t.2.1))
          exact ⟨s,Ev.step (fun k=>seq_step k a b false x.f3 i y hi hl hy) (Ev.bind et (by rw [Bool.false_and];exact es)),hs⟩) i hi
      have:=drops0 (l:=x.f3) (P:=fun i m=>∀ (S:Nat) (lo hi:Int),S+lvl m=lv x→0≤lo→lo≤S→-1≤hi→hi≤S→∃ s r,Ev (fun k=>expr_span.l1 k lo hi true x.f3 (x.f3.length:Int) (i:Int)) s∧Ev (fun k=>ancepsref08_lengths.l0 k lo hi (i:Int) x.f0 x.f1 x.f2 x.f3) r∧rel s r (lv x))
        (fun S lo hi hS u1 u2 u3 u4=>by
          rw [lvl,Nat.add_zero] at hS
          exact ⟨_,_,Ev.step (fun k=>by rw [expr_span.l1,if_neg (by omega)]) (Ev.now _),Ev.step (fun k=>by rw [ancepsref08_lengths.l0,if_neg (by omega)]) (Ev.now _),rfl,fun _=>rfl,fun _=>⟨u1,by rw [← hS];exact u2,u3,by rw [← hS];exact u4⟩⟩)
        (fun i y r hi' hy hm ih S lo hi hS u1 u2 u3 u4=>by
          rw [lvl_cons] at hS
          obtain ⟨s,t,es,et,w1,w2,w3⟩:=kid y hm (by omega)
          cases hs:s.2.2 with
          | false=>
            obtain ⟨f,ef,hf⟩:=no' (i+1) (by omega) (wrap64 (lo+s.1)) (if s.2.1<0∨hi<0 then -1 else wrap64 (hi+s.2.1))
            refine ⟨f,(0,0,false),Ev.step (fun k=>seq_step k lo hi true x.f3 i y hi' hl hy) (Ev.bind es (by rw [hs,Bool.and_false];exact ef)),Ev.step (fun k=>seqr_step k lo hi x i y hi' hl hy) (Ev.bind et (ev_neg (by rw [← w1,hs];decide) (Ev.now _))),hf,fun h=>absurd h (by rw [hf];decide),fun h=>absurd h (by rw [hf];decide)⟩
          | true=>
            obtain ⟨v1,v2,v3,v4⟩:=w3 hs
            have hst:=w2 hs
            have e1:wrap64 (lo+s.1)=lo+s.1:=w64_in _ (by omega)
            have e2:(if s.2.1<0∨hi<0 then (-1:Int) else wrap64 (hi+s.2.1))=(if s.2.1<0∨hi<0 then -1 else hi+s.2.1):=by
              split
              · rfl
              · rw [w64_in _ (by omega)]
            obtain ⟨f,g,ef,eg,hr⟩:=ih (S+lv y) (lo+s.1) (if s.2.1<0∨hi<0 then -1 else hi+s.2.1) (by omega) (by omega) (by omega) (by split <;> omega) (by split <;> omega)
            refine ⟨f,g,Ev.step (fun k=>seq_step k lo hi true x.f3 i y hi' hl hy) (Ev.bind es (by rw [hs,e1,e2];exact ef)),Ev.step (fun k=>seqr_step k lo hi x i y hi' hl hy) (Ev.bind et (ev_pos (by rw [← hst,hs]) (by rw [← hst,e1,e2];exact eg))),hr⟩)
        0 0 0 (by omega) (by omega) (by omega) (by omega) (by omega)
      obtain ⟨s,r,es,er,hr⟩:=this
      exact ⟨s,r,Ev.step (fun k=>by rw [expr_span.f,if_neg h1,if_neg (by omega),if_neg (by omega),if_neg (by omega),if_neg (by omega)];rfl) es,Ev.step (fun k=>by rw [ancepsref08_lengths.f,if_neg h1,if_pos h2];rfl) er,hr⟩
    by_cases h3:x.f0=3
    · rw [if_neg (by omega),Nat.mul_one] at elv
      have e:lv x=lvl x.f3:=by omega
      have:=drops0 (l:=x.f3) (P:=fun i m=>∀ (S:Nat) (t:Int×Int×Bool),S+lvl m=lv x→wn t S→∃ s,Ev (fun k=>expr_span.l0 k t.1 t.2.1 t.2.2 x.f3 (x.f3.length:Int) (i:Int)) s∧Ev (fun k=>ancepsref08_lengths.l1 k t.1 t.2.1 t.2.2 (i:Int) x.f0 x.f1 x.f2 x.f3) s∧wn s (lv x))
        (fun S t hS ht=>by
          rw [lvl,Nat.add_zero] at hS
          exact ⟨t,Ev.step (fun k=>by rw [expr_span.l0,if_neg (by omega)]) (Ev.now _),Ev.step (fun k=>by rw [ancepsref08_lengths.l1,if_neg (by omega)]) (Ev.now _),hS ▸ ht⟩)
        (fun i y r hi hy hm ih S t hS ht=>by
          rw [lvl_cons] at hS
          obtain ⟨s,t',es,et,w1,w2,w3⟩:=kid y hm (by omega)
          have hs1:s.2.2=true→-1≤s.2.1:=fun h=>(w3 h).2.2.1
          obtain ⟨f,ef,eg,hw⟩:=ih (S+lv y) (alt t s) (by omega) (alt_wn ht w3)
          have e3:alt t t'=alt t s:=by
            cases hs:s.2.2 with
            | true=>rw [w2 hs]
            | false=>unfold alt;rw [if_neg (by rw [← w1,hs];decide),if_neg (by rw [hs];decide)]
          refine ⟨f,Ev.step (fun k=>alt_step k t x.f3 i y hi hl hy) (Ev.bind es ef),Ev.step (fun k=>altr_step k t x i y hi hl hy (fun h=>(ht h).2.2.1)) (Ev.bind et ?_),hw⟩
          have hn:¬ (t'.2.2=true∧t'.2.1 < -1):=fun h=>by
            have h5:s.2.2=true:=w1.trans h.1
            have:=hs1 h5
            rw [w2 h5] at this
            omega
          rw [if_neg hn,if_neg hn,e3]
          exact eg)
        0 (0,0,false) (by omega) (fun h=>by cases h)
      obtain ⟨s,es,er,hw⟩:=this
      exact ⟨s,s,Ev.step (fun k=>by rw [expr_span.f,if_neg h1,if_pos h3];rfl) es,Ev.step (fun k=>by rw [ancepsref08_lengths.f,if_neg h1,if_neg h2,if_pos h3];rfl) er,rfl,fun _=>rfl,hw⟩
    obtain ⟨y,hxy,hy,hm⟩:=one_kid (l:=x.f3) (by omega)
    have hL:0<(x.f3.length:Int):=by omega
    have e1:lvl x.f3=lv y:=by rw [hxy,lvl_cons,lvl,Nat.add_zero]
    rw [e1] at elv
    by_cases h4:x.f0=4
    · rw [if_pos h4] at elv
      by_cases hN:x.f2=0
      · obtain ⟨⟨s,es⟩,⟨t,et⟩⟩:=span_tot n y (dv_kid hd hm) (kid_zero hz hm)
        refine ⟨(0,0,true),(0,0,true),Ev.step (fun k=>by rw [expr_span.f,if_neg h1,if_neg h3,if_neg (by omega),if_neg (by omega),if_pos h4,if_pos hL,hy]) (Ev.bind es (ev_pos hN (Ev.now _))),Ev.step (fun k=>by rw [ancepsref08_lengths.f,if_neg h1,if_neg h2,if_neg h3,if_pos h4,if_pos hL,hy]) (Ev.bind et (ev_pos hN (Ev.now _))),rfl,fun _=>rfl,fun _=>⟨by decide,Int.natCast_nonneg _,by decide,Int.natCast_nonneg _⟩⟩
      · have hN1:1≤x.f2.toNat:=by omega
        have ez:(x.f2.toNat:Int)=x.f2:=Int.toNat_of_nonneg (by omega)
        have hm1:lv y≤lv y * x.f2.toNat:=Nat.le_mul_of_pos_right _ hN1
        have elv':lv x=lv y * x.f2.toNat:=by omega
        obtain ⟨s,t,es,et,w1,w2,w3⟩:=kid y hm (by omega)
        have bnd:∀ a:Int,0≤a→a≤lv y→0≤a * x.f2∧a * x.f2≤lv x∧wrap64 (a * x.f2)=a * x.f2:=fun a h0 h5=>by
          have g1:0≤a * x.f2:=Int.mul_nonneg h0 (by omega)
          have g2:a * x.f2≤(lv y:Int) * x.f2:=Int.mul_le_mul_of_nonneg_right h5 (by omega)
          have g3:(lv y:Int) * x.f2=(lv x:Int):=by rw [elv',← ez,Int.natCast_mul];simp
          exact ⟨g1,by omega,w64_in _ (by omega)⟩
        refine ⟨if s.2.1>0 then (wrap64 (s.1 * x.f2),wrap64 (s.2.1 * x.f2),s.2.2) else (wrap64 (s.1 * x.f2),s.2.1,s.2.2),if t.2.1>0 then (wrap64 (t.1 * x.f2),wrap64 (t.2.1 * x.f2),t.2.2) else (wrap64 (t.1 * x.f2),t.2.1,t.2.2),
          Ev.step (fun k=>by rw [expr_span.f,if_neg h1,if_neg h3,if_neg (by omega),if_neg (by omega),if_pos h4,if_pos hL,hy]) (Ev.bind es (ev_neg hN (ev_ite (fun _=>Ev.now _) (fun _=>Ev.now _)))),Ev.step (fun k=>by rw [ancepsref08_lengths.f,if_neg h1,if_neg h2,if_neg h3,if_pos h4,if_pos hL,hy]) (Ev.bind et (ev_neg hN (ev_ite (fun _=>Ev.now _) (fun _=>Ev.now _)))),?_,?_,?_⟩
        · split <;> split <;> exact w1
        · intro h
          have hs:s.2.2=true:=by split at h <;> exact h
          rw [w2 hs]
        · intro h
          have hs:s.2.2=true:=by split at h <;> exact h
          obtain ⟨v1,v2,v3,v4⟩:=w3 hs
          have b1:=bnd s.1 v1 v2
          split
          · have b2:=bnd s.2.1 (by omega) v4
            show 0≤wrap64 (s.1 * x.f2)∧wrap64 (s.1 * x.f2)≤lv x∧-1≤wrap64 (s.2.1 * x.f2)∧wrap64 (s.2.1 * x.f2)≤lv x
            rw [b1.2.2,b2.2.2];omega
          · show 0≤wrap64 (s.1 * x.f2)∧wrap64 (s.1 * x.f2)≤lv x∧-1≤s.2.1∧s.2.1≤lv x
            rw [b1.2.2];omega
    rw [if_neg h4,Nat.mul_one] at elv
    have elv':lv x=lv y:=by omega
    obtain ⟨s,t,es,et,w1,w2,w3⟩:=kid y hm (by omega)
    have ew:∃ s',Ev (fun k=>expr_span.f k x.f0 x.f1 x.f2 x.f3) s'∧s'=if s.2.2=true then (if x.f0=5∧s.2.1>0 then (0,-1,true) else (0,s.2.1,true)) else (0,0,true):=by
      by_cases h5:x.f0=5
      · refine ⟨_,Ev.step (fun k=>by rw [expr_span.f,if_neg h1,if_neg h3,if_pos h5,if_pos hL,hy]) (Ev.bind es (ev_ite (fun _=>ev_ite (fun _=>Ev.now _) (fun _=>Ev.now _)) (fun _=>Ev.now _))),by simp [h5]⟩
      · refine ⟨_,Ev.step (fun k=>by rw [expr_span.f,if_neg h1,if_neg h3,if_neg h5,if_pos (by omega),if_pos hL,hy]) (Ev.bind es (ev_ite (fun _=>Ev.now _) (fun _=>Ev.now _))),by simp [h5]⟩
    have er:∃ r',Ev (fun k=>ancepsref08_lengths.f k x.f0 x.f1 x.f2 x.f3) r'∧r'=if t.2.2=true then (if x.f0=5∧t.2.1≠0 then (0,-1,true) else (0,t.2.1,true)) else (0,0,true):=by
      refine ⟨_,Ev.step (fun k=>by rw [ancepsref08_lengths.f,if_neg h1,if_neg h2,if_neg h3,if_neg h4,if_pos hL,hy]) (Ev.bind et (ev_ite (fun _=>ev_ite (fun _=>ev_ite (fun _=>Ev.now _) (fun _=>Ev.now _)) (fun _=>Ev.now _)) (fun _=>Ev.now _))),by grind⟩
    obtain ⟨s',es',hs'⟩:=ew
    obtain ⟨r',er',hr'⟩:=er
    refine ⟨s',r',es',er',?_⟩
    cases hs:s.2.2 with
    | false=>
      have ht:¬ t.2.2=true:=by rw [← w1,hs];decide
      rw [if_neg (by rw [hs];decide)] at hs'
      rw [if_neg ht] at hr'
      rw [hs',hr']
      exact ⟨rfl,fun _=>rfl,fun _=>⟨by decide,Int.natCast_nonneg _,by decide,Int.natCast_nonneg _⟩⟩
    | true=>
      obtain ⟨v1,v2,v3,v4⟩:=w3 hs
      rw [← w2 hs,if_pos hs] at hr'
      rw [if_pos hs] at hs'
      have e5:s'=r':=by rw [hs',hr'];grind
      refine ⟨by rw [e5],fun _=>e5,fun _=>?_⟩
      rw [hs']
      split
      · exact ⟨by decide,Int.natCast_nonneg _,by decide,by show (-1:Int)≤_;omega⟩
      · exact ⟨by show (0:Int)≤0;omega,by show (0:Int)≤_;omega,v3,by show s.2.1≤_;omega⟩
theorem Lengths_eq {x:S24} (hd:dv 60 x=true):∃ r,Ev (fun k=>expr_Lengths.f k x.f0 x.f1 x.f2 x.f3) r∧Ev (fun k=>ancepsref08_Lengths.f k x.f0 x.f1 x.f2 x.f3) r:=by
  by_cases h0:vl x=0
  · obtain ⟨_,_,z3,z4⟩:=vl_zero h0
    obtain ⟨s,r,es,er,w1,w2,_⟩:=span_ev 60 x hd z3 z4
    refine ⟨if s.2.2=true then (s.1,s.2.1,0) else (0,0,10),Ev.congr (fun k=>by rw [expr_Lengths.f]) (Ev.bind (exprValid_ev hd) (ev_pos h0 (Ev.bind es (ev_ite (fun _=>Ev.now _) (fun _=>Ev.now _))))),Ev.congr (fun k=>by rw [ancepsref08_Lengths.f]) (Ev.bind (refValid_ev hd) (ev_pos h0 (Ev.bind er ?_)))⟩
    cases hs:s.2.2 with
    | true=>
      rw [← w2 hs]
      exact ev_pos hs (Ev.now _)
    | false=>exact ev_neg (by rw [← w1,hs];decide) (Ev.now _)
  · exact ⟨(0,0,vl x),Ev.congr (fun k=>by rw [expr_Lengths.f]) (Ev.bind (exprValid_ev hd) (ev_neg h0 (Ev.now _))),Ev.congr (fun k=>by rw [ancepsref08_Lengths.f]) (Ev.bind (refValid_ev hd) (ev_neg h0 (Ev.now _)))⟩
theorem ExprLengths (a0_0:Int) (a0_1:Int) (a0_2:Int) (l0_3:List (S24)) (w_a0_0:(Lit.int .i64 a0_0).wf=true) (w_a0_1:(Lit.int .i64 a0_1).wf=true) (w_a0_2:(Lit.int .i64 a0_2).wf=true) (w_l0_3:∀ x,x∈l0_3→True):∃ k,M.ancepslaw08_ExprLengths.f k a0_0 a0_1 a0_2 l0_3=some true:=by
  refine ev_rounds ?_
  refine Ev.congr (fun k=>by rw [ancepslaw08_ExprLengths.f]) ?_
  have aw:Ev (fun k=>ancepslaw08_awake.f k) true:=Ev.now _
  obtain ⟨b,e,hb⟩:=Few_ev ⟨a0_0,a0_1,a0_2,l0_3⟩ 100 (by omega)
  refine Ev.bind aw (ev_pos rfl (Ev.bind e ?_))
  cases b with
  | false=>exact ev_neg (by decide) (Ev.bind aw (Ev.now _))
  | true=>
    obtain ⟨r,e1,e2⟩:=Lengths_eq (hb rfl).1
    exact ev_pos rfl (Ev.bind e1 (Ev.bind e2 (ev_pos rfl (ev_pos rfl (ev_eq (Ev.now _) (beq_self_eq_true _))))))

end Go.Proofs.Ytpojokndmkhpkaa.Pure
