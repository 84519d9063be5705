import Derived.Test.YtngpkbbljnbojaaGreatF0
import Derived.Test.YtngpkbbljnbojaaGreatF2
import Derived.Test.YtngpkbbljnbojaaGreatF3
import Derived.Test.YtngpkbbljnbojaaGreatF4
import Derived.Test.YtngpkbbljnbojaaGreatF5
import Derived.Test.YtngpkbbljnbojaaGreatF6
import Derived.Test.YtngpkbbljnbojaaGreatF7
import Derived.Test.YtngpkbbljnbojaaGreatF8
import Derived.Test.YtngpkbbljnbojaaGreatF9
import Derived.Test.YtngpkbbljnbojaaGreatF10
import Derived.Test.YtngpkbbljnbojaaGreatF11
import Derived.Test.YtngpkbbljnbojaaGreatF12
import Derived.Test.YtngpkbbljnbojaaGreatF13
import Derived.Test.YtngpkbbljnbojaaGreatF14
import Derived.Test.YtngpkbbljnbojaaGreatF15
import Derived.Test.YtngpkbbljnbojaaGreatF16
import Derived.Test.YtngpkbbljnbojaaGreatF17
import Derived.Test.YtngpkbbljnbojaaGreatF18
import Derived.Test.YtngpkbbljnbojaaGreatF19
import Derived.Test.YtngpkbbljnbojaaGreatF20
namespace Go.Proofs.YtngpkbbljnbojaaGreat.Pure
open Go.RowKit Go.Proofs.YtngpkbbljnbojaaGreatW.PrintWords Go.Proofs.YtngpkbbljnbojaaGreat.F
set_option linter.unusedVariables false
set_option linter.unusedSimpArgs false
theorem qh (n:Int) (h : -9223372036854775808≤n∧n≤9223372036854775807):wrap64 n=n:=by unfold wrap64;omega
theorem qc (i n:Nat) (hi:i<n) (hn:(n:Int)≤9223372036854775807):wrap64 ((i:Int)+1)=((i+1:Nat):Int):=by
  rw [qh _ (by omega)];omega
theorem qB {α:Type} (l:List α) (i:Nat) (z:α) (hi:i<l.length):l.drop i=l.getD i z :: l.drop (i+1):=by
  rw [List.drop_eq_getElem_cons hi]
  simp [List.getD,List.getElem?_eq_getElem hi]
theorem qa {α:Type} {c:Prop} [Decidable c] {g f:Nat→Option α} {r:α} (h:c) (e:Ev g r):Ev (fun k=>if c then g k else f k) r:=Ev.congr (fun k=>if_pos h) e
theorem qb {α:Type} {c:Prop} [Decidable c] {g f:Nat→Option α} {r:α} (h:¬ c) (e:Ev f r):Ev (fun k=>if c then g k else f k) r:=Ev.congr (fun k=>if_neg h) e
theorem qdt {α β:Type} {a:α} {f:Nat→α→Option β} {r:β} (e:Ev (fun k=>f k a) r):Ev (fun k=>(some a).bind (f k)) r:=e
theorem qf {α:Type} {g:Nat→Option α} {r s:α} (e:Ev g r) (h:r=s):Ev g s:=h ▸ e
theorem qd {α:Type} {c:Prop} [Decidable c] {g f:Nat→Option α} {r s:α} (h1:c→Ev g r) (h2:¬ c→Ev f s):Ev (fun k=>if c then g k else f k) (if c then r else s):=by
  by_cases h:c
  · rw [if_pos h];exact qa h (h1 h)
  · rw [if_neg h];exact qb h (h2 h)
theorem qcP {α:Type} {g:Nat→Option α} {r:α} (h:Ev g r):∃ k,g k=some r:=h.elim fun K h=>⟨K,h K (Nat.le_refl _)⟩

def chk (hi:Int):Option Int→List Int→Int
  | _,[]=>0
  | none,x :: xs=>if x<0∨hi≤x then 6 else chk hi (some x) xs
  | some q,x :: xs=>if x<0∨hi≤x then 6 else if x≤q then 18 else chk hi (some x) xs
def Chn (hi:Int):Option Int→List Int→Prop
  | _,[]=>True
  | p,x :: xs=>0≤x∧x<hi∧(∀ q,p=some q→q<x)∧Chn hi (some x) xs
theorem qa9 (hi:Int):∀ (xs:List Int) (p:Option Int),chk hi p xs=0↔Chn hi p xs
  | [],p=>by cases p <;> simp [chk,Chn]
  | x :: xs,p=>by
    have ih:=qa9 hi xs (some x)
    cases p with
    | none=>
      simp only [chk,Chn]
      by_cases h:x<0∨hi≤x
      · rw [if_pos h];exact ⟨fun h=>by omega,fun h2=>by omega⟩
      · rw [if_neg h,ih];exact ⟨fun h2=>⟨by omega,by omega,(fun q hq=>by cases hq),h2⟩,fun h2=>h2.2.2.2⟩
    | some q=>
      simp only [chk,Chn]
      by_cases h:x<0∨hi≤x
      · rw [if_pos h];exact ⟨fun h=>by omega,fun h2=>by omega⟩
      · rw [if_neg h]
        by_cases h1:x≤q
        · rw [if_pos h1];exact ⟨fun h=>by omega,fun h2=>by have:=h2.2.2.1 q rfl;omega⟩
        · rw [if_neg h1,ih];exact ⟨fun h2=>⟨by omega,by omega,fun q' hq=>by injection hq;omega,h2⟩,fun h2=>h2.2.2.2⟩
def prv (xs:List Int) (i:Nat):Option Int:=if i=0 then none else some (rd xs ((i:Int) - 1))
theorem q4 (xs:List Int) (i:Nat):prv xs (i+1)=some (rd xs i):=by
  unfold prv;rw [if_neg (by omega)];congr 2;omega
theorem qi (l:List Int) (i:Nat) (hi:i<l.length):l.drop i=rd l i :: l.drop (i+1):=qB l i 0 hi
theorem qs (ps:List Int) (i:Nat) (hi:i<ps.length):rd ps i∈ps:=by
  unfold rd
  simp only [Int.toNat_natCast,List.getD,List.getElem?_eq_getElem hi,Option.getD_some]
  exact List.getElem_mem hi
theorem qI (n:Nat) (h:n≤60):shl .i64 1 (n:Int)=((2 ^ n:Nat):Int):=by
  have h2:(2:Nat) ^ n≤2 ^ 60:=Nat.pow_le_pow_right (by decide) h
  unfold shl
  have e:min ((n:Int)).toNat IntKind.i64.bits=n:=by
    have:IntKind.i64.bits=64:=rfl
    rw [this];omega
  rw [e,Int.one_mul,show ((2:Int) ^ n)=((2 ^ n:Nat):Int) by simp]
  have h3:(2:Nat) ^ 60=1152921504606846976:=by decide
  rw [h3] at h2
  generalize (2:Nat) ^ n=z at h2 ⊢
  rw [IntKind.wrap_i64]
  omega
def asc (vs:List Int):Int:=if (vs.length:Int)>10 then 3 else chk 24 none vs
def qu (vs rs:List Int):Int:=if asc vs=0 then chk ((2 ^ vs.length:Nat):Int) none rs else asc vs
theorem qbO (vs:List Int) (hl:(vs.length:Int)≤9223372036854775807):∀ (d i:Nat),i+d=vs.length→Ev (fun k=>table_ascending.l0 k vs vs vs.length i) (chk 24 (prv vs i) (vs.drop i))
  | 0,i,h=>by
    rw [List.drop_eq_nil_of_le (by omega)]
    refine Ev.step (f:=fun _=>some 0) (fun k=>by rw [table_ascending.l0,if_neg (by omega)]) ?_
    cases prv vs i <;> exact Ev.now _
  | d+1,i,h=>by
    have hi:i<vs.length:=by omega
    have hw:=qc i vs.length hi hl
    have ih:=qbO vs hl d (i+1) (by omega)
    rw [q4] at ih
    rw [qi vs i hi]
    have hj:rd vs i<0∨24≤rd vs i→∀ p,chk 24 p (rd vs i :: vs.drop (i+1))=6:=fun h p=>by cases p <;> simp only [chk] <;> rw [if_pos h]
    by_cases h0:rd vs i<0
    · rw [hj (.inl h0)]
      exact Ev.step (f:=fun _=>some 6) (fun k=>by rw [table_ascending.l0,if_pos (by omega),if_pos (by omega),if_pos (by omega),if_pos h0]) (Ev.now _)
    · by_cases h1:rd vs i≥24
      · rw [hj (.inr h1)]
        exact Ev.step (f:=fun _=>some 6) (fun k=>by rw [table_ascending.l0,if_pos (by omega),if_pos (by omega),if_pos (by omega),if_neg h0,if_pos h1]) (Ev.now _)
      · by_cases e:i=0
        · have ep:prv vs i=none:=by unfold prv;rw [if_pos e]
          rw [ep]
          simp only [chk]
          rw [if_neg (by omega)]
          refine Ev.step (fun k=>by rw [table_ascending.l0,if_pos (by omega),if_pos (by omega),if_pos (by omega),if_neg h0,if_neg h1,if_neg (by omega),hw]) ih
        · have ep:prv vs i=some (rd vs ((i:Int) - 1)):=by unfold prv;rw [if_neg e]
          rw [ep]
          simp only [chk]
          rw [if_neg (by omega)]
          by_cases h2:rd vs i≤rd vs ((i:Int) - 1)
          · rw [if_pos h2]
            exact Ev.step (f:=fun _=>some 18) (fun k=>by rw [table_ascending.l0,if_pos (by omega),if_pos (by omega),if_pos (by omega),if_neg h0,if_neg h1,if_pos (by omega),qh ((i:Int) - 1) (by omega),if_pos (by omega),if_pos (by omega),if_pos (by omega)]) (Ev.now _)
          · rw [if_neg h2]
            refine Ev.step (fun k=>by rw [table_ascending.l0,if_pos (by omega),if_pos (by omega),if_pos (by omega),if_neg h0,if_neg h1,if_pos (by omega),qh ((i:Int) - 1) (by omega),if_pos (by omega),if_pos (by omega),if_neg (by omega),hw]) ih
theorem qdS (vs:List Int) (hl:(vs.length:Int)≤9223372036854775807):Ev (fun k=>table_ascending.f k vs) (asc vs):=by
  unfold asc table_ascending.f
  refine qd (fun _=>Ev.now _) (fun _=>?_)
  simpa [prv] using qbO vs hl vs.length 0 (by omega)
theorem qaP (vs rs:List Int) (hv:vs.length≤10) (hl:(rs.length:Int)≤9223372036854775807):∀ (d i:Nat),i+d=rs.length→Ev (fun k=>table_Valid.l0 k rs rs.length i vs rs) (chk ((2 ^ vs.length:Nat):Int) (prv rs i) (rs.drop i))
  | 0,i,h=>by
    rw [List.drop_eq_nil_of_le (by omega)]
    refine Ev.step (f:=fun _=>some 0) (fun k=>by rw [table_Valid.l0,if_neg (by omega)]) ?_
    cases prv rs i <;> exact Ev.now _
  | d+1,i,h=>by
    have hi:i<rs.length:=by omega
    have hw:=qc i rs.length hi hl
    have ih:=qaP vs rs hv hl d (i+1) (by omega)
    have hs:=qI vs.length (by omega)
    rw [q4] at ih
    rw [qi rs i hi]
    have hj:rd rs i<0∨((2 ^ vs.length:Nat):Int)≤rd rs i→∀ p,chk ((2 ^ vs.length:Nat):Int) p (rd rs i :: rs.drop (i+1))=6:=fun h p=>by cases p <;> simp only [chk] <;> rw [if_pos h]
    by_cases h0:rd rs i<0
    · rw [hj (.inl h0)]
      exact Ev.step (f:=fun _=>some 6) (fun k=>by rw [table_Valid.l0,if_pos (by omega),if_pos (by omega),if_pos (by omega),if_pos h0]) (Ev.now _)
    · by_cases h1:rd rs i≥((2 ^ vs.length:Nat):Int)
      · rw [hj (.inr h1)]
        exact Ev.step (f:=fun _=>some 6) (fun k=>by rw [table_Valid.l0,if_pos (by omega),if_pos (by omega),if_pos (by omega),if_neg h0,hs,if_pos h1]) (Ev.now _)
      · by_cases e:i=0
        · have ep:prv rs i=none:=by unfold prv;rw [if_pos e]
          rw [ep]
          simp only [chk]
          rw [if_neg (by omega)]
          refine Ev.step (fun k=>by rw [table_Valid.l0,if_pos (by omega),if_pos (by omega),if_pos (by omega),if_neg h0,hs,if_neg h1,if_neg (by omega),hw]) ih
        · have ep:prv rs i=some (rd rs ((i:Int) - 1)):=by unfold prv;rw [if_neg e]
          rw [ep]
          simp only [chk]
          rw [if_neg (by omega)]
          by_cases h2:rd rs i≤rd rs ((i:Int) - 1)
          · rw [if_pos h2]
            exact Ev.step (f:=fun _=>some 18) (fun k=>by rw [table_Valid.l0,if_pos (by omega),if_pos (by omega),if_pos (by omega),if_neg h0,hs,if_neg h1,if_pos (by omega),qh ((i:Int) - 1) (by omega),if_pos (by omega),if_pos (by omega),if_pos (by omega)]) (Ev.now _)
          · rw [if_neg h2]
            refine Ev.step (fun k=>by rw [table_Valid.l0,if_pos (by omega),if_pos (by omega),if_pos (by omega),if_neg h0,hs,if_neg h1,if_pos (by omega),qh ((i:Int) - 1) (by omega),if_pos (by omega),if_pos (by omega),if_neg (by omega),hw]) ih
theorem qcl {vs:List Int} (h:asc vs=0):vs.length≤10:=by
  unfold asc at h
  by_cases h1:(vs.length:Int)>10
  · rw [if_pos h1] at h;omega
  · omega
theorem q5 (vs rs:List Int) (hl:(vs.length:Int)≤9223372036854775807) (hr:(rs.length:Int)≤9223372036854775807):Ev (fun k=>table_Valid.f k vs rs) (qu vs rs):=by
  unfold qu
  refine Ev.bind (qdS vs hl) ?_
  refine qd (fun h=>?_) (fun _=>Ev.now _)
  simpa [prv] using qaP vs rs (qcl h) hr rs.length 0 (by omega)
structure VT (vs rs:List Int):Prop where
  len:vs.length≤10
  vars:Chn 24 none vs
  rows:Chn ((2 ^ vs.length:Nat):Int) none rs
theorem qcm (vs:List Int):asc vs=0↔vs.length≤10∧Chn 24 none vs:=by
  unfold asc
  by_cases h1:(vs.length:Int)>10
  · rw [if_pos h1];exact ⟨fun h=>by omega,fun h=>by omega⟩
  · rw [if_neg h1,qa9];exact ⟨fun h=>⟨by omega,h⟩,fun h=>h.2⟩
theorem qE (vs rs:List Int):qu vs rs=0↔VT vs rs:=by
  unfold qu
  by_cases h:asc vs=0
  · rw [if_pos h,qa9]
    have:=(qcm vs).1 h
    exact ⟨fun h=>⟨this.1,this.2,h⟩,fun h=>h.rows⟩
  · rw [if_neg h]
    exact ⟨fun h2=>absurd h2 h,fun h2=>absurd ((qcm vs).2 ⟨h2.len,h2.vars⟩) h⟩
theorem Chn.mem {hi:Int}:∀ {ns:List Int} {p:Option Int},Chn hi p ns→∀ n,n∈ns→0≤n∧n<hi∧∀ q,p=some q→q<n
  | [],_,_,n,h=>by simp at h
  | m :: ns,p,⟨h0,h1,h2,h3⟩,n,h=>by
    rcases List.mem_cons.1 h with rfl|h
    · exact ⟨h0,h1,h2⟩
    · have:=Chn.mem h3 n h
      exact ⟨this.1,this.2.1,fun q hq=>by have:=this.2.2 m rfl;have:=h2 q hq;omega⟩
theorem Chn.same {hi hi':Int}:∀ {xs ys:List Int} {p q:Option Int},Chn hi p xs→Chn hi' q ys→(∀ n,n∈xs↔n∈ys)→xs=ys
  | [],[],_,_,_,_,_=>rfl
  | [],y :: ys,_,_,_,_,h=>by have:=(h y).2 List.mem_cons_self;simp at this
  | x :: xs,[],_,_,_,_,h=>by have:=(h x).1 List.mem_cons_self;simp at this
  | x :: xs,y :: ys,p,q,⟨a0,a1,a2,a3⟩,⟨b0,b1,b2,b3⟩,h=>by
    have e:x=y:=by
      rcases List.mem_cons.1 ((h x).1 List.mem_cons_self) with h1|h1
      · exact h1
      · rcases List.mem_cons.1 ((h y).2 List.mem_cons_self) with h2|h2
        · exact h2.symm
        · have:=(b3.mem x h1).2.2 y rfl
          have:=(a3.mem y h2).2.2 x rfl
          omega
    subst e
    refine congrArg (x :: ·) (Chn.same a3 b3 (fun n=>⟨fun hn=>?_,fun hn=>?_⟩))
    · rcases List.mem_cons.1 ((h n).1 (List.mem_cons_of_mem _ hn)) with h1|h1
      · have:=(a3.mem n hn).2.2 x rfl;omega
      · exact h1
    · rcases List.mem_cons.1 ((h n).2 (List.mem_cons_of_mem _ hn)) with h1|h1
      · have:=(b3.mem n hn).2.2 x rfl;omega
      · exact h1
theorem Chn.filter {hi:Int} (f:Int→Bool):∀ {xs:List Int} {p:Option Int},Chn hi p xs→Chn hi p (xs.filter f)
  | [],_,h=>h
  | x :: xs,p,⟨h0,h1,h2,h3⟩=>by
    have ih:=h3.filter f
    rw [List.filter_cons]
    split
    · exact ⟨h0,h1,h2,ih⟩
    · revert ih
      generalize xs.filter f=zs
      intro ih
      cases zs with
      | nil=>trivial
      | cons z zs=>exact ⟨ih.1,ih.2.1,fun q hq=>by have:=h2 q hq;have:=ih.2.2.1 x rfl;omega,ih.2.2.2⟩
theorem qaw (b:Bool) (out i:Nat) (h:out<2 ^ i) (j:Nat):(out+b.toNat * 2 ^ i).testBit j=(out.testBit j||(b&&decide (j=i))):=by
  rw [show out+b.toNat * 2 ^ i=2 ^ i * b.toNat+out by rw [Nat.mul_comm,Nat.add_comm],Nat.testBit_two_pow_mul_add _ h]
  by_cases hj:j<i
  · rw [if_pos hj]
    have:decide (j=i)=false:=decide_eq_false (by omega)
    rw [this,Bool.and_false,Bool.or_false]
  · rw [if_neg hj]
    have h1:out.testBit j=false:=Nat.testBit_lt_two_pow (Nat.lt_of_lt_of_le h (Nat.pow_le_pow_right (by decide) (by omega)))
    rw [h1,Bool.false_or]
    by_cases e:j=i
    · subst e;rw [Nat.sub_self];cases b <;> simp
    · have:decide (j=i)=false:=decide_eq_false e
      rw [this,Bool.and_false]
      refine Nat.testBit_lt_two_pow ?_
      have h2:b.toNat<2:=by cases b <;> simp
      have h3:2 ^ 1≤2 ^ (j - i):=Nat.pow_le_pow_right (by decide) (by omega)
      omega
theorem qC (b:Bool) (out i:Nat) (h:out<2 ^ i):out+b.toNat * 2 ^ i<2 ^ (i+1):=by
  rw [Nat.pow_succ]
  cases b
  · simp;omega
  · simp;omega
theorem qbP (x n i:Nat) (out:Nat) (hx:x<2 ^ 60) (hn:n≤60) (hi:i≤60) (ho:out<2 ^ i) :
    Go.bits .or .i64 (out:Int) (shl .i64 (Go.bits .and .i64 (shr .i64 (x:Int) (n:Int)) 1) (i:Int))=((out+(x.testBit n).toNat * 2 ^ i:Nat):Int):=by
  have hw:∀ z:Int,0≤z→z<2 ^ 62→IntKind.i64.wrap z=z:=fun z h0 h1=>by
    rw [IntKind.wrap_i64]
    have:(2:Int) ^ 62=4611686018427387904:=by decide
    omega
  have hb:IntKind.i64.bits=64:=rfl
  have h1:shr .i64 (x:Int) (n:Int)=((x / 2 ^ n:Nat):Int):=by
    unfold shr
    rw [hb,show min ((n:Int)).toNat 64=n by omega]
    simp
  have hxd:x / 2 ^ n<2 ^ 62:=Nat.lt_of_le_of_lt (Nat.div_le_self _ _) (Nat.lt_of_lt_of_le hx (by decide))
  have h2:Go.bits .and .i64 ((x / 2 ^ n:Nat):Int) 1=(((x.testBit n).toNat:Nat):Int):=by
    have:=(bits_nat .i64 62 (by decide) hw (x / 2 ^ n) 1 hxd (by decide)).1
    rw [Nat.and_one_is_mod,← Nat.toNat_testBit] at this
    exact this
  have hip:(2:Nat) ^ i≤2 ^ 60:=Nat.pow_le_pow_right (by decide) hi
  have h60:(2:Nat) ^ 60=1152921504606846976:=by decide
  have hbl:(x.testBit n).toNat * 2 ^ i≤2 ^ i:=by cases x.testBit n <;> simp
  have h3:shl .i64 (((x.testBit n).toNat:Nat):Int) (i:Int)=(((x.testBit n).toNat * 2 ^ i:Nat):Int):=by
    unfold shl
    rw [hb,show min ((i:Int)).toNat 64=i by omega]
    have e:(((x.testBit n).toNat:Nat):Int) * 2 ^ i=(((x.testBit n).toNat * 2 ^ i:Nat):Int):=by simp
    rw [e]
    exact hw _ (by omega) (by have:(2:Int) ^ 62=4611686018427387904:=by decide
                              omega)
  rw [h1,h2,h3]
  have h62:(2:Nat) ^ 62=4611686018427387904:=by decide
  rw [(bits_nat .i64 62 (by decide) hw out _ (by omega) (by omega)).2]
  congr 1
  rw [Nat.or_comm,Nat.mul_comm,← Nat.two_pow_add_eq_or_of_lt ho,Nat.add_comm]
def qF (a:Nat):List Int→Nat→Nat→Nat
  | [],_,out=>out
  | v :: vs,i,out=>qF a vs (i+1) (out+(a.testBit v.toNat).toNat * 2 ^ i)
def qQ (r:Nat):List Int→Nat→Nat→Nat
  | [],_,out=>out
  | v :: vs,i,out=>qQ r vs (i+1) (out+(r.testBit i).toNat * 2 ^ v.toNat)
theorem qcn (a:Nat):∀ (vs:List Int) (i out:Nat),out<2 ^ i→qF a vs i out<2 ^ (i+vs.length)
  | [],_,_,h=>h
  | v :: vs,i,out,h=>by
    have:=qcn a vs (i+1) _ (qC (a.testBit v.toNat) out i h)
    rw [qF,List.length_cons,show i+(vs.length+1)=i+1+vs.length by omega]
    exact this
theorem qbQ (a:Nat):∀ (vs:List Int) (i out:Nat),out<2 ^ i→∀ j,((qF a vs i out).testBit j=true↔out.testBit j=true∨∃ m v,vs[m]?=some v∧j=i+m∧a.testBit v.toNat=true)
  | [],_,_,_,j=>by simp [qF]
  | v :: vs,i,out,h,j=>by
    rw [qF,qbQ a vs (i+1) _ (qC (a.testBit v.toNat) out i h) j,qaw _ _ _ h]
    constructor
    · rintro (h1|⟨m,u,h1,h2,h3⟩)
      · rcases Bool.or_eq_true_iff.1 h1 with h1|h1
        · exact .inl h1
        · rw [Bool.and_eq_true,decide_eq_true_eq] at h1
          exact .inr ⟨0,v,rfl,by omega,h1.1⟩
      · exact .inr ⟨m+1,u,by simpa using h1,by omega,h3⟩
    · rintro (h1|⟨m,u,h1,h2,h3⟩)
      · exact .inl (by rw [h1];rfl)
      · cases m with
        | zero=>
          obtain rfl:v=u:=by simpa using h1
          exact .inl (by rw [h3,decide_eq_true (show j=i by omega)];simp)
        | succ m=>exact .inr ⟨m,u,by simpa using h1,by omega,h3⟩
def q6 (out:Nat):List Int→Prop
  | []=>True
  | v :: _=>out<2 ^ v.toNat
theorem qL {hi:Int} {v:Int} {vs:List Int} (h:Chn hi (some v) vs) (h0:0≤v) {out:Nat} (ho:out<2 ^ (v.toNat+1)):q6 out vs:=by
  cases vs with
  | nil=>trivial
  | cons u us=>
    have:=h.2.2.1 v rfl
    exact Nat.lt_of_lt_of_le ho (Nat.pow_le_pow_right (by decide) (by omega))
theorem qbR (r:Nat) {hi:Int}:∀ (vs:List Int) (p:Option Int) (i out:Nat),Chn hi p vs→q6 out vs→∀ j,((qQ r vs i out).testBit j=true↔out.testBit j=true∨∃ m v,vs[m]?=some v∧j=v.toNat∧r.testBit (i+m)=true)
  | [],_,_,_,_,_,j=>by simp [qQ]
  | v :: vs,p,i,out,⟨h0,h1,h2,h3⟩,hu,j=>by
    have hl:=qC (r.testBit i) out v.toNat hu
    rw [qQ,qbR r vs (some v) (i+1) _ h3 (qL h3 h0 hl) j,qaw _ _ _ hu]
    constructor
    · rintro (h1|⟨m,u,h1,h2,h3⟩)
      · rcases Bool.or_eq_true_iff.1 h1 with h1|h1
        · exact .inl h1
        · rw [Bool.and_eq_true,decide_eq_true_eq] at h1
          exact .inr ⟨0,v,rfl,h1.2,h1.1⟩
      · exact .inr ⟨m+1,u,by simpa using h1,h2,by rw [show i+(m+1)=i+1+m by omega];exact h3⟩
    · rintro (h1|⟨m,u,h1,h2,h3⟩)
      · exact .inl (by rw [h1];rfl)
      · cases m with
        | zero=>
          obtain rfl:v=u:=by simpa using h1
          rw [Nat.add_zero] at h3
          exact .inl (by rw [h3,decide_eq_true h2];simp)
        | succ m=>exact .inr ⟨m,u,by simpa using h1,h2,by rw [show i+1+m=i+(m+1) by omega];exact h3⟩
theorem qco (r:Nat) {hi:Int} (hhi:0≤hi):∀ (vs:List Int) (p:Option Int) (i out:Nat),Chn hi p vs→q6 out vs→out<2 ^ hi.toNat→qQ r vs i out<2 ^ hi.toNat
  | [],_,_,_,_,_,ho=>ho
  | v :: vs,p,i,out,⟨h0,h1,h2,h3⟩,hu,_=>by
    have hl:=qC (r.testBit i) out v.toNat hu
    rw [qQ]
    refine qco r hhi vs (some v) (i+1) _ h3 (qL h3 h0 hl) (Nat.lt_of_lt_of_le hl (Nat.pow_le_pow_right (by decide) (by omega)))
def row (vs:List Int) (a:Nat):Nat:=qF a vs 0 0
def asg (vs:List Int) (r:Nat):Nat:=qQ r vs 0 0
theorem qH (vs:List Int) (a:Nat):row vs a<2 ^ vs.length:=by
  have:=qcn a vs 0 0 (by decide)
  rw [Nat.zero_add] at this
  exact this
theorem qo (vs:List Int) (a j:Nat):(row vs a).testBit j=true↔∃ v,vs[j]?=some v∧a.testBit v.toNat=true:=by
  unfold row
  rw [qbQ a vs 0 0 (by decide)]
  constructor
  · rintro (h|⟨m,v,h1,h2,h3⟩)
    · simp at h
    · obtain rfl:j=m:=by omega
      exact ⟨v,h1,h3⟩
  · rintro ⟨v,h1,h2⟩
    exact .inr ⟨j,v,h1,by omega,h2⟩
theorem qM (vs:List Int):q6 0 vs:=by cases vs <;> simp [q6,Nat.two_pow_pos]
theorem qr {hi:Int} {vs:List Int} (h:Chn hi none vs) (r j:Nat):(asg vs r).testBit j=true↔∃ m v,vs[m]?=some v∧j=v.toNat∧r.testBit m=true:=by
  unfold asg
  rw [qbR r vs none 0 0 h (qM vs)]
  simp
theorem qcQ {vs:List Int} (h:Chn 24 none vs) (r:Nat):asg vs r<2 ^ 24:=qco r (by decide) vs none 0 0 h (qM vs) (Nat.two_pow_pos _)
theorem Chn.inj {hi:Int}:∀ {vs:List Int} {p:Option Int},Chn hi p vs→∀ (i j:Nat) (u v:Int),vs[i]?=some u→vs[j]?=some v→u.toNat=v.toNat→i=j
  | [],_,_,i,j,u,v,h,_,_=>by simp at h
  | x :: xs,p,⟨h0,h1,h2,h3⟩,i,j,u,v,hi,hj,e=>by
    cases i with
    | zero=>
      obtain rfl:x=u:=by simpa using hi
      cases j with
      | zero=>rfl
      | succ j=>
        have hj':xs[j]?=some v:=by simpa using hj
        have:=h3.mem v (List.mem_of_getElem? hj')
        have:=this.2.2 x rfl
        omega
    | succ i=>
      have hi':xs[i]?=some u:=by simpa using hi
      cases j with
      | zero=>
        obtain rfl:x=v:=by simpa using hj
        have:=h3.mem u (List.mem_of_getElem? hi')
        have:=this.2.2 x rfl
        omega
      | succ j=>rw [Chn.inj h3 i j u v hi' (by simpa using hj) e]
theorem qba {hi:Int} {vs:List Int} (h:Chn hi none vs) {r:Nat} (hr:r<2 ^ vs.length):row vs (asg vs r)=r:=by
  apply Nat.eq_of_testBit_eq
  intro j
  rw [Bool.eq_iff_iff,qo]
  constructor
  · rintro ⟨v,hv,hb⟩
    obtain ⟨m,u,hm,e,hr⟩:=(qr h r _).1 hb
    rw [h.inj j m v u hv hm e];exact hr
  · intro hb
    have hj:j<vs.length:=by
      rcases Nat.lt_or_ge j vs.length with h1|h1
      · exact h1
      · rw [Nat.testBit_lt_two_pow (Nat.lt_of_lt_of_le hr (Nat.pow_le_pow_right (by decide) h1))] at hb;exact absurd hb (by simp)
    exact ⟨vs[j],List.getElem?_eq_getElem hj,(qr h r _).2 ⟨j,vs[j],List.getElem?_eq_getElem hj,rfl,hb⟩⟩

theorem qe {v:Int} (h:0≤v):v=((v.toNat:Nat):Int):=by omega
theorem Chn.below {hi:Int}:∀ {xs:List Int} {p:Option Int},Chn hi p xs→∀ (i j:Nat) (x y:Int),i<j→xs[i]?=some x→xs[j]?=some y→x<y
  | [],_,_,i,j,x,y,_,h,_=>by simp at h
  | z :: zs,p,⟨_,_,_,h3⟩,i,j,x,y,hij,hx,hy=>by
    cases j with
    | zero=>omega
    | succ j=>
      have hy':zs[j]?=some y:=by simpa using hy
      cases i with
      | zero=>
        obtain rfl:z=x:=by simpa using hx
        exact (h3.mem y (List.mem_of_getElem? hy')).2.2 z rfl
      | succ i=>exact Chn.below h3 i j x y (by omega) (by simpa using hx) hy'
theorem qcR (xs:List Int) (i:Nat) (h:i<xs.length):xs[i]?=some (rd xs i):=by
  simp [rd,List.getD,List.getElem?_eq_getElem h]
theorem qc8 (n:Int) (h0:0≤n) (h1:n≤9223372036854775807):IntKind.u64.wrap n=n:=by
  simp [IntKind.wrap,IntKind.bits,IntKind.signed];omega
def hs (vs rs:List Int) (a:Nat):Bool:=decide (((row vs a:Nat):Int)∈rs)
theorem VT.vars' {vs rs:List Int} (h:VT vs rs):∀ v,v∈vs→0≤v∧v<24:=fun v hv=>by have:=h.vars.mem v hv;omega
theorem Chn.len1 {hi:Int}:∀ {xs:List Int} {q:Int},Chn hi (some q) xs→0≤q→q<hi→(xs.length:Int)≤hi - 1 - q
  | [],_,_,_,_=>by simp;omega
  | x :: xs,q,⟨h0,h1,h2,h3⟩,_,_=>by
    have:=Chn.len1 h3 h0 h1
    have:=h2 q rfl
    simp only [List.length_cons]
    omega
theorem Chn.len {hi:Int} {xs:List Int} (h:Chn hi none xs) (h0:0≤hi):(xs.length:Int)≤hi:=by
  cases xs with
  | nil=>simpa using h0
  | cons x xs=>
    have:=Chn.len1 h.2.2.2 h.1 h.2.1
    have:=h.1
    simp only [List.length_cons]
    omega
theorem qaQ {n:Nat} (h:n≤10):2 ^ n≤1024:=by
  have:(2:Nat) ^ n≤2 ^ 10:=Nat.pow_le_pow_right (by decide) h
  omega
theorem VT.rows_len {vs rs:List Int} (h:VT vs rs):(rs.length:Int)≤1024:=by
  have h1:=h.rows.len (Int.natCast_nonneg _)
  have h2:=qaQ h.len
  generalize (2:Nat) ^ vs.length=z at h1 h2
  omega
def flt (t:Nat→Bool):Nat→Nat→List Int
  | 0,_=>[]
  | d+1,r=>if t r=true then (r:Int) :: flt t d (r+1) else flt t d (r+1)
theorem qV (t:Nat→Bool):∀ (d r:Nat) (x:Int),x∈flt t d r↔∃ m:Nat,r≤m∧m<r+d∧t m=true∧x=m
  | 0,r,x=>by simp [flt];omega
  | d+1,r,x=>by
    have ih:=qV t d (r+1) x
    rw [flt]
    by_cases h:t r=true
    · rw [if_pos h,List.mem_cons,ih]
      constructor
      · rintro (rfl|⟨m,h1,h2,h3⟩)
        · exact ⟨r,by omega,by omega,h,rfl⟩
        · exact ⟨m,by omega,by omega,h3⟩
      · rintro ⟨m,h1,h2,h3,h4⟩
        by_cases e:m=r
        · exact .inl (by rw [h4,e])
        · exact .inr ⟨m,by omega,by omega,h3,h4⟩
    · rw [if_neg h,ih]
      constructor
      · rintro ⟨m,h1,h2,h3⟩;exact ⟨m,by omega,by omega,h3⟩
      · rintro ⟨m,h1,h2,h3,h4⟩
        by_cases e:m=r
        · subst e;exact absurd h3 h
        · exact ⟨m,by omega,by omega,h3,h4⟩
theorem qO (t:Nat→Bool):∀ (d r:Nat) (p:Option Int),(∀ q,p=some q→q<r)→Chn ((r+d:Nat):Int) p (flt t d r)
  | 0,_,_,_=>trivial
  | d+1,r,p,hp=>by
    have e:((r+(d+1):Nat):Int)=((r+1+d:Nat):Int):=by omega
    rw [flt,e]
    by_cases h:t r=true
    · rw [if_pos h]
      exact ⟨by omega,by omega,hp,qO t d (r+1) _ (fun q hq=>by injection hq;omega)⟩
    · rw [if_neg h]
      exact qO t d (r+1) p (fun q hq=>by have:=hp q hq;omega)
theorem qcp (t:Nat→Bool):∀ (d r:Nat),(flt t d r).length≤d
  | 0,_=>by simp [flt]
  | d+1,r=>by have:=qcp t d (r+1);rw [flt];split <;> simp <;> omega
theorem qbl (t u:Nat→Bool):∀ (d r:Nat),(∀ m,r≤m→m<r+d→t m=u m)→flt t d r=flt u d r
  | 0,_,_=>rfl
  | d+1,r,h=>by rw [flt,flt,h r (by omega) (by omega),qbl t u d (r+1) (fun m h1 h2=>h m (by omega) (by omega))]
def ovr (vs:List Int) (t:Nat→Bool):List Int:=flt (fun r=>t (asg vs r)) (2 ^ vs.length) 0
theorem qcq (vs:List Int) (t:Nat→Bool):Chn ((2 ^ vs.length:Nat):Int) none (ovr vs t):=by
  have:=qO (fun r=>t (asg vs r)) (2 ^ vs.length) 0 none (fun q hq=>by cases hq)
  rw [Nat.zero_add] at this
  exact this
theorem qdu (vs:List Int) (t:Nat→Bool) (x:Int):x∈ovr vs t↔∃ m:Nat,m<2 ^ vs.length∧t (asg vs m)=true∧x=m:=by
  unfold ovr
  rw [qV]
  constructor
  · rintro ⟨m,_,h1,h2,h3⟩;exact ⟨m,by omega,h2,h3⟩
  · rintro ⟨m,h1,h2,h3⟩;exact ⟨m,by omega,by omega,h2,h3⟩
theorem qbS {hi:Int} {x:Int} (h0:0≤x) (h1:x<hi):∀ {l:List Int} {p:Option Int},Chn hi p l→(∀ y,y∈l→y<x)→(∀ q,p=some q→q<x)→Chn hi p (l++[x])
  | [],_,_,_,hp=>⟨h0,h1,hp,trivial⟩
  | y :: l,p,⟨a0,a1,a2,a3⟩,hl,hp=>⟨a0,a1,a2,qbS h0 h1 a3 (fun z hz=>hl z (List.mem_cons_of_mem _ hz)) (fun q hq=>by injection hq with hq;rw [← hq];exact hl y List.mem_cons_self)⟩
theorem qad {hi:Int} (d:Array Int) (hd:∀ i j,i≤j→j<d.size→d[i]!≤d[j]!) (hr:∀ i,i<d.size→0≤d[i]!∧d[i]!<hi):∀ m,m≤d.size→Chn hi none (Lib.compactUpTo d m)∧∀ n,n∈Lib.compactUpTo d m↔∃ j,j<m∧d[j]! = n
  | 0,_=>⟨by simp [Lib.compactUpTo,Chn],fun n=>by simp [Lib.compactUpTo]⟩
  | m+1,hm=>by
    obtain ⟨h1,h2⟩:=qad d hd hr m (by omega)
    have hrm:=hr m (by omega)
    rw [Lib.compactUpTo_succ]
    by_cases hk:Lib.keeps d m=true
    · rw [if_pos hk]
      have hk2:m=0∨d[m]!≠d[m - 1]!:=by simpa [Lib.keeps] using hk
      refine ⟨qbS hrm.1 hrm.2 h1 (fun y hy=>?_) (fun q hq=>by cases hq),fun n=>?_⟩
      · obtain ⟨j,hj,rfl⟩:=(h2 y).1 hy
        have a1:=hd j (m - 1) (by omega) (by omega)
        have a2:=hd (m - 1) m (by omega) (by omega)
        rcases hk2 with h|h
        · omega
        · omega
      · rw [List.mem_append,h2]
        constructor
        · rintro (⟨j,hj,e⟩|h)
          · exact ⟨j,by omega,e⟩
          · exact ⟨m,by omega,by simpa using Eq.symm (List.mem_singleton.1 h)⟩
        · rintro ⟨j,hj,e⟩
          by_cases ej:j=m
          · subst ej;exact .inr (by simp [e])
          · exact .inl ⟨j,by omega,e⟩
    · rw [if_neg hk,List.append_nil]
      have hk2:¬ (m=0∨d[m]!≠d[m - 1]!):=by simpa [Lib.keeps] using hk
      refine ⟨h1,fun n=>?_⟩
      rw [h2]
      constructor
      · rintro ⟨j,hj,e⟩;exact ⟨j,by omega,e⟩
      · rintro ⟨j,hj,e⟩
        by_cases ej:j=m
        · subst ej
          exact ⟨j - 1,by omega,by rw [← e];exact (Classical.byContradiction fun hne=>hk2 (.inr (fun h=>hne h.symm)))⟩
        · exact ⟨j,by omega,e⟩
theorem qbb {hi:Int} (l:List Int) (hr:∀ x,x∈l→0≤x∧x<hi):Chn hi none (Lib.compact (l.mergeSort fun x y=>decide (x≤y)))∧∀ n,n∈Lib.compact (l.mergeSort fun x y=>decide (x≤y))↔n∈l:=by
  have hp:=List.pairwise_mergeSort (le:=fun x y:Int=>decide (x≤y)) (fun a b c h1 h2=>by simp at *;omega) (fun a b=>by simp;omega) l
  have hperm:=List.mergeSort_perm l (fun x y:Int=>decide (x≤y))
  generalize hs:l.mergeSort (fun x y=>decide (x≤y))=s at hp hperm
  have hget:∀ i,i<s.length→s.toArray[i]! = s[i]!:=fun i hi=>by simp
  have key:=qad (hi:=hi) s.toArray (fun i j hij hj=>by
    have hj':j<s.length:=by simpa using hj
    rw [hget i (by omega),hget j hj',List.getElem!_eq_getElem?_getD,List.getElem!_eq_getElem?_getD,List.getElem?_eq_getElem hj',List.getElem?_eq_getElem (show i<s.length by omega)]
    by_cases e:i=j
    · subst e;exact Int.le_refl _
    · have:=List.pairwise_iff_getElem.1 hp i j (by omega) hj' (by omega)
      simpa using this) (fun i hi2=>by
    have hi':i<s.length:=by simpa using hi2
    rw [hget i hi',List.getElem!_eq_getElem?_getD,List.getElem?_eq_getElem hi']
    exact hr _ (hperm.mem_iff.1 (List.getElem_mem hi'))) s.length (by simp)
  refine ⟨key.1,fun n=>?_⟩
  have h2:=key.2 n
  unfold Lib.compact
  rw [h2,← hperm.mem_iff]
  constructor
  · rintro ⟨j,hj,e⟩
    rw [hget j hj,List.getElem!_eq_getElem?_getD,List.getElem?_eq_getElem hj] at e
    exact e ▸ List.getElem_mem hj
  · intro hn
    obtain ⟨j,hj,e⟩:=List.getElem_of_mem hn
    exact ⟨j,hj,by rw [hget j hj,List.getElem!_eq_getElem?_getD,List.getElem?_eq_getElem hj];exact e⟩
theorem qae (vs:List Int) {x y:Nat} (h:∀ w,w∈vs→x.testBit w.toNat=y.testBit w.toNat):row vs x=row vs y:=by
  apply Nat.eq_of_testBit_eq
  intro j
  rw [Bool.eq_iff_iff,qo,qo]
  constructor
  · rintro ⟨v,hv,hb⟩;exact ⟨v,hv,by rw [← h v (List.mem_of_getElem? hv)];exact hb⟩
  · rintro ⟨v,hv,hb⟩;exact ⟨v,hv,by rw [h v (List.mem_of_getElem? hv)];exact hb⟩
theorem qaR {hi:Int} {vs:List Int} (h:Chn hi none vs) (x:Nat) {w:Int} (hw:w∈vs):(asg vs (row vs x)).testBit w.toNat=x.testBit w.toNat:=by
  rw [Bool.eq_iff_iff,qr h]
  obtain ⟨i,hi2⟩:=List.getElem?_of_mem hw
  constructor
  · rintro ⟨m,v,hv,e,hb⟩
    obtain ⟨u,hu,hb⟩:=(qo vs x m).1 hb
    rw [hv] at hu
    injection hu with hu
    rw [e,hu];exact hb
  · intro hb
    exact ⟨i,w,hi2,rfl,(qo vs x i).2 ⟨w,hi2,hb⟩⟩
theorem qcr {hi:Int} {vs:List Int} (h:Chn hi none vs) (r:Nat) {v:Int} (hv:0≤v) (hn:v∉vs):(asg vs r).testBit v.toNat=false:=by
  rw [Bool.eq_false_iff]
  intro hb
  obtain ⟨m,w,hw,e,_⟩:=(qr h r _).1 hb
  have hm:=List.mem_of_getElem? hw
  have:=h.mem w hm
  exact hn (by rw [show v=w by omega];exact hm)
theorem qc9 (vs rs:List Int) {x y:Nat} (h:∀ w,w∈vs→x.testBit w.toNat=y.testBit w.toNat):hs vs rs x=hs vs rs y:=by
  unfold hs;rw [qae vs h]
def qR (a:Nat) (v:Int) (b:Bool):Nat:=a||| (b.toNat * 2 ^ v.toNat)
theorem qaF (a:Nat) (v:Int) (b:Bool) (j:Nat):(qR a v b).testBit j=(a.testBit j||(b&&decide (j=v.toNat))):=by
  unfold qR
  rw [Nat.testBit_or]
  have:=qaw b 0 v.toNat (Nat.two_pow_pos _) j
  rw [Nat.zero_add,Nat.zero_testBit,Bool.false_or] at this
  rw [this]
def wo (vs:List Int) (v:Int):List Int:=vs.filter fun x=>!(x == v)
theorem qaS (vs:List Int) (v w:Int):w∈wo vs v↔w∈vs∧w≠v:=by unfold wo;rw [List.mem_filter];simp
theorem qbT {hi:Int} {vs:List Int} (h:Chn hi none vs) (v:Int):Chn hi none (wo vs v):=h.filter _
theorem qcD (vs:List Int) (v:Int):(wo vs v).length≤vs.length:=List.length_filter_le _ _
def prj (vs rs us:List Int):List Int:=flt (fun m=>rs.any fun r=>row us (asg vs r.toNat) == m) (2 ^ us.length) 0
theorem qdv (vs rs us:List Int):Chn ((2 ^ us.length:Nat):Int) none (prj vs rs us):=by
  have:=qO (fun m=>rs.any fun r=>row us (asg vs r.toNat) == m) (2 ^ us.length) 0 none (fun q hq=>by cases hq)
  rw [Nat.zero_add] at this
  exact this
theorem qdw (vs rs us:List Int) (x:Int):x∈prj vs rs us↔∃ r,r∈rs∧x=((row us (asg vs r.toNat):Nat):Int):=by
  unfold prj
  rw [qV]
  constructor
  · rintro ⟨m,_,_,h,rfl⟩
    obtain ⟨r,hr,e⟩:=List.any_eq_true.1 h
    exact ⟨r,hr,by rw [beq_iff_eq.1 e]⟩
  · rintro ⟨r,hr,rfl⟩
    exact ⟨_,by omega,by rw [Nat.zero_add];exact qH _ _,List.any_eq_true.2 ⟨r,hr,by simp⟩,rfl⟩
theorem VT.row_of {vs rs:List Int} (h:VT vs rs) {r:Int} (hr:r∈rs):0≤r∧r.toNat<2 ^ vs.length∧row vs (asg vs r.toNat)=r.toNat:=by
  have h1:=h.rows.mem r hr
  have h2:r.toNat<2 ^ vs.length:=by
    have:=h1.2.1
    generalize 2 ^ vs.length=z at *
    omega
  exact ⟨h1.1,h2,qba h.vars h2⟩
theorem qcj {vs rs:List Int} (h:VT vs rs) {v:Int} (hv:v∈vs) (b:Bool) :
    ovr (wo vs v) (fun a=>hs vs rs (qR a v b))=prj vs (rs.filter fun r=>(asg vs r.toNat).testBit v.toNat == b) (wo vs v):=by
  have hc:=qbT h.vars v
  have hv0:=(h.vars.mem v hv).1
  have hnv:v∉wo vs v:=fun hh=>((qaS vs v v).1 hh).2 rfl
  refine Chn.same (qcq _ _) (qdv _ _ _) (fun x=>?_)
  rw [qdu,qdw]
  constructor
  · rintro ⟨m,hm,ht,rfl⟩
    have ht2:((row vs (qR (asg (wo vs v) m) v b):Nat):Int)∈rs:=by simpa [hs] using ht
    refine ⟨_,List.mem_filter.2 ⟨ht2,?_⟩,?_⟩
    · rw [Int.toNat_natCast,qaR h.vars _ hv,qaF,qcr hc m hv0 hnv];simp
    · rw [Int.toNat_natCast]
      congr 1
      rw [← qba hc hm]
      refine qae _ (fun w hw=>?_)
      have hw2:=(qaS vs v w).1 hw
      have hw0:=(h.vars.mem w hw2.1).1
      rw [qba hc hm,qaR h.vars _ hw2.1,qaF,decide_eq_false (fun e=>hw2.2 (by omega)),Bool.and_false,Bool.or_false]
  · rintro ⟨r,hr,rfl⟩
    obtain ⟨hr1,hr2⟩:=List.mem_filter.1 hr
    have hro:=h.row_of hr1
    refine ⟨_,qH _ _,?_,rfl⟩
    have:row vs (qR (asg (wo vs v) (row (wo vs v) (asg vs r.toNat))) v b)=r.toNat:=by
      rw [← hro.2.2]
      refine qae _ (fun w hw=>?_)
      rw [hro.2.2,qaF]
      by_cases e:w=v
      · subst e
        rw [qcr hc _ hv0 hnv,decide_eq_true rfl,Bool.and_true,Bool.false_or]
        exact (beq_iff_eq.1 hr2).symm
      · have hw0:=(h.vars.mem w hw).1
        rw [qaR hc _ ((qaS vs v w).2 ⟨hw,e⟩),decide_eq_false (fun e2=>e (by omega)),Bool.and_false,Bool.or_false]
    unfold hs
    rw [this,← qe hro.1]
    simpa using hr1
theorem VT.zero {vs rs:List Int} (h:VT vs rs) (v:Int) (t:Nat→Bool):VT (wo vs v) (ovr (wo vs v) t):=
  ⟨Nat.le_trans (qcD vs v) h.len,qbT h.vars v,qcq _ _⟩
theorem qbm (vs:List Int) (hl:(vs.length:Int)≤9223372036854775807):∀ (d i:Nat),i+d=vs.length→Ev (fun k=>ancepsref38_Variables.l0 k vs i) (chk 24 (prv vs i) (vs.drop i))
  | 0,i,h=>by
    rw [List.drop_eq_nil_of_le (by omega)]
    refine Ev.step (f:=fun _=>some 0) (fun k=>by rw [ancepsref38_Variables.l0,if_neg (by omega)]) ?_
    cases prv vs i <;> exact Ev.now _
  | d+1,i,h=>by
    have hi:i<vs.length:=by omega
    have hw:=qc i vs.length hi hl
    have ih:=qbm vs hl d (i+1) (by omega)
    rw [q4] at ih
    rw [qi vs i hi]
    have hj:rd vs i<0∨24≤rd vs i→∀ p,chk 24 p (rd vs i :: vs.drop (i+1))=6:=fun h p=>by cases p <;> simp only [chk] <;> rw [if_pos h]
    by_cases h0:rd vs i<0
    · rw [hj (.inl h0)]
      exact Ev.step (f:=fun _=>some 6) (fun k=>by rw [ancepsref38_Variables.l0,if_pos (by omega),if_pos (by omega),if_pos h0]) (Ev.now _)
    · by_cases h1:rd vs i>23
      · rw [hj (.inr (by omega))]
        exact Ev.step (f:=fun _=>some 6) (fun k=>by rw [ancepsref38_Variables.l0,if_pos (by omega),if_pos (by omega),if_neg h0,if_pos h1]) (Ev.now _)
      · by_cases e:i=0
        · have ep:prv vs i=none:=by unfold prv;rw [if_pos e]
          rw [ep]
          simp only [chk]
          rw [if_neg (by omega)]
          refine Ev.step (fun k=>by rw [ancepsref38_Variables.l0,if_pos (by omega),if_pos (by omega),if_neg h0,if_neg h1,if_neg (by omega),hw]) ih
        · have ep:prv vs i=some (rd vs ((i:Int) - 1)):=by unfold prv;rw [if_neg e]
          rw [ep]
          simp only [chk]
          rw [if_neg (by omega)]
          by_cases h2:rd vs i≤rd vs ((i:Int) - 1)
          · rw [if_pos h2]
            exact Ev.step (f:=fun _=>some 18) (fun k=>by rw [ancepsref38_Variables.l0,if_pos (by omega),if_pos (by omega),if_neg h0,if_neg h1,if_pos (by omega),qh ((i:Int) - 1) (by omega),if_pos (by omega),if_pos (by omega),if_pos h2]) (Ev.now _)
          · rw [if_neg h2]
            refine Ev.step (fun k=>by rw [ancepsref38_Variables.l0,if_pos (by omega),if_pos (by omega),if_neg h0,if_neg h1,if_pos (by omega),qh ((i:Int) - 1) (by omega),if_pos (by omega),if_pos (by omega),if_neg h2,hw]) ih
theorem qdx (vs:List Int) (hl:(vs.length:Int)≤9223372036854775807):Ev (fun k=>ancepsref38_Variables.f k vs) (asc vs):=by
  unfold asc ancepsref38_Variables.f
  refine qd (fun _=>Ev.now _) (fun _=>?_)
  simpa [prv] using qbm vs hl vs.length 0 (by omega)
theorem qaz (vs rs:List Int) (hv:vs.length≤10) (hl:(rs.length:Int)≤9223372036854775807):∀ (d i:Nat),i+d=rs.length→Ev (fun k=>ancepsref38_Valid.l0 k i vs rs) (chk ((2 ^ vs.length:Nat):Int) (prv rs i) (rs.drop i))
  | 0,i,h=>by
    rw [List.drop_eq_nil_of_le (by omega)]
    refine Ev.step (f:=fun _=>some 0) (fun k=>by rw [ancepsref38_Valid.l0,if_neg (by omega)]) ?_
    cases prv rs i <;> exact Ev.now _
  | d+1,i,h=>by
    have hi:i<rs.length:=by omega
    have hw:=qc i rs.length hi hl
    have ih:=qaz vs rs hv hl d (i+1) (by omega)
    have hs:=qI vs.length (by omega)
    rw [q4] at ih
    rw [qi rs i hi]
    have hj:rd rs i<0∨((2 ^ vs.length:Nat):Int)≤rd rs i→∀ p,chk ((2 ^ vs.length:Nat):Int) p (rd rs i :: rs.drop (i+1))=6:=fun h p=>by cases p <;> simp only [chk] <;> rw [if_pos h]
    by_cases h0:rd rs i<0
    · rw [hj (.inl h0)]
      exact Ev.step (f:=fun _=>some 6) (fun k=>by rw [ancepsref38_Valid.l0,if_pos (by omega),if_pos (by omega),if_pos h0]) (Ev.now _)
    · by_cases h1:rd rs i≥((2 ^ vs.length:Nat):Int)
      · rw [hj (.inr h1)]
        exact Ev.step (f:=fun _=>some 6) (fun k=>by rw [ancepsref38_Valid.l0,if_pos (by omega),if_pos (by omega),if_neg h0,hs,if_pos h1]) (Ev.now _)
      · by_cases e:i=0
        · have ep:prv rs i=none:=by unfold prv;rw [if_pos e]
          rw [ep]
          simp only [chk]
          rw [if_neg (by omega)]
          refine Ev.step (fun k=>by rw [ancepsref38_Valid.l0,if_pos (by omega),if_pos (by omega),if_neg h0,hs,if_neg h1,if_neg (by omega),hw]) ih
        · have ep:prv rs i=some (rd rs ((i:Int) - 1)):=by unfold prv;rw [if_neg e]
          rw [ep]
          simp only [chk]
          rw [if_neg (by omega)]
          by_cases h2:rd rs i≤rd rs ((i:Int) - 1)
          · rw [if_pos h2]
            exact Ev.step (f:=fun _=>some 18) (fun k=>by rw [ancepsref38_Valid.l0,if_pos (by omega),if_pos (by omega),if_neg h0,hs,if_neg h1,if_pos (by omega),qh ((i:Int) - 1) (by omega),if_pos (by omega),if_pos (by omega),if_pos h2]) (Ev.now _)
          · rw [if_neg h2]
            refine Ev.step (fun k=>by rw [ancepsref38_Valid.l0,if_pos (by omega),if_pos (by omega),if_neg h0,hs,if_neg h1,if_pos (by omega),qh ((i:Int) - 1) (by omega),if_pos (by omega),if_pos (by omega),if_neg h2,hw]) ih
theorem qbn (vs rs:List Int) (hl:(vs.length:Int)≤9223372036854775807) (hr:(rs.length:Int)≤9223372036854775807):Ev (fun k=>ancepsref38_Valid.f k vs rs) (qu vs rs):=by
  unfold qu
  refine Ev.bind (qdx vs hl) ?_
  refine qd (fun h=>?_) (fun _=>Ev.now _)
  simpa [prv] using qaz vs rs (qcl h) hr rs.length 0 (by omega)
theorem qbU (x n i out:Nat) (hn:n≤60) (hi:i≤30) (ho:out<2 ^ i):wrap64 ((out:Int)+shl .i64 (Int.tmod (shr .i64 (x:Int) (n:Int)) 2) (i:Int))=((out+(x.testBit n).toNat * 2 ^ i:Nat):Int):=by
  have hb:IntKind.i64.bits=64:=rfl
  have h1:shr .i64 (x:Int) (n:Int)=((x / 2 ^ n:Nat):Int):=by
    unfold shr
    rw [hb,show min ((n:Int)).toNat 64=n by omega]
    simp
  have h2:Int.tmod ((x / 2 ^ n:Nat):Int) 2=(((x.testBit n).toNat:Nat):Int):=by
    rw [Nat.toNat_testBit,Int.tmod_eq_emod_of_nonneg (Int.natCast_nonneg _)]
    simp
  have hip:(2:Nat) ^ i≤2 ^ 30:=Nat.pow_le_pow_right (by decide) hi
  have h30:(2:Nat) ^ 30=1073741824:=by decide
  have hbl:(x.testBit n).toNat * 2 ^ i≤2 ^ i:=by cases x.testBit n <;> simp
  have h3:shl .i64 (((x.testBit n).toNat:Nat):Int) (i:Int)=(((x.testBit n).toNat * 2 ^ i:Nat):Int):=by
    unfold shl
    rw [hb,show min ((i:Int)).toNat 64=i by omega]
    have e:(((x.testBit n).toNat:Nat):Int) * 2 ^ i=(((x.testBit n).toNat * 2 ^ i:Nat):Int):=by simp
    rw [e,IntKind.wrap_i64]
    omega
  rw [h1,h2,h3,qh _ (by omega)]
  omega
theorem qbo (vs:List Int) (hv:∀ v,v∈vs→0≤v∧v<24) (hl:vs.length≤24) (a:Nat):∀ (d i out:Nat),i+d=vs.length→out<2 ^ i→
    Ev (fun k=>ancepsref38_Row.l0 k vs (a:Int) (out:Int) i) ((qF a (vs.drop i) i out:Nat):Int)
  | 0,i,out,h,ho=>by
    rw [List.drop_eq_nil_of_le (by omega)]
    exact Ev.step (f:=fun _=>some (out:Int)) (fun k=>by rw [ancepsref38_Row.l0,if_neg (by omega)]) (Ev.now _)
  | d+1,i,out,h,ho=>by
    have hi:i<vs.length:=by omega
    have hw:=qc i vs.length hi (by omega)
    have hm:=hv _ (qs vs i hi)
    have ih:=qbo vs hv hl a d (i+1) _ (by omega) (qC (a.testBit (rd vs i).toNat) out i ho)
    rw [qi vs i hi,qF]
    refine Ev.step (fun k=>?_) ih
    rw [ancepsref38_Row.l0,if_pos (by omega),if_pos (by omega),if_pos (by omega),hw]
    have hb:=qbU a (rd vs i).toNat i out (by omega) (by omega) ho
    rw [← qe hm.1] at hb
    rw [hb]
theorem qbc (vs:List Int) (hv:∀ v,v∈vs→0≤v∧v<24) (hl:vs.length≤24) (a:Nat):Ev (fun k=>ancepsref38_Row.f k vs (a:Int)) ((row vs a:Nat):Int):=by
  have:=qbo vs hv hl a vs.length 0 0 (by omega) (by decide)
  exact this
theorem qbp {vs:List Int} (r:Nat) (hl:vs.length≤24):∀ (d i out:Nat) (p:Option Int),i+d=vs.length→Chn 24 p (vs.drop i)→q6 out (vs.drop i)→
    Ev (fun k=>ancepsref38_Assignment.l0 k vs (r:Int) (out:Int) i) ((qQ r (vs.drop i) i out:Nat):Int)
  | 0,i,out,p,h,hc,ho=>by
    rw [List.drop_eq_nil_of_le (by omega)]
    exact Ev.step (f:=fun _=>some (out:Int)) (fun k=>by rw [ancepsref38_Assignment.l0,if_neg (by omega)]) (Ev.now _)
  | d+1,i,out,p,h,hc,ho=>by
    have hi:i<vs.length:=by omega
    have hw:=qc i vs.length hi (by omega)
    rw [qi vs i hi] at hc ho ⊢
    have hx:=qC (r.testBit i) out (rd vs i).toNat ho
    have ih:=qbp r hl d (i+1) _ (some (rd vs i)) (by omega) hc.2.2.2 (qL hc.2.2.2 hc.1 hx)
    rw [qQ]
    refine Ev.step (fun k=>?_) ih
    have h0:=hc.1
    have h1:=hc.2.1
    rw [ancepsref38_Assignment.l0,if_pos (by omega),if_pos (by omega),if_pos (by omega),hw]
    have hb:=qbU r i (rd vs i).toNat out (by omega) (by omega) ho
    rw [← qe h0] at hb
    rw [hb]
theorem qW {vs:List Int} (hc:Chn 24 none vs) (hl:vs.length≤24) (r:Nat):Ev (fun k=>ancepsref38_Assignment.f k vs (r:Int)) ((asg vs r:Nat):Int):=by
  have:=qbp r hl vs.length 0 0 none (by omega) hc (qM _)
  exact this
theorem qcs (rs:List Int) (hl:(rs.length:Int)≤9223372036854775807) (x:Int):∀ (d i:Nat),i+d=rs.length→Ev (fun k=>ancepsref38_in.l0 k rs x i) (decide (x∈rs.drop i))
  | 0,i,h=>by
    rw [List.drop_eq_nil_of_le (by omega)]
    exact Ev.step (f:=fun _=>some false) (fun k=>by rw [ancepsref38_in.l0,if_neg (by omega)]) (by simpa using Ev.now _)
  | d+1,i,h=>by
    have hi:i<rs.length:=by omega
    have hw:=qc i rs.length hi hl
    have ih:=qcs rs hl x d (i+1) (by omega)
    rw [qi rs i hi]
    by_cases e:rd rs i=x
    · have:decide (x∈rd rs i :: rs.drop (i+1))=true:=by simp [e]
      rw [this]
      exact Ev.step (f:=fun _=>some true) (fun k=>by rw [ancepsref38_in.l0,if_pos (by omega),if_pos (by omega),if_pos e]) (Ev.now _)
    · have:decide (x∈rd rs i :: rs.drop (i+1))=decide (x∈rs.drop (i+1)):=by
        rw [decide_eq_decide,List.mem_cons]
        exact ⟨fun h=>by rcases h with h|h;exact absurd h.symm e;exact h,.inr⟩
      rw [this]
      exact Ev.step (fun k=>by rw [ancepsref38_in.l0,if_pos (by omega),if_pos (by omega),if_neg e,hw]) ih
theorem qdq (rs:List Int) (hl:(rs.length:Int)≤9223372036854775807) (x:Int):Ev (fun k=>ancepsref38_in.f k rs x) (decide (x∈rs)):=by
  have:=qcs rs hl x rs.length 0 (by omega)
  rw [List.drop_zero] at this
  exact this
theorem qda (vs rs:List Int):∃ b,ancepsref38_Few.f vs rs=some b∧(b=true→vs.length≤12∧rs.length≤1030):=by
  unfold ancepsref38_Few.f
  by_cases h1:(vs.length:Int)≤12
  · rw [if_pos h1];exact ⟨_,rfl,fun h=>by have:=of_decide_eq_true h;omega⟩
  · rw [if_neg h1];exact ⟨_,rfl,fun h=>by simp at h⟩
theorem qX (o:List Bool) (m n:Nat) (v:Bool) (hl:m<o.length):rdOf false (o.set m v) (n:Int)=if m=n then v else rdOf false o (n:Int):=by
  unfold rdOf
  rw [Int.toNat_natCast]
  by_cases h:m=n
  · subst h;rw [if_pos rfl,List.getD,List.getElem?_set_self hl];rfl
  · rw [if_neg h];simp [List.getD,List.getElem?_set_ne h]
def fnd (vs us:List Int):List Int→List Bool→List Bool
  | [],F=>F
  | r :: rs,F=>fnd vs us rs (F.set (row us (asg vs r.toNat)) true)
theorem qaT (vs us:List Int):∀ (rs:List Int) (F:List Bool),(fnd vs us rs F).length=F.length
  | [],_=>rfl
  | r :: rs,F=>by rw [fnd,qaT vs us rs];simp
theorem qcS (vs us:List Int):∀ (rs:List Int) (F:List Bool),F.length=2 ^ us.length→∀ m:Nat,rdOf false (fnd vs us rs F) (m:Int)=(rdOf false F (m:Int)||rs.any fun r=>row us (asg vs r.toNat) == m)
  | [],F,_,m=>by simp [fnd]
  | r :: rs,F,hF,m=>by
    rw [fnd,qcS vs us rs _ (by simpa using hF) m,qX _ _ _ _ (by rw [hF];exact qH _ _),List.any_cons]
    by_cases e:row us (asg vs r.toNat)=m
    · rw [if_pos e,beq_iff_eq.2 e];simp
    · rw [if_neg e,beq_eq_false_iff_ne.2 e,Bool.false_or]
theorem qbV {vs rs:List Int} (h:VT vs rs) (a:Nat):Ev (fun k=>ancepsref38_Holds.f k vs rs (a:Int)) (hs vs rs a):=by
  have h1:=h.rows_len
  have h2:=h.len
  exact Ev.bind (qbc vs h.vars' (by omega) a) (Ev.bind (qdq rs (by omega) _) (Ev.now _))
theorem qbq (vs rs:List Int) (hv:∀ v,v∈vs→0≤v∧v<24) (hl:vs.length≤24) (a:Nat) (ha:a<2 ^ 60):∀ (d i out:Nat),i+d=vs.length→out<2 ^ i→
    Ev (fun k=>solve_row.l0 k (a:Int) (out:Int) vs vs.length i) ((qF a (vs.drop i) i out:Nat):Int)
  | 0,i,out,h,ho=>by
    rw [List.drop_eq_nil_of_le (by omega)]
    exact Ev.step (f:=fun _=>some (out:Int)) (fun k=>by rw [solve_row.l0,if_neg (by omega)]) (Ev.now _)
  | d+1,i,out,h,ho=>by
    have hi:i<vs.length:=by omega
    have hw:=qc i vs.length hi (by omega)
    have hm:=hv _ (qs vs i hi)
    have ih:=qbq vs rs hv hl a ha d (i+1) _ (by omega) (qC (a.testBit (rd vs i).toNat) out i ho)
    rw [qi vs i hi,qF]
    refine Ev.step (fun k=>?_) ih
    rw [solve_row.l0,if_pos (by omega),if_pos (by omega),if_pos (by omega),if_pos (by omega),hw]
    have hb:=qbP a (rd vs i).toNat i out ha (by omega) (by omega) ho
    rw [← qe hm.1] at hb
    rw [hb]
theorem qbd (vs rs:List Int) (hv:∀ v,v∈vs→0≤v∧v<24) (hl:vs.length≤24) (a:Nat) (ha:a<2 ^ 60):Ev (fun k=>solve_row.f k vs rs (a:Int)) ((row vs a:Nat):Int):=by
  have:=qbq vs rs hv hl a ha vs.length 0 0 (by omega) (by decide)
  exact this
theorem qp (l:List S63) (i:Nat) (hi:i<l.length):l.drop i=rd_T63 l i :: l.drop (i+1):=qB l i z63 hi
theorem qj (l:List S63) (i:Nat) (hi:i<l.length):rd_T63 l i∈l:=by
  unfold rd_T63
  simp only [Int.toNat_natCast,List.getD,List.getElem?_eq_getElem hi,Option.getD_some]
  exact List.getElem_mem hi
def qt:List S63→Int
  | []=>0
  | t :: ts=>if qu t.f0 t.f1=0 then qt ts else qu t.f0 t.f1
def qn (l:List S63):Int:=if (l.length:Int)>16 then 3 else qt l
def Sm (l:List S63):Prop:=∀ t,t∈l→t.f0.length≤1030∧t.f1.length≤1030
structure VS (l:List S63):Prop where
  len:l.length≤16
  tab:∀ t,t∈l→VT t.f0 t.f1
theorem qbr:∀ l:List S63,qt l=0↔∀ t,t∈l→VT t.f0 t.f1
  | []=>by simp [qt]
  | t :: ts=>by
    have ih:=qbr ts
    unfold qt
    by_cases h:qu t.f0 t.f1=0
    · rw [if_pos h,ih]
      exact ⟨fun h2 x hx=>by rcases List.mem_cons.1 hx with rfl|hx;exact (qE _ _).1 h;exact h2 x hx,fun h2 x hx=>h2 x (List.mem_cons_of_mem _ hx)⟩
    · rw [if_neg h]
      exact ⟨fun h2=>absurd h2 h,fun h2=>absurd ((qE _ _).2 (h2 t List.mem_cons_self)) h⟩
theorem qg (l:List S63):qn l=0↔VS l:=by
  unfold qn
  by_cases h:(l.length:Int)>16
  · rw [if_pos h];exact ⟨fun h2=>by omega,fun h2=>by have:=h2.len;omega⟩
  · rw [if_neg h,qbr];exact ⟨fun h2=>⟨by omega,h2⟩,fun h2=>h2.tab⟩
theorem qaA (l:List S63) (hs:Sm l) (hl:l.length≤1000):∀ (d i:Nat),i+d=l.length→Ev (fun k=>solve_valid.l0 k l l.length i) (qt (l.drop i))
  | 0,i,h=>by
    rw [List.drop_eq_nil_of_le (by omega)]
    exact Ev.step (f:=fun _=>some 0) (fun k=>by rw [solve_valid.l0,if_neg (by omega)]) (Ev.now _)
  | d+1,i,h=>by
    have hi:i<l.length:=by omega
    have hw:=qc i l.length hi (by omega)
    have hm:=hs _ (qj l i hi)
    rw [qp l i hi,qt]
    refine Ev.step (fun k=>by rw [solve_valid.l0,if_pos (by omega),if_pos (by omega),if_pos (by omega),hw]) (Ev.bind (q5 _ _ (by omega) (by omega)) ?_)
    exact qd (fun _=>qaA l hs hl d (i+1) (by omega)) (fun _=>Ev.now _)
theorem qv (l:List S63) (hs:Sm l) (hl:l.length≤1000):Ev (fun k=>solve_valid.f k l) (qn l):=by
  unfold qn solve_valid.f
  exact qd (fun _=>Ev.now _) (fun _=>by simpa using qaA l hs hl l.length 0 (by omega))
theorem qaf (l:List S63) (hs:Sm l) (hl:l.length≤1000):∀ (d i:Nat),i+d=l.length→Ev (fun k=>ancepsref40_Valid.l0 k l i) (qt (l.drop i))
  | 0,i,h=>by
    rw [List.drop_eq_nil_of_le (by omega)]
    exact Ev.step (f:=fun _=>some 0) (fun k=>by rw [ancepsref40_Valid.l0,if_neg (by omega)]) (Ev.now _)
  | d+1,i,h=>by
    have hi:i<l.length:=by omega
    have hw:=qc i l.length hi (by omega)
    have hm:=hs _ (qj l i hi)
    rw [qp l i hi,qt]
    refine Ev.step (fun k=>by rw [ancepsref40_Valid.l0,if_pos (by omega),if_pos (by omega),hw]) (Ev.bind (qbn _ _ (by omega) (by omega)) ?_)
    exact qd (fun _=>qaf l hs hl d (i+1) (by omega)) (fun _=>Ev.now _)
theorem qk (l:List S63) (hs:Sm l) (hl:l.length≤1000):Ev (fun k=>ancepsref40_Valid.f k l) (qn l):=by
  unfold qn ancepsref40_Valid.f
  exact qd (fun _=>Ev.now _) (fun _=>by simpa using qaf l hs hl l.length 0 (by omega))
theorem qag (l:List S63) (Q:Prop) (rows:Int) (i:Nat) (hi:i<l.length) (hl:l.length≤18) (hv:(rd_T63 l i).f0.length≤1030)
    (H:∀ (seen:List Bool) (n:Int),seen.length=24→∃ b,Ev (fun k=>ancepsref40_Few.l0 k l seen n rows ((i+1:Nat):Int)) b∧(b=true→Q)) :
    ∀ (d j:Nat) (seen:List Bool) (n:Int),j+d=(rd_T63 l i).f0.length→seen.length=24→∃ b,Ev (fun k=>ancepsref40_Few.l1 k l seen n rows i j) b∧(b=true→Q)
  | 0,j,seen,n,h,hs=>by
    obtain ⟨b,hb,hq⟩:=H seen n hs
    have hw:=qc i l.length hi (by omega)
    exact ⟨b,Ev.step (fun k=>by rw [ancepsref40_Few.l1,if_pos (by omega),if_pos (by omega),if_neg (by omega),hw]) hb,hq⟩
  | d+1,j,seen,n,h,hs=>by
    have hj:j<(rd_T63 l i).f0.length:=by omega
    have hw:=qc j _ hj (by omega)
    by_cases h0:rd (rd_T63 l i).f0 j≥0
    · by_cases h1:rd (rd_T63 l i).f0 j<24
      · by_cases hb:rdOf false seen (rd (rd_T63 l i).f0 j)=true
        · obtain ⟨b,e,hq⟩:=qag l Q rows i hi hl hv H d (j+1) seen n (by omega) hs
          exact ⟨b,Ev.step (fun k=>by rw [ancepsref40_Few.l1,if_pos (by omega),if_pos (by omega),if_pos (by omega),if_pos (by omega),if_pos h0,if_pos h1,if_pos (by omega),if_pos (by omega),if_pos hb,hw]) e,hq⟩
        · obtain ⟨b,e,hq⟩:=qag l Q rows i hi hl hv H d (j+1) (seen.set (rd (rd_T63 l i).f0 j).toNat true) (wrap64 (n+1)) (by omega) (by rw [List.length_set];exact hs)
          exact ⟨b,Ev.step (fun k=>by rw [ancepsref40_Few.l1,if_pos (by omega),if_pos (by omega),if_pos (by omega),if_pos (by omega),if_pos h0,if_pos h1,if_pos (by omega),if_pos (by omega),if_neg hb,hw]) e,hq⟩
      · obtain ⟨b,e,hq⟩:=qag l Q rows i hi hl hv H d (j+1) seen n (by omega) hs
        exact ⟨b,Ev.step (fun k=>by rw [ancepsref40_Few.l1,if_pos (by omega),if_pos (by omega),if_pos (by omega),if_pos (by omega),if_pos h0,if_neg h1,hw]) e,hq⟩
    · obtain ⟨b,e,hq⟩:=qag l Q rows i hi hl hv H d (j+1) seen n (by omega) hs
      exact ⟨b,Ev.step (fun k=>by rw [ancepsref40_Few.l1,if_pos (by omega),if_pos (by omega),if_pos (by omega),if_pos (by omega),if_neg h0,hw]) e,hq⟩
theorem qct (l:List S63) (hl:l.length≤18):∀ (d i:Nat) (seen:List Bool) (n rows:Int),i+d=l.length→seen.length=24→∃ b,Ev (fun k=>ancepsref40_Few.l0 k l seen n rows i) b∧(b=true→Sm (l.drop i))
  | 0,i,seen,n,rows,h,hs=>by
    rw [List.drop_eq_nil_of_le (by omega)]
    have hq:Sm []:=fun t ht=>by simp at ht
    by_cases hn:n≤10
    · exact ⟨_,Ev.step (f:=fun _=>some (decide (rows≤2000))) (fun k=>by rw [ancepsref40_Few.l0,if_neg (by omega),if_pos hn]) (Ev.now _),fun _=>hq⟩
    · exact ⟨false,Ev.step (f:=fun _=>some false) (fun k=>by rw [ancepsref40_Few.l0,if_neg (by omega),if_neg hn]) (Ev.now _),fun h=>by cases h⟩
  | d+1,i,seen,n,rows,h,hs=>by
    have hi:i<l.length:=by omega
    obtain ⟨b,hb,hf⟩:=qda (rd_T63 l i).f0 (rd_T63 l i).f1
    cases b with
    | false=>exact ⟨false,Ev.step (f:=fun _=>some false) (fun k=>by rw [ancepsref40_Few.l0,if_pos (by omega),if_pos (by omega),hb];rfl) (Ev.now _),fun h=>by cases h⟩
    | true=>
      obtain ⟨f1,f2⟩:=hf rfl
      obtain ⟨b,e,hq⟩:=qag l (Sm (l.drop (i+1))) (wrap64 (rows+((rd_T63 l i).f1.length:Int))) i hi hl (by omega)
        (fun seen n hs=>qct l hl d (i+1) seen n _ (by omega) hs) (rd_T63 l i).f0.length 0 seen n (by omega) hs
      refine ⟨b,Ev.step (fun k=>by rw [ancepsref40_Few.l0,if_pos (by omega),if_pos (by omega),hb];rfl) e,fun h=>?_⟩
      rw [qp l i hi]
      intro t ht
      rcases List.mem_cons.1 ht with rfl|ht
      · omega
      · exact hq h t ht
theorem qdy (l:List S63):∃ b,Ev (fun k=>ancepsref40_Few.f k l) b∧(b=true→Sm l∧l.length≤18):=by
  unfold ancepsref40_Few.f
  by_cases h:(l.length:Int)>18
  · exact ⟨false,qa h (Ev.now _),fun h=>by cases h⟩
  · obtain ⟨b,e,hq⟩:=qct l (by omega) l.length 0 (List.replicate 24 false) 0 0 (by omega) (by simp)
    exact ⟨b,qb h (qa (by decide) (by simpa using e)),fun h2=>⟨by simpa using hq h2,by omega⟩⟩
def flat (l:List S63):List Int:=l.flatMap (·.f0)
def occ (l:List S63):List Int:=Lib.compact ((flat l).mergeSort fun x y=>decide (x≤y))
theorem VS.flat {l:List S63} (h:VS l):∀ v,v∈flat l→0≤v∧v<24:=fun v hv=>by
  obtain ⟨t,ht,hv⟩:=List.mem_flatMap.1 hv
  exact (h.tab t ht).vars' v hv
theorem VS.occ {l:List S63} (h:VS l):Chn 24 none (occ l)∧∀ v,v∈occ l↔v∈Pure.flat l:=qbb (Pure.flat l) h.flat
theorem qbs (t:S63) (l:List S63):flat (t :: l)=t.f0++flat l:=by simp [flat]
theorem qbW (l:List S63) (hs:Sm l) (hl:l.length≤1000):∀ (d i:Nat) (acc:List Int),i+d=l.length→acc.length≤1030 * i→Ev (fun k=>solve_occurring.l0 k acc l l.length i) (Lib.compact ((acc++flat (l.drop i)).mergeSort fun x y=>decide (x≤y)))
  | 0,i,acc,h,ha=>by
    rw [List.drop_eq_nil_of_le (by omega),show flat []=[] from rfl,List.append_nil]
    refine Ev.step (fun k=>by rw [solve_occurring.l0,if_neg (by omega)]) ?_
    have hs:slices_Sort_int_int.f acc=some (acc.mergeSort fun x y=>decide (x≤y)):=by
      unfold slices_Sort_int_int.f
      rw [if_pos (by omega)]
    simp only [hs,Option.bind_some]
    exact Ev.now _
  | d+1,i,acc,h,ha=>by
    have hi:i<l.length:=by omega
    have hw:=qc i l.length hi (by omega)
    have hm:=hs _ (qj l i hi)
    have ih:=qbW l hs hl d (i+1) (acc++(rd_T63 l i).f0) (by omega) (by rw [List.length_append];omega)
    rw [qp l i hi,qbs,← List.append_assoc]
    exact Ev.step (fun k=>by rw [solve_occurring.l0,if_pos (by omega),if_pos (by omega),if_pos (by omega),if_pos (by omega),hw]) ih
theorem qaU (l:List S63) (hs:Sm l) (hl:l.length≤1000):Ev (fun k=>solve_occurring.f k l) (occ l):=by
  have:=qbW l hs hl l.length 0 [] (by omega) (by simp)
  rw [List.nil_append,List.drop_zero] at this
  exact this
def qq:List Int→List Bool→List Bool
  | [],s=>s
  | v :: vs,s=>qq vs (s.set v.toNat true)
theorem qah:∀ (vs:List Int) (s:List Bool),(qq vs s).length=s.length
  | [],_=>rfl
  | v :: vs,s=>by rw [qq,qah,List.length_set]
theorem qbX:∀ (vs:List Int) (s:List Bool),(∀ v,v∈vs→0≤v∧v<(s.length:Int))→∀ m:Nat,rdOf false (qq vs s) (m:Int)=(rdOf false s (m:Int)||decide ((m:Int)∈vs))
  | [],s,_,m=>by simp [qq]
  | v :: vs,s,h,m=>by
    have hv:=h v List.mem_cons_self
    rw [qq,qbX vs _ (fun x hx=>by rw [List.length_set];exact h x (List.mem_cons_of_mem _ hx)),qX s v.toNat m true (by omega)]
    by_cases e:v.toNat=m
    · rw [if_pos e,Bool.true_or]
      have:(m:Int)=v:=by omega
      simp [this]
    · rw [if_neg e]
      have:(m:Int)≠v:=by omega
      simp [this]
theorem qcu (l:List S63) (i:Nat) (hi:i<l.length) (hl:l.length≤16) (hv:(rd_T63 l i).f0.length≤1030) (hr:∀ v,v∈(rd_T63 l i).f0→0≤v∧v<24) (r:List Int) :
    ∀ (d j:Nat) (seen:List Bool),j+d=(rd_T63 l i).f0.length→seen.length=24→Ev (fun k=>ancepsref40_Vars.l0 k l (qq ((rd_T63 l i).f0.drop j) seen) ((i+1:Nat):Int)) r→Ev (fun k=>ancepsref40_Vars.l1 k l seen i j) r
  | 0,j,seen,h,hs,H=>by
    rw [List.drop_eq_nil_of_le (by omega)] at H
    have hw:=qc i l.length hi (by omega)
    exact Ev.step (fun k=>by rw [ancepsref40_Vars.l1,if_pos (by omega),if_pos (by omega),if_neg (by omega),hw];rfl) H
  | d+1,j,seen,h,hs,H=>by
    have hj:j<(rd_T63 l i).f0.length:=by omega
    have hw:=qc j _ hj (by omega)
    have hm:=hr _ (qs (rd_T63 l i).f0 j hj)
    rw [qi _ j hj,qq] at H
    have ih:=qcu l i hi hl hv hr r d (j+1) (seen.set (rd (rd_T63 l i).f0 j).toNat true) (by omega) (by rw [List.length_set];exact hs) H
    exact Ev.step (fun k=>by rw [ancepsref40_Vars.l1,if_pos (by omega),if_pos (by omega),if_pos (by omega),if_pos (by omega),if_pos (by omega),if_pos (by omega),hw]) ih
theorem qaG (seen:List Bool) (hs:seen.length=24):∀ (d v:Nat) (acc:List Int),v+d=24→acc.length≤v→Ev (fun k=>ancepsref40_Vars.l2 k seen acc v) (acc++flt (fun m=>rdOf false seen (m:Int)) d v)
  | 0,v,acc,h,ha=>by
    exact Ev.step (f:=fun _=>some acc) (fun k=>by rw [ancepsref40_Vars.l2,if_neg (by omega)]) (by simpa [flt] using Ev.now _)
  | d+1,v,acc,h,ha=>by
    have hw:wrap64 ((v:Int)+1)=((v+1:Nat):Int):=by rw [qh _ (by omega)];omega
    rw [flt]
    by_cases e:rdOf false seen (v:Int)=true
    · have ih:=qaG seen hs d (v+1) (acc++[(v:Int)]) (by omega) (by simp;omega)
      rw [if_pos e]
      rw [List.append_assoc,List.singleton_append] at ih
      exact Ev.step (fun k=>by rw [ancepsref40_Vars.l2,if_pos (by omega),if_pos (by omega),if_pos (by omega),if_pos e,if_pos (by omega),hw]) ih
    · have ih:=qaG seen hs d (v+1) acc (by omega) (by omega)
      rw [if_neg e]
      exact Ev.step (fun k=>by rw [ancepsref40_Vars.l2,if_pos (by omega),if_pos (by omega),if_pos (by omega),if_neg e,hw]) ih
theorem qbt (l:List S63) (h:VS l):∀ (d i:Nat) (seen:List Bool),i+d=l.length→seen.length=24→Ev (fun k=>ancepsref40_Vars.l0 k l seen i) (flt (fun m=>rdOf false (qq (flat (l.drop i)) seen) (m:Int)) 24 0)
  | 0,i,seen,hd,hs=>by
    rw [List.drop_eq_nil_of_le (by omega)]
    have:=qaG seen hs 24 0 [] (by omega) (by simp)
    rw [List.nil_append] at this
    exact Ev.step (fun k=>by rw [ancepsref40_Vars.l0,if_neg (by omega)];rfl) this
  | d+1,i,seen,hd,hs=>by
    have hi:i<l.length:=by omega
    have hm:=h.tab _ (qj l i hi)
    have ih:=qbt l h d (i+1) (qq (rd_T63 l i).f0 seen) (by omega) (by rw [qah];exact hs)
    have hap:∀ (a b:List Int) (s:List Bool),qq (a++b) s=qq b (qq a s):=by
      intro a
      induction a with
      | nil=>intro b s;rfl
      | cons x xs ihx=>intro b s;rw [List.cons_append,qq,qq,ihx]
    rw [qp l i hi,qbs,hap]
    have key:=qcu l i hi h.len (by have:=hm.len;omega) hm.vars' _ (rd_T63 l i).f0.length 0 seen (by omega) hs (by rw [List.drop_zero];exact ih)
    exact Ev.step (fun k=>by rw [ancepsref40_Vars.l0,if_pos (by omega)];rfl) key
theorem q7 {l:List S63} (h:VS l) (hs:Sm l):Ev (fun k=>ancepsref40_Vars.f k l) (occ l):=by
  have hl:=h.len
  refine Ev.bind (qk l hs (by omega)) (qa ((qg l).2 h) (qa (by decide) ?_))
  refine qf (qbt l h l.length 0 (List.replicate 24 false) (by omega) (by simp)) ?_
  rw [List.drop_zero]
  have h24:=qO (fun m=>rdOf false (qq (flat l) (List.replicate 24 false)) (m:Int)) 24 0 none (fun q hq=>by cases hq)
  refine Chn.same h24 h.occ.1 (fun n=>?_)
  rw [h.occ.2,qV]
  have hat:=qbX (flat l) (List.replicate 24 false) (fun v hv=>by have:=h.flat v hv;simp;omega)
  have hz:∀ m:Nat,rdOf false (List.replicate 24 false) (m:Int)=false:=by
    intro m
    unfold rdOf
    simp only [Int.toNat_natCast,List.getD_eq_getElem?_getD,List.getElem?_replicate]
    split <;> rfl
  constructor
  · rintro ⟨m,_,hm,ht,rfl⟩
    rw [hat,hz,Bool.false_or,decide_eq_true_eq] at ht
    exact ht
  · intro hn
    have:=h.flat n hn
    refine ⟨n.toNat,by omega,by omega,?_,by omega⟩
    rw [hat,hz,Bool.false_or,decide_eq_true_eq,← qe this.1]
    exact hn

theorem qaV (l:List Int) (hl:(l.length:Int)≤9223372036854775807) (x:Int):∀ (d i:Nat),i+d=l.length→∃ q:Int,Ev (fun k=>slices_Index_int_int.l0 k l x l.length i) q∧decide (q≥0)=decide (x∈l.drop i)
  | 0,i,h=>by
    rw [List.drop_eq_nil_of_le (by omega)]
    exact ⟨-1,Ev.step (f:=fun _=>some (-1)) (fun k=>by rw [slices_Index_int_int.l0,if_neg (by omega)]) (Ev.now _),by simp⟩
  | d+1,i,h=>by
    have hi:i<l.length:=by omega
    have hw:=qc i l.length hi hl
    obtain ⟨q,hq,hq2⟩:=qaV l hl x d (i+1) (by omega)
    rw [qi l i hi]
    by_cases e:x=rd l i
    · exact ⟨i,Ev.step (f:=fun _=>some (i:Int)) (fun k=>by rw [slices_Index_int_int.l0,if_pos (by omega),if_pos (by omega),if_pos (by omega),if_pos e]) (Ev.now _),decide_eq_decide.2 ⟨fun _=>by rw [e];exact List.mem_cons_self,fun _=>by omega⟩⟩
    · refine ⟨q,Ev.step (fun k=>by rw [slices_Index_int_int.l0,if_pos (by omega),if_pos (by omega),if_pos (by omega),if_neg e,hw]) hq,?_⟩
      rw [hq2,decide_eq_decide,List.mem_cons]
      exact ⟨.inr,fun h=>by rcases h with h|h;exact absurd h e;exact h⟩
theorem qz (l:List Int) (hl:(l.length:Int)≤9223372036854775807) (x:Int):Ev (fun k=>slices_Contains_int_int.f k l x) (decide (x∈l)):=by
  obtain ⟨q,hq,hq2⟩:=qaV l hl x l.length 0 (by omega)
  rw [List.drop_zero] at hq2
  rw [← hq2]
  exact Ev.bind hq (Ev.now _)

theorem qaB (a b:Nat) (ha:a<2 ^ 62) (hb:b<2 ^ 62):Go.bits .andNot .i64 (a:Int) (b:Int)=((a&&& (a ^^^ b):Nat):Int):=by
  have h62:(2:Nat) ^ 62=4611686018427387904:=by decide
  have h64:(2:Nat) ^ IntKind.i64.bits=18446744073709551616:=by decide
  have hx:a&&& (a ^^^ b)≤a:=Nat.and_le_left
  have ha':a % 2 ^ IntKind.i64.bits=a:=Nat.mod_eq_of_lt (by omega)
  have hb':b % 2 ^ IntKind.i64.bits=b:=Nat.mod_eq_of_lt (by omega)
  have e:∀ x y:BitVec IntKind.i64.bits,x&&& ~~~y=x&&& (x ^^^ y):=by
    intro x y
    ext i hi
    simp only [BitVec.getElem_and,BitVec.getElem_not,BitVec.getElem_xor]
    cases x[i] <;> cases y[i] <;> rfl
  simp only [Go.bits,BitVec.ofInt_natCast,e,BitVec.toNat_and,BitVec.toNat_xor,BitVec.toNat_ofNat,ha',hb']
  rw [IntKind.wrap_i64]
  omega
def ql:List Int→Nat→Nat
  | [],m=>m
  | v :: vs,m=>ql vs (m||| 2 ^ v.toNat)
theorem qA:∀ (vs:List Int) (m j:Nat),(ql vs m).testBit j=(m.testBit j||vs.any fun v=>v.toNat == j)
  | [],m,j=>by simp [ql]
  | v :: vs,m,j=>by
    rw [ql,qA vs,Nat.testBit_or,Nat.testBit_two_pow,List.any_cons,Bool.or_assoc]
    congr 1
theorem qcv:∀ (vs:List Int) (m:Nat),(∀ v,v∈vs→0≤v∧v<24)→m<2 ^ 24→ql vs m<2 ^ 24
  | [],m,_,h=>h
  | v :: vs,m,hv,h=>qcv vs _ (fun x hx=>hv x (List.mem_cons_of_mem _ hx)) (Nat.or_lt_two_pow h (Nat.pow_lt_pow_right (by decide) (by have:=hv v List.mem_cons_self;omega)))
theorem qaW {hi:Int} {vs:List Int} (h:Chn hi none vs) (a j:Nat):(asg vs (row vs a)).testBit j=(a.testBit j&&(ql vs 0).testBit j):=by
  rw [qA,Nat.zero_testBit,Bool.false_or,Bool.eq_iff_iff,qr h,Bool.and_eq_true,List.any_eq_true]
  constructor
  · rintro ⟨m,v,hv,rfl,hb⟩
    obtain ⟨u,hu,hb⟩:=(qo vs a m).1 hb
    rw [hv] at hu
    injection hu with hu
    exact ⟨by rw [hu];exact hb,v,List.mem_of_getElem? hv,by simp⟩
  · rintro ⟨hb,v,hv,e⟩
    obtain ⟨i,hi2⟩:=List.getElem?_of_mem hv
    have e2:v.toNat=j:=by simpa using e
    exact ⟨i,v,hi2,e2.symm,(qo vs a i).2 ⟨v,hi2,by rw [e2];exact hb⟩⟩
theorem qcE {hi:Int} {vs:List Int} (h:Chn hi none vs) (a:Nat):asg vs (row vs a)=a↔a&&& (a ^^^ ql vs 0)=0:=by
  constructor
  · intro e
    apply Nat.eq_of_testBit_eq
    intro j
    have:=qaW h a j
    rw [e] at this
    rw [Nat.testBit_and,Nat.testBit_xor,Nat.zero_testBit]
    revert this
    cases a.testBit j <;> cases (ql vs 0).testBit j <;> simp
  · intro e
    apply Nat.eq_of_testBit_eq
    intro j
    rw [qaW h]
    have:=congrArg (fun z=>z.testBit j) e
    simp only [Nat.testBit_and,Nat.testBit_xor,Nat.zero_testBit] at this
    revert this
    cases a.testBit j <;> cases (ql vs 0).testBit j <;> simp
theorem qaX (l:List S63) (vs:List Int) (hv:∀ v,v∈vs→0≤v∧v<24) (hl:vs.length≤24) (a:Int) (r:Bool):∀ (d i m:Nat),i+d=vs.length→m<2 ^ 24→
    Ev (fun k=>if (Go.bits .andNot .i64 a ((ql (vs.drop i) m:Nat):Int))=0 then ((api_Table_solve_Holds_1.f k l a).bind fun t=>(some (!t))) else (some false)) r→Ev (fun k=>solve_Holds.l0 k l (m:Int) vs vs.length i a) r
  | 0,i,m,h,hm,H=>by
    rw [List.drop_eq_nil_of_le (by omega)] at H
    exact Ev.step (fun k=>by rw [solve_Holds.l0,if_neg (by omega)];rfl) H
  | d+1,i,m,h,hm,H=>by
    have hi:i<vs.length:=by omega
    have hw:=qc i vs.length hi (by omega)
    have h1:=hv _ (qs vs i hi)
    rw [qi vs i hi,ql] at H
    have ih:=qaX l vs hv hl a r d (i+1) _ (by omega) (Nat.or_lt_two_pow hm (Nat.pow_lt_pow_right (by decide) (by omega))) H
    refine Ev.step (fun k=>?_) ih
    rw [solve_Holds.l0,if_pos (by omega),if_pos (by omega),if_pos (by omega),if_pos (by omega),hw]
    have e:=qI (rd vs i).toNat (by omega)
    rw [← qe h1.1] at e
    have hp:2 ^ (rd vs i).toNat<2 ^ 24:=Nat.pow_lt_pow_right (by decide) (by omega)
    have hw2:∀ z:Int,0≤z→z<2 ^ 62→IntKind.i64.wrap z=z:=fun z h0 h1=>by
      rw [IntKind.wrap_i64]
      have:(2:Int) ^ 62=4611686018427387904:=by decide
      omega
    have h62:(2:Nat) ^ 24≤2 ^ 62:=by decide
    rw [e,(bits_nat .i64 62 (by decide) hw2 m _ (by omega) (by omega)).2]
theorem qaY {l:List S63} (h:VS l) (a:Nat) (ha:a<2 ^ 24):∀ (d i:Nat),i+d=l.length→∃ q:Int,Ev (fun k=>api_Table_solve_Holds_1_v2.l0 k l l.length i (a:Int)) q∧decide (q≥0)=(l.drop i).any fun t=>!hs t.f0 t.f1 a
  | 0,i,hd=>by
    rw [List.drop_eq_nil_of_le (by omega)]
    exact ⟨-1,Ev.step (f:=fun _=>some (-1)) (fun k=>by rw [api_Table_solve_Holds_1_v2.l0,if_neg (by omega)]) (Ev.now _),rfl⟩
  | d+1,i,hd=>by
    have hi:i<l.length:=by omega
    have hl:=h.len
    have hw:=qc i l.length hi (by omega)
    have hm:=h.tab _ (qj l i hi)
    have hr:=hm.rows_len
    obtain ⟨q,hq,hq2⟩:=qaY h a ha d (i+1) (by omega)
    have h1:Ev (fun k=>solve_Holds_1_v1.f k (rd_T63 l i).f0 (rd_T63 l i).f1 (a:Int)) (!hs (rd_T63 l i).f0 (rd_T63 l i).f1 a):=
      Ev.bind (qbd _ _ hm.vars' (by have:=hm.len;omega) a (Nat.lt_of_lt_of_le ha (by decide))) (Ev.bind (qz _ (by omega) _) (Ev.now _))
    rw [qp l i hi,List.any_cons]
    by_cases e:(!hs (rd_T63 l i).f0 (rd_T63 l i).f1 a)=true
    · rw [e] at h1 ⊢
      exact ⟨i,Ev.step (fun k=>by rw [api_Table_solve_Holds_1_v2.l0,if_pos (by omega),if_pos (by omega),if_pos (by omega)]) (Ev.bind h1 (qa rfl (Ev.now _))),by rw [Bool.true_or];exact decide_eq_true (by omega)⟩
    · rw [Bool.not_eq_true] at e
      rw [e] at h1 ⊢
      exact ⟨q,Ev.step (fun k=>by rw [api_Table_solve_Holds_1_v2.l0,if_pos (by omega),if_pos (by omega),if_pos (by omega),hw]) (Ev.bind h1 (qb Bool.false_ne_true hq)),by rw [Bool.false_or];exact hq2⟩
theorem qaZ {l:List S63} (h:VS l) (a:Nat):∀ (d i:Nat),i+d=l.length→Ev (fun k=>ancepsref40_Holds.l0 k l (a:Int) i) ((l.drop i).all fun t=>hs t.f0 t.f1 a)
  | 0,i,hd=>by
    rw [List.drop_eq_nil_of_le (by omega)]
    exact Ev.step (f:=fun _=>some true) (fun k=>by rw [ancepsref40_Holds.l0,if_neg (by omega)]) (Ev.now _)
  | d+1,i,hd=>by
    have hi:i<l.length:=by omega
    have hl:=h.len
    have hw:=qc i l.length hi (by omega)
    have hm:=h.tab _ (qj l i hi)
    have ih:=qaZ h a d (i+1) (by omega)
    rw [qp l i hi,List.all_cons]
    refine Ev.step (fun k=>by rw [ancepsref40_Holds.l0,if_pos (by omega),if_pos (by omega),hw]) (Ev.bind (qbV hm a) ?_)
    cases hs (rd_T63 l i).f0 (rd_T63 l i).f1 a
    · exact qb Bool.false_ne_true (Ev.now _)
    · exact qa rfl (by simpa using ih)
def hsS (l:List S63) (a:Nat):Bool:=decide (asg (occ l) (row (occ l) a)=a)&&l.all fun t=>hs t.f0 t.f1 a
def hld (l:List S63) (a:Int):Bool:=if qn l=0 then if a<0 then false else if a≥16777216 then false else hsS l a.toNat else false
theorem VS.occ' {l:List S63} (h:VS l):∀ v,v∈Pure.occ l→0≤v∧v<24:=fun v hv=>by have:=h.occ.1.mem v hv;omega
theorem VS.occ_len {l:List S63} (h:VS l):(Pure.occ l).length≤24:=by have:=h.occ.1.len (by decide);omega
theorem qaH (l:List S63) (hs':Sm l) (hl:l.length≤1000) (a:Int):Ev (fun k=>solve_Holds.f k l a) (hld l a):=by
  refine Ev.bind (qv l hs' hl) (qd (fun h=>qd (fun _=>Ev.now _) (fun h0=>?_)) (fun _=>Ev.now _))
  have hv:=(qg l).1 h
  by_cases h1:a≥16777216
  · rw [if_pos h1];exact qa h1 (Ev.now _)
  · rw [if_neg h1]
    refine qb h1 (Ev.bind (qaU l hs' hl) ?_)
    have h24:(2:Nat) ^ 24=16777216:=by decide
    have ha:a.toNat<2 ^ 24:=by omega
    refine qaX l (occ l) hv.occ' hv.occ_len a _ (occ l).length 0 0 (by omega) (by decide) ?_
    rw [List.drop_zero]
    have hm:=qcv (occ l) 0 hv.occ' (by decide)
    have e:Go.bits .andNot .i64 a ((ql (occ l) 0:Nat):Int)=((a.toNat&&& (a.toNat ^^^ ql (occ l) 0):Nat):Int):=by
      have:=qaB a.toNat (ql (occ l) 0) (Nat.lt_of_lt_of_le ha (by decide)) (Nat.lt_of_lt_of_le hm (by decide))
      rw [← qe (by omega)] at this
      exact this
    have iff:=qcE hv.occ.1 a.toNat
    unfold hsS
    by_cases c:asg (occ l) (row (occ l) a.toNat)=a.toNat
    · have c2:=iff.1 c
      rw [decide_eq_true c,Bool.true_and]
      refine qa (by rw [e,c2];rfl) ?_
      obtain ⟨q,hq,hq2⟩:=qaY hv a.toNat ha l.length 0 (by omega)
      rw [← qe (by omega),List.drop_zero] at *
      refine Ev.bind (show Ev (fun k=>api_Table_solve_Holds_1.f k l a) (decide (q≥0)) from Ev.bind hq (Ev.now _)) ?_
      rw [hq2]
      refine qf (Ev.now _) ?_
      rw [List.any_eq_not_all_not,Bool.not_not]
      (try simp only [Bool.not_not])
    · rw [decide_eq_false c,Bool.false_and]
      refine qb (fun h2=>c (iff.2 ?_)) (Ev.now _)
      rw [e] at h2
      exact_mod_cast h2
theorem qaI (l:List S63) (hs':Sm l) (hl:l.length≤1000) (a:Int):Ev (fun k=>ancepsref40_Holds.f k l a) (hld l a):=by
  refine Ev.bind (qk l hs' hl) (qd (fun h=>qd (fun _=>Ev.now _) (fun h0=>?_)) (fun _=>Ev.now _))
  have hv:=(qg l).1 h
  by_cases h1:a≥16777216
  · rw [if_pos h1];exact qa h1 (Ev.now _)
  · rw [if_neg h1]
    refine qb h1 (Ev.bind (q7 hv hs') ?_)
    have hr:=qbc (occ l) hv.occ' hv.occ_len a.toNat
    rw [← qe (by omega)] at hr
    refine Ev.bind hr (Ev.bind (qW hv.occ.1 hv.occ_len _) ?_)
    unfold hsS
    by_cases c:asg (occ l) (row (occ l) a.toNat)=a.toNat
    · rw [decide_eq_true c,Bool.true_and]
      refine qa (by rw [c];omega) ?_
      have:=qaZ hv a.toNat l.length 0 (by omega)
      rw [← qe (by omega),List.drop_zero] at this
      exact this
    · rw [decide_eq_false c,Bool.false_and]
      exact qb (by omega) (Ev.now _)
def fl (t:S63) (C V:Nat):Bool:=!(t.f1.any fun r=>r.toNat&&& row t.f0 C == row t.f0 V)
theorem w62:∀ z:Int,0≤z→z<2 ^ 62→IntKind.i64.wrap z=z:=fun z h0 h1=>by
  rw [IntKind.wrap_i64]
  have:(2:Int) ^ 62=4611686018427387904:=by decide
  omega
theorem qbu (rs:List Int) (hl:(rs.length:Int)≤9223372036854775807) (hr:∀ r,r∈rs→0≤r∧r.toNat<2 ^ 62) (m w:Nat) (hm:m<2 ^ 62):∀ (d i:Nat),i+d=rs.length→
    ∃ q:Int,Ev (fun k=>slices_IndexFunc_int_int_solve_choices_fails_1.l0 k rs rs.length i (m:Int) (w:Int)) q∧decide (q≥0)=(rs.drop i).any fun r=>r.toNat&&& m == w
  | 0,i,h=>by
    rw [List.drop_eq_nil_of_le (by omega)]
    exact ⟨-1,Ev.step (f:=fun _=>some (-1)) (fun k=>by rw [slices_IndexFunc_int_int_solve_choices_fails_1.l0,if_neg (by omega)]) (Ev.now _),rfl⟩
  | d+1,i,h=>by
    have hi:i<rs.length:=by omega
    have hw:=qc i rs.length hi hl
    obtain ⟨q,hq,hq2⟩:=qbu rs hl hr m w hm d (i+1) (by omega)
    have h1:=hr _ (qs rs i hi)
    have hb:=(bits_nat .i64 62 (by decide) w62 (rd rs i).toNat m h1.2 hm).1
    rw [← qe h1.1] at hb
    have hf:solve_choices_fails_1_v1.f (rd rs i) (m:Int) (w:Int)=some ((rd rs i).toNat&&& m == w):=by
      unfold solve_choices_fails_1_v1.f
      rw [hb]
      congr 1
      rw [Bool.eq_iff_iff,beq_iff_eq,beq_iff_eq]
      omega
    rw [qi rs i hi,List.any_cons]
    by_cases e:((rd rs i).toNat&&& m == w)=true
    · rw [e] at hf ⊢
      exact ⟨i,Ev.step (fun k=>by rw [slices_IndexFunc_int_int_solve_choices_fails_1.l0,if_pos (by omega),if_pos (by omega),if_pos (by omega),hf];rfl) (Ev.now (i:Int)),by rw [Bool.true_or];exact decide_eq_true (by omega)⟩
    · rw [Bool.not_eq_true] at e
      rw [e] at hf ⊢
      exact ⟨q,Ev.step (fun k=>by rw [slices_IndexFunc_int_int_solve_choices_fails_1.l0,if_pos (by omega),if_pos (by omega),if_pos (by omega),hf,hw];rfl) hq,by rw [Bool.false_or];exact hq2⟩
theorem p62 {a n:Nat} (h:a<2 ^ n) (hn:n≤62):a<2 ^ 62:=Nat.lt_of_lt_of_le h (Nat.pow_le_pow_right (by decide) hn)
theorem qbY {t:S63} (h:VT t.f0 t.f1) (C V:Nat) (hC:C<2 ^ 24) (hV:V<2 ^ 24):Ev (fun k=>solve_choices_fails.f k (C:Int) (V:Int) t.f0 t.f1) (fl t C V):=by
  have hl:=h.len
  have hr:=h.rows_len
  refine Ev.bind (qbd _ _ h.vars' (by omega) C (p62 hC (by decide) |> fun _=>Nat.lt_of_lt_of_le hC (by decide))) (Ev.bind (qbd _ _ h.vars' (by omega) V (Nat.lt_of_lt_of_le hV (by decide))) ?_)
  obtain ⟨q,hq,hq2⟩:=qbu t.f1 (by omega) (fun r hr=>⟨(h.row_of hr).1,p62 (h.row_of hr).2.1 (by omega)⟩) (row t.f0 C) (row t.f0 V) (p62 (qH _ _) (by omega)) t.f1.length 0 (by omega)
  rw [List.drop_zero] at hq2
  refine Ev.bind (show Ev (fun k=>slices_ContainsFunc_int_int_solve_choices_fails_1.f k t.f1 ((row t.f0 C:Nat):Int) ((row t.f0 V:Nat):Int)) (decide (q≥0)) from Ev.bind hq (Ev.now _)) ?_
  rw [hq2]
  exact Ev.now _
def ffl (C V:Nat):List S63→Nat→Int
  | [],_=>-1
  | t :: ts,i=>if fl t C V=true then (i:Int) else ffl C V ts (i+1)
theorem qbe (C V:Nat):∀ (l:List S63) (i:Nat),0≤ffl C V l i↔(l.any fun t=>fl t C V)=true
  | [],i=>by simp [ffl]
  | t :: ts,i=>by
    have ih:=qbe C V ts (i+1)
    rw [ffl,List.any_cons]
    by_cases h:fl t C V=true
    · rw [if_pos h,h];simp
    · rw [if_neg h,ih];rw [Bool.not_eq_true] at h;rw [h,Bool.false_or]
theorem qai {l:List S63} (h:VS l) (C V:Nat) (hC:C<2 ^ 24) (hV:V<2 ^ 24):∀ (d i:Nat),i+d=l.length→Ev (fun k=>api_Table_solve_choices_fails.l0 k l l.length i (C:Int) (V:Int)) (ffl C V (l.drop i) i)
  | 0,i,hd=>by
    rw [List.drop_eq_nil_of_le (by omega)]
    exact Ev.step (f:=fun _=>some (-1)) (fun k=>by rw [api_Table_solve_choices_fails.l0,if_neg (by omega)]) (Ev.now _)
  | d+1,i,hd=>by
    have hi:i<l.length:=by omega
    have hl:=h.len
    have hw:=qc i l.length hi (by omega)
    have ih:=qai h C V hC hV d (i+1) (by omega)
    rw [qp l i hi,ffl]
    refine Ev.step (fun k=>by rw [api_Table_solve_choices_fails.l0,if_pos (by omega),if_pos (by omega),if_pos (by omega),hw]) (Ev.bind (qbY (h.tab _ (qj l i hi)) C V hC hV) ?_)
    exact qd (fun _=>Ev.now _) (fun _=>ih)
theorem qa0 {l:List S63} (h:VS l) (C V:Nat) (hC:C<2 ^ 24) (hV:V<2 ^ 24):Ev (fun k=>solve_choices_failing.f k (C:Int) (V:Int) l) (ffl C V l 0):=by
  have:=qai h C V hC hV l.length 0 (by omega)
  rw [List.drop_zero] at this
  exact Ev.bind this (Ev.now _)
def wC (C:Nat) (v:Int):Nat:=C||| 2 ^ v.toNat
def wV (V:Nat) (v:Int) (b:Bool):Nat:=(V&&& (V ^^^ 2 ^ v.toNat))||| b.toNat * 2 ^ v.toNat
theorem qbK {C:Nat} {v:Int} (h:C<2 ^ 24) (h0:0≤v) (h1:v<24):wC C v<2 ^ 24:=Nat.or_lt_two_pow h (Nat.pow_lt_pow_right (by decide) (by omega))
theorem qbL {V:Nat} {v:Int} (b:Bool) (h:V<2 ^ 24) (h0:0≤v) (h1:v<24):wV V v b<2 ^ 24:=by
  have hp:2 ^ v.toNat<2 ^ 24:=Nat.pow_lt_pow_right (by decide) (by omega)
  refine Nat.or_lt_two_pow (Nat.lt_of_le_of_lt Nat.and_le_left h) ?_
  cases b
  · simp
  · simpa using hp
theorem qa1 (C:Nat) (v:Int) (j:Nat):(wC C v).testBit j=(C.testBit j||v.toNat == j):=by
  unfold wC
  rw [Nat.testBit_or,Nat.testBit_two_pow]
  congr 1
theorem qaj (V:Nat) (v:Int) (b:Bool) (j:Nat):(wV V v b).testBit j=((V.testBit j&&!(v.toNat == j))||(b&&v.toNat == j)):=by
  unfold wV
  rw [Nat.testBit_or,Nat.testBit_and,Nat.testBit_xor,Nat.testBit_two_pow]
  have h1:(b.toNat * 2 ^ v.toNat).testBit j=(b&&v.toNat == j):=by
    cases b
    · simp
    · simp only [Bool.toNat_true,Nat.one_mul,Nat.testBit_two_pow,Bool.true_and]
      rfl
  rw [h1]
  congr 1
  have e:decide (v.toNat=j)=(v.toNat == j):=rfl
  rw [e]
  cases V.testBit j <;> cases (v.toNat == j) <;> rfl
theorem qax {C V:Nat} {v:Int} (b:Bool) (hC:C<2 ^ 24) (hV:V<2 ^ 24) (h0:0≤v) (h1:v<24):solve_choices_with.f (C:Int) (V:Int) v ((b.toNat:Nat):Int)=some (((wC C v:Nat):Int),((wV V v b:Nat):Int)):=by
  unfold solve_choices_with.f
  rw [if_pos h0]
  have hp:2 ^ v.toNat<2 ^ 24:=Nat.pow_lt_pow_right (by decide) (by omega)
  have e1:=qI v.toNat (by omega)
  rw [← qe h0] at e1
  have e2:shl .i64 ((b.toNat:Nat):Int) v=((b.toNat * 2 ^ v.toNat:Nat):Int):=by
    cases b
    · simp only [Bool.toNat_false,Nat.zero_mul]
      unfold shl
      rw [show ((0:Nat):Int)=0 from rfl,Int.zero_mul]
      rfl
    · simp only [Bool.toNat_true,Nat.one_mul]
      exact e1
  have hbp:b.toNat * 2 ^ v.toNat<2 ^ 24:=by
    cases b
    · simp
    · simpa using hp
  have k1:=(bits_nat .i64 62 (by decide) w62 C (2 ^ v.toNat) (p62 hC (by decide)) (p62 hp (by decide))).2
  have k2:=qaB V (2 ^ v.toNat) (p62 hV (by decide)) (p62 hp (by decide))
  have k3:=(bits_nat .i64 62 (by decide) w62 (V&&& (V ^^^ 2 ^ v.toNat)) (b.toNat * 2 ^ v.toNat) (p62 (Nat.lt_of_le_of_lt Nat.and_le_left hV) (by decide)) (p62 hbp (by decide))).2
  rw [e1,e2,k1,k2,k3]
  rfl
def qak (l:List S63):List Int→Nat→Nat→List Int
  | [],C,V=>if (l.any fun t=>fl t C V)=true then [] else [(V:Int)]
  | v :: us,C,V=>if (l.any fun t=>fl t C V)=true then [] else qak l us (wC C v) (wV V v false)++qak l us (wC C v) (wV V v true)
theorem qal {l:List S63} (h:VS l):∀ (us:List Int) (C V:Nat),C<2 ^ 24→V<2 ^ 24→us.length≤24→(∀ v,v∈us→0≤v∧v<24)→Ev (fun k=>solve_search.f k l us.reverse (C:Int) (V:Int)) (qak l us C V)
  | [],C,V,hC,hV,hl,hv=>by
    refine Ev.step (fun k=>by rw [solve_search.f]) (Ev.bind (qa0 h C V hC hV) ?_)
    have hn:=qbe C V l 0
    rw [qak]
    by_cases e:(l.any fun t=>fl t C V)=true
    · rw [if_pos e];exact qa (hn.2 e) (Ev.now _)
    · rw [if_neg e];exact qb (fun h2=>e (hn.1 h2)) (qa rfl (Ev.now _))
  | v :: us,C,V,hC,hV,hl,hv=>by
    refine Ev.step (fun k=>by rw [solve_search.f]) (Ev.bind (qa0 h C V hC hV) ?_)
    have hn:=qbe C V l 0
    have h1:=hv v List.mem_cons_self
    rw [List.length_cons] at hl
    rw [qak]
    by_cases e:(l.any fun t=>fl t C V)=true
    · rw [if_pos e];exact qa (hn.2 e) (Ev.now _)
    · rw [if_neg e]
      have hlen:((v :: us).reverse.length:Int)=(us.length:Int)+1:=by simp
      have hwr:wrap64 (((v :: us).reverse.length:Int) - 1)=(us.length:Int):=by rw [hlen,qh _ (by omega)];omega
      have hrd:rd (v :: us).reverse (us.length:Int)=v:=by
        unfold rd
        simp [List.getD]
      have htk:(v :: us).reverse.take ((us.length:Int)).toNat=us.reverse:=by
        rw [List.reverse_cons,Int.toNat_natCast,List.take_append_of_le_length (by simp),List.take_of_length_le (by simp)]
      have ih0:=qal h us (wC C v) (wV V v false) (qbK hC h1.1 h1.2) (qbL false hV h1.1 h1.2) (by omega) (fun x hx=>hv x (List.mem_cons_of_mem _ hx))
      have ih1:=qal h us (wC C v) (wV V v true) (qbK hC h1.1 h1.2) (qbL true hV h1.1 h1.2) (by omega) (fun x hx=>hv x (List.mem_cons_of_mem _ hx))
      have w0:=qax (v:=v) false hC hV h1.1 h1.2
      have w1:=qax (v:=v) true hC hV h1.1 h1.2
      refine qb (fun h2=>e (hn.1 h2)) (qb (by omega) ?_)
      rw [hwr,hrd,htk]
      refine qa (by omega) (qa (by omega) (qa (by omega) ?_))
      rw [show (0:Int)=((false.toNat:Nat):Int) from rfl,w0]
      refine Ev.bind (Ev.now _) (Ev.bind ih0 ?_)
      rw [show (1:Int)=((true.toNat:Nat):Int) from rfl,w1]
      exact Ev.bind (Ev.now _) (Ev.bind ih1 (Ev.now _))
theorem qdz {t:S63} (h:VT t.f0 t.f1) {C V:Nat} (hc:∀ w,w∈t.f0→C.testBit w.toNat=true):fl t C V=!hs t.f0 t.f1 V:=by
  unfold fl hs
  congr 1
  rw [Bool.eq_iff_iff,List.any_eq_true,decide_eq_true_eq]
  have key:∀ r:Nat,r<2 ^ t.f0.length→r&&& row t.f0 C=r:=by
    intro r hr
    apply Nat.eq_of_testBit_eq
    intro j
    rw [Nat.testBit_and]
    by_cases hj:j<t.f0.length
    · have:(row t.f0 C).testBit j=true:=(qo _ _ _).2 ⟨_,List.getElem?_eq_getElem hj,hc _ (List.getElem_mem hj)⟩
      rw [this,Bool.and_true]
    · rw [Nat.testBit_lt_two_pow (Nat.lt_of_lt_of_le hr (Nat.pow_le_pow_right (by decide) (by omega))),Bool.false_and]
  constructor
  · rintro ⟨r,hr,e⟩
    have hro:=h.row_of hr
    rw [key _ hro.2.1,beq_iff_eq] at e
    rw [← e,← qe hro.1];exact hr
  · intro hm
    exact ⟨_,hm,by rw [Int.toNat_natCast,key _ (qH _ _)];simp⟩
theorem qdb {t:S63} {C V a:Nat} (hf:fl t C V=true) (ha:∀ w,w∈t.f0→V.testBit w.toNat=(a.testBit w.toNat&&C.testBit w.toNat)):hs t.f0 t.f1 a=false:=by
  rw [Bool.eq_false_iff]
  intro hh
  unfold fl at hf
  rw [Bool.not_eq_true',List.any_eq_false] at hf
  have hm:((row t.f0 a:Nat):Int)∈t.f1:=by simpa [hs] using hh
  refine hf _ hm ?_
  rw [Int.toNat_natCast,beq_iff_eq]
  apply Nat.eq_of_testBit_eq
  intro j
  rw [Nat.testBit_and,Bool.eq_iff_iff,Bool.and_eq_true,qo,qo,qo]
  constructor
  · rintro ⟨⟨v,hv,h1⟩,u,hu,h2⟩
    rw [hv] at hu
    injection hu with hu
    subst hu
    exact ⟨v,hv,by rw [ha v (List.mem_of_getElem? hv),h1,h2];rfl⟩
  · rintro ⟨v,hv,h1⟩
    rw [ha v (List.mem_of_getElem? hv),Bool.and_eq_true] at h1
    exact ⟨⟨v,hv,h1.1⟩,v,hv,h1.2⟩
def sat (l:List S63) (a:Nat):Bool:=l.all fun t=>hs t.f0 t.f1 a
def sl (l:List S63) (us:List Int) (V:Nat):List Nat:=((List.range (2 ^ us.length)).map fun i=>asg us i||| V).filter (sat l)
theorem qaJ {hi:Int}:∀ {us ws:List Int} {p:Option Int},Chn hi p (us++ws)→Chn hi p us
  | [],_,_,_=>trivial
  | _ :: us,ws,_,⟨h0,h1,h2,h3⟩=>⟨h0,h1,h2,qaJ h3⟩
theorem qbZ {hi:Int} {us:List Int} {v:Int} (h:Chn hi none (us++[v])) (i:Nat) (V:Nat) :
    (i<2 ^ us.length→asg (us++[v]) i||| V=asg us i||| V)∧(i<2 ^ us.length→asg (us++[v]) (2 ^ us.length+i)||| V=asg us i||| (V||| 2 ^ v.toNat)):=by
  have hu:=qaJ h
  have gl:∀ (m:Nat) (w:Int),(us++[v])[m]?=some w↔us[m]?=some w∨(m=us.length∧w=v):=by
    intro m w
    by_cases hm:m<us.length
    · rw [List.getElem?_append_left hm]
      exact ⟨.inl,fun hh=>hh.elim id (fun ⟨e,_⟩=>by omega)⟩
    · rw [List.getElem?_append_right (by omega),List.getElem?_eq_none (by omega:us.length≤m)]
      by_cases e:m=us.length
      · subst e;simp [eq_comm]
      · rw [List.getElem?_eq_none (by simp;omega)];simp [e]
  have gb:∀ m,us[m]?≠none→m<us.length:=fun m hm=>by
    rcases Nat.lt_or_ge m us.length with h|h
    · exact h
    · exact absurd (List.getElem?_eq_none h) hm
  constructor
  · intro hi2
    apply Nat.eq_of_testBit_eq
    intro j
    rw [Nat.testBit_or,Nat.testBit_or]
    congr 1
    rw [Bool.eq_iff_iff,qr h,qr hu]
    constructor
    · rintro ⟨m,w,hm,rfl,hb⟩
      rcases (gl m w).1 hm with h1|⟨rfl,rfl⟩
      · exact ⟨m,w,h1,rfl,hb⟩
      · rw [Nat.testBit_lt_two_pow hi2] at hb;exact absurd hb (by simp)
    · rintro ⟨m,w,hm,rfl,hb⟩
      exact ⟨m,w,(gl m w).2 (.inl hm),rfl,hb⟩
  · intro hi2
    have hbit:∀ m,(2 ^ us.length+i).testBit m=(i.testBit m||m == us.length):=by
      intro m
      have:=qaw true i us.length hi2 m
      simp only [Bool.toNat_true,Nat.one_mul,Bool.true_and] at this
      rw [Nat.add_comm]
      exact this
    apply Nat.eq_of_testBit_eq
    intro j
    rw [Nat.testBit_or,Nat.testBit_or,Nat.testBit_or,Nat.testBit_two_pow]
    have e:(asg (us++[v]) (2 ^ us.length+i)).testBit j=((asg us i).testBit j||decide (v.toNat=j)):=by
      rw [Bool.eq_iff_iff,qr h,Bool.or_eq_true,qr hu,decide_eq_true_eq]
      constructor
      · rintro ⟨m,w,hm,rfl,hb⟩
        rcases (gl m w).1 hm with h1|⟨rfl,rfl⟩
        · rw [hbit] at hb
          have:=gb m (by rw [h1];simp)
          rw [show (m == us.length)=false from by simp;omega,Bool.or_false] at hb
          exact .inl ⟨m,w,h1,rfl,hb⟩
        · exact .inr rfl
      · rintro (⟨m,w,hm,rfl,hb⟩|rfl)
        · exact ⟨m,w,(gl m w).2 (.inl hm),rfl,by rw [hbit,hb,Bool.true_or]⟩
        · exact ⟨us.length,v,(gl _ _).2 (.inr ⟨rfl,rfl⟩),rfl,by rw [hbit];simp⟩
    rw [e]
    cases (asg us i).testBit j <;> cases V.testBit j <;> cases decide (v.toNat=j) <;> rfl
theorem qcw (l:List S63) {hi:Int} {us:List Int} {v:Int} (h:Chn hi none (us++[v])) (V:Nat):sl l (us++[v]) V=sl l us V++sl l us (V||| 2 ^ v.toNat):=by
  unfold sl
  rw [List.length_append,List.length_singleton,Nat.pow_succ,Nat.mul_two,List.range_add,List.map_append,List.filter_append,List.map_map]
  congr 1
  · congr 1
    exact List.map_congr_left (fun i hi2=>(qbZ h i V).1 (List.mem_range.1 hi2))
  · congr 1
    exact List.map_congr_left (fun i hi2=>(qbZ h i V).2 (List.mem_range.1 hi2))
theorem qJ (v:Int) (ws:List Int) (j:Nat):(ql (v :: ws) 0).testBit j=((ql ws 0).testBit j||v.toNat == j):=by
  rw [qA,qA,List.any_cons,Nat.zero_testBit,Bool.false_or,Bool.false_or,Bool.or_comm]
theorem qbf {l:List S63} (h:VS l):∀ (us ws:List Int) (V:Nat),occ l=us.reverse++ws→(∀ j,V.testBit j=true→(ql ws 0).testBit j=true)→qak l us (ql ws 0) V=(sl l us.reverse V).map fun a:Nat=>(a:Int)
  | [],ws,V,ho,hv=>by
    have hw:ws=occ l:=by simpa using ho.symm
    have e:(l.any fun t=>fl t (ql ws 0) V)=!sat l V:=by
      unfold sat
      rw [List.not_all_eq_any_not,Bool.eq_iff_iff,List.any_eq_true,List.any_eq_true]
      have hx:∀ t,t∈l→fl t (ql ws 0) V=!hs t.f0 t.f1 V:=fun t ht=>qdz (h.tab t ht) (fun w hw2=>by
        rw [qA,Nat.zero_testBit,Bool.false_or,List.any_eq_true]
        exact ⟨w,by rw [hw,h.occ.2];exact List.mem_flatMap.2 ⟨t,ht,hw2⟩,by simp⟩)
      exact ⟨fun ⟨t,ht,h2⟩=>⟨t,ht,by rw [← hx t ht];exact h2⟩,fun ⟨t,ht,h2⟩=>⟨t,ht,by rw [hx t ht];exact h2⟩⟩
    rw [qak,e]
    have hz:sl l [] V=if sat l V=true then [V] else []:=by
      unfold sl
      have:asg [] 0=0:=rfl
      simp only [List.length_nil,Nat.pow_zero,List.range_one,List.map_cons,List.map_nil,this,Nat.zero_or,List.filter_cons,List.filter_nil]
    rw [List.reverse_nil,hz]
    cases sat l V <;> simp
  | v :: us,ws,V,ho,hv=>by
    have ho2:occ l=us.reverse++(v :: ws):=by rw [ho];simp
    have hc:=h.occ.1
    rw [ho] at hc
    have hch:=qaJ hc
    rw [List.reverse_cons] at hch
    rw [qak]
    have hvb:V.testBit v.toNat=false:=by
      rw [Bool.eq_false_iff]
      intro hb
      have hm:=hv _ hb
      rw [qA,Nat.zero_testBit,Bool.false_or,List.any_eq_true] at hm
      obtain ⟨w,hw,e⟩:=hm
      have hw2:w.toNat=v.toNat:=by simpa using e
      have hall:=h.occ.1
      rw [ho2] at hall
      obtain ⟨m,hm⟩:=List.getElem?_of_mem hw
      have i1:(us.reverse++(v :: ws))[us.reverse.length]?=some v:=by rw [List.getElem?_append_right (by omega)];simp
      have i2:(us.reverse++(v :: ws))[us.reverse.length+(m+1)]?=some w:=by rw [List.getElem?_append_right (by omega)];simpa using hm
      have:=hall.inj _ _ _ _ i1 i2 hw2.symm
      omega
    have eC:wC (ql ws 0) v=ql (v :: ws) 0:=by
      apply Nat.eq_of_testBit_eq
      intro j
      rw [qa1,qJ]
    have e0:wV V v false=V:=by
      apply Nat.eq_of_testBit_eq
      intro j
      rw [qaj,Bool.false_and,Bool.or_false]
      by_cases e:v.toNat=j
      · subst e;rw [hvb,Bool.false_and]
      · have:(v.toNat == j)=false:=by simpa using e
        rw [this];simp
    have e1:wV V v true=V||| 2 ^ v.toNat:=by
      apply Nat.eq_of_testBit_eq
      intro j
      rw [qaj,Bool.true_and,Nat.testBit_or,Nat.testBit_two_pow]
      have e:decide (v.toNat=j)=(v.toNat == j):=rfl
      rw [e]
      cases V.testBit j <;> cases (v.toNat == j) <;> rfl
    have ih0:=qbf h us (v :: ws) V ho2 (fun j hj=>by rw [qJ,hv j hj,Bool.true_or])
    have ih1:=qbf h us (v :: ws) (V||| 2 ^ v.toNat) ho2 (fun j hj=>by
      rw [qJ]
      rw [Nat.testBit_or,Nat.testBit_two_pow,Bool.or_eq_true] at hj
      rcases hj with hj|hj
      · rw [hv j hj,Bool.true_or]
      · have e:(v.toNat == j)=true:=hj
        rw [e,Bool.or_true])
    rw [List.reverse_cons,qcw l hch,List.map_append,eC,e0,e1,ih0,ih1]
    by_cases e:(l.any fun t=>fl t (ql ws 0) V)=true
    · rw [if_pos e,← List.map_append,← qcw l hch]
      obtain ⟨t,ht,hf⟩:=List.any_eq_true.1 e
      have hnil:sl l (us.reverse++[v]) V=[]:=by
        unfold sl
        rw [List.filter_eq_nil_iff]
        intro a ha
        obtain ⟨i,hi2,rfl⟩:=List.mem_map.1 ha
        have:hs t.f0 t.f1 (asg (us.reverse++[v]) i||| V)=false:=by
          refine qdb hf (fun w hw=>?_)
          rw [Nat.testBit_or]
          by_cases hm:(ql ws 0).testBit w.toNat=true
          · rw [hm,Bool.and_true]
            have:(asg (us.reverse++[v]) i).testBit w.toNat=false:=by
              rw [Bool.eq_false_iff]
              intro hb
              obtain ⟨m,u,hu,eu,_⟩:=(qr hch i _).1 hb
              rw [qA,Nat.zero_testBit,Bool.false_or,List.any_eq_true] at hm
              obtain ⟨x,hx,ex⟩:=hm
              have ex2:x.toNat=w.toNat:=by simpa using ex
              obtain ⟨n,hn⟩:=List.getElem?_of_mem hx
              have hml:m<(us.reverse++[v]).length:=(List.getElem?_eq_some_iff.1 hu).1
              have hall:=h.occ.1
              rw [ho,List.reverse_cons] at hall
              have i1:((us.reverse++[v])++ws)[m]?=some u:=by rw [List.getElem?_append_left hml];exact hu
              have i2:((us.reverse++[v])++ws)[(us.reverse++[v]).length+n]?=some x:=by rw [List.getElem?_append_right (by omega)];simpa using hn
              have:=hall.inj _ _ _ _ i1 i2 (by omega)
              omega
            rw [this,Bool.false_or]
          · rw [Bool.not_eq_true] at hm
            have hvf:V.testBit w.toNat=false:=by
              rw [Bool.eq_false_iff]
              intro hb
              rw [hv _ hb] at hm
              exact absurd hm (by simp)
            rw [hm,Bool.and_false,hvf]
        unfold sat
        rw [Bool.not_eq_true,List.all_eq_false]
        exact ⟨t,ht,by rw [this];simp⟩
      rw [hnil];rfl
    · rw [if_neg e]
def SS (l:List S63):List Int:=(sl l (occ l) 0).map fun a:Nat=>(a:Int)
theorem qb0 {l:List S63} (h:VS l):Ev (fun k=>solve_search.f k l (occ l) 0 0) (SS l):=by
  have h1:=qal h (occ l).reverse 0 0 (by decide) (by decide) (by rw [List.length_reverse];exact h.occ_len) (fun v hv=>h.occ' v (List.mem_reverse.1 hv))
  rw [List.reverse_reverse] at h1
  refine qf h1 ?_
  have:=qbf h (occ l).reverse [] 0 (by simp) (fun j hj=>by simp at hj)
  rw [List.reverse_reverse] at this
  exact this

def solve_All.of (s:List Int):List Int×Int:=if s.length≤1000 then (s,0) else ([],3)

def qm (l:List S63):Int×Int:=if qn l=0 then solve_First.of (SS l) else (0,qn l)
theorem qw (l:List S63) (hs:Sm l) (hl:l.length≤1000):Ev (fun k=>solve_First.f k l) (qm l):=
  Ev.bind (qv l hs hl) (qd (fun h=>Ev.bind (qaU l hs hl) (Ev.bind (qb0 ((qg l).1 h)) (Ev.now _))) (fun _=>Ev.now _))
theorem qaC (l:List Int) (hl:(l.length:Int)≤9223372036854775807):∀ (d i:Nat),i+d=l.length→Ev (fun k=>slices_Equal_int_int.l0 k l l l.length i) true
  | 0,i,h=>Ev.step (f:=fun _=>some true) (fun k=>by rw [slices_Equal_int_int.l0,if_neg (by omega)]) (Ev.now _)
  | d+1,i,h=>by
    have hw:=qc i l.length (by omega) hl
    exact Ev.step (fun k=>by rw [slices_Equal_int_int.l0,if_pos (by omega),if_pos (by omega),if_pos (by omega),if_pos (by omega),if_pos rfl,hw]) (qaC l hl d (i+1) (by omega))
theorem qcT (l:List Int) (hl:(l.length:Int)≤9223372036854775807):Ev (fun k=>slices_Equal_int_int.f k l l) true:=qa rfl (qaC l hl l.length 0 (by omega))

inductive Tr where
  | leaf (t:Int)
  | node (v:Int) (a b:Tr)
namespace Tr
def sz:Tr→Nat
  | leaf _=>1
  | node _ a b=>1+a.sz+b.sz
def nod:Tr→Nat→List S103
  | leaf t,_=>[⟨-1,0,0,t⟩]
  | node v a b,p=>⟨v,((p+1:Nat):Int),((p+1+a.sz:Nat):Int),0⟩ :: (a.nod (p+1)++b.nod (p+1+a.sz))
theorem sz_pos:∀ T:Tr,1≤T.sz
  | leaf _=>Nat.le_refl _
  | node _ a b=>by simp only [sz];omega
theorem nod_len:∀ (T:Tr) (p:Nat),(T.nod p).length=T.sz
  | leaf _,_=>rfl
  | node _ a b,p=>by simp only [nod,sz,List.length_cons,List.length_append,nod_len a,nod_len b];omega
end Tr
def Free (C V:Nat) (vs:List Int):Prop:=(∀ j,V.testBit j=true→C.testBit j=true)∧∀ v,v∈vs→C.testBit v.toNat=false
theorem Free.step {C V:Nat} {v:Int} {vs:List Int} {hi:Int} {p:Option Int} (h:Free C V (v :: vs)) (hc:Chn hi p (v :: vs)) (h0:∀ w,w∈v :: vs→0≤w) (b:Bool):Free (wC C v) (wV V v b) vs:=by
  refine ⟨fun j hj=>?_,fun w hw=>?_⟩
  · rw [qaj] at hj
    rw [qa1]
    by_cases e:v.toNat=j
    · simp [e]
    · simp [e] at hj
      rw [h.1 j hj];rfl
  · have hlt:v<w:=by
      obtain ⟨i,hi',e⟩:=List.getElem_of_mem hw
      exact hc.below 0 (i+1) v w (by omega) rfl (by simp [List.getElem?_eq_getElem hi',e])
    have h1:=h0 v (.head _)
    rw [qa1,h.2 w (.tail _ hw)]
    simp;omega
theorem qd7 {C V:Nat} {v:Int} {vs:List Int} (h:Free C V (v :: vs)) (b:Bool):wV V v b=V||| b.toNat * 2 ^ v.toNat:=by
  apply Nat.eq_of_testBit_eq
  intro j
  have hv:V.testBit v.toNat=false:=by
    cases e:V.testBit v.toNat
    · rfl
    · exact absurd (h.2 v (.head _)) (by rw [h.1 _ e];decide)
  have e2:(b.toNat * 2 ^ v.toNat).testBit j=(b&&v.toNat == j):=by
    cases b
    · simp
    · rw [Bool.eq_iff_iff];simp [Nat.testBit_two_pow]
  rw [qaj,Nat.testBit_or,e2]
  by_cases e:v.toNat=j
  · subst e;simp [hv]
  · rw [show (v.toNat == j)=false by simpa using e];simp
theorem qG {t:S63} (h:VT t.f0 t.f1) {C V:Nat} (hC:C<2 ^ 24) (hV:V<2 ^ 24) (x5:Int) (a:Nat) (ha:a<2 ^ 24) (r:Bool):∀ (d i:Nat) (b:Bool),i+d=t.f0.length→
    ((b&&(t.f0.drop i).all fun v=>!C.testBit v.toNat||a.testBit v.toNat == V.testBit v.toNat)=true→r=false)→
    ((b&&(t.f0.drop i).all fun v=>!C.testBit v.toNat||a.testBit v.toNat == V.testBit v.toNat)=false→Ev (fun k=>ancepsref40_fails.l0 k (wrap64 (x5+1)) t.f0 t.f1 (C:Int) (V:Int)) r)→
    Ev (fun k=>ancepsref40_fails.l1 k x5 (a:Int) b i t.f0 t.f1 (C:Int) (V:Int)) r
  | 0,i,b,hi,h1,h2=>by
    rw [List.drop_eq_nil_of_le (by omega)] at h1 h2
    refine Ev.step (fun k=>by rw [ancepsref40_fails.l1,if_neg (by omega)]) ?_
    cases b
    · exact qb (by decide) (h2 rfl)
    · refine qa rfl ?_
      rw [h1 rfl]
      exact Ev.now _
  | d+1,i,b,hi,h1,h2=>by
    have hl:=h.len
    have hi':i<t.f0.length:=by omega
    have hv:=h.vars' _ (qs t.f0 i hi')
    have hw:=qc i t.f0.length hi' (by omega)
    have hs:shl .i64 1 (rd t.f0 i)=((2 ^ (rd t.f0 i).toNat:Nat):Int):=by
      have:=qI (rd t.f0 i).toNat (by omega)
      rw [← qe hv.1] at this
      exact this
    have hp:2 ^ (rd t.f0 i).toNat<2 ^ 62:=Nat.pow_lt_pow_right (by decide) (by omega)
    have ba:=fun x (hx:x<2 ^ 24)=>(bits_nat .i64 62 (by decide) w62 x (2 ^ (rd t.f0 i).toNat) (p62 hx (by decide)) hp).1
    have hb:∀ x y:Nat,(x&&& 2 ^ (rd t.f0 i).toNat=y&&& 2 ^ (rd t.f0 i).toNat)↔x.testBit (rd t.f0 i).toNat=y.testBit (rd t.f0 i).toNat:=fun x y=>by
      constructor
      · intro e
        have:=congrArg (fun z=>z.testBit (rd t.f0 i).toNat) e
        simpa [Nat.testBit_and,Nat.testBit_two_pow] using this
      · intro e
        apply Nat.eq_of_testBit_eq
        intro j
        rw [Nat.testBit_and,Nat.testBit_and,Nat.testBit_two_pow]
        by_cases e':(rd t.f0 i).toNat=j
        · rw [← e',e]
        · simp [e']
    rw [qi t.f0 i hi',List.all_cons] at h1 h2
    refine Ev.step (fun k=>by rw [ancepsref40_fails.l1,if_pos (by omega)]) ?_
    refine qa (by omega) ?_
    refine qa hv.1 ?_
    rw [hs,ba C hC,ba a ha,ba V hV,hw]
    cases b
    · refine qb (by decide) ?_
      exact qG h hC hV x5 a ha r d (i+1) false (by omega) (fun e=>by simp at e) (fun _=>h2 rfl)
    · refine qa rfl ?_
      have hc:=hb C 0
      rw [Nat.zero_and,Nat.zero_testBit] at hc
      by_cases e:C.testBit (rd t.f0 i).toNat=true
      · refine qb (fun e'=>by have:=hc.1 (by omega);rw [e] at this;cases this) ?_
        have hav:=hb a V
        refine qf (qG h hC hV x5 a ha r d (i+1) _ (by omega) (fun e2=>h1 ?_) (fun e2=>h2 ?_)) rfl
        · refine Eq.trans ?_ e2;rw [e,Bool.not_true,Bool.false_or,Bool.true_and];congr 1;rw [Bool.eq_iff_iff,beq_iff_eq,beq_iff_eq,← hav];omega
        · refine Eq.trans ?_ e2;rw [e,Bool.not_true,Bool.false_or,Bool.true_and];congr 1;rw [Bool.eq_iff_iff,beq_iff_eq,beq_iff_eq,← hav];omega
      · rw [Bool.not_eq_true] at e
        refine qa (by have:=hc.2 e;omega) ?_
        rw [e] at h1 h2
        exact qG h hC hV x5 a ha r d (i+1) true (by omega) (fun e2=>h1 (by simpa using e2)) (fun e2=>h2 (by simpa using e2))
theorem qdT {t:S63} (h:VT t.f0 t.f1) {C V:Nat} (hs:∀ j,V.testBit j=true→C.testBit j=true) {x:Int} (hx:x∈t.f1):(x.toNat&&& row t.f0 C == row t.f0 V)=t.f0.all fun v=>!C.testBit v.toNat||(asg t.f0 x.toNat).testBit v.toNat == V.testBit v.toNat:=by
  have hx':=h.row_of hx
  rw [Bool.eq_iff_iff,beq_iff_eq,List.all_eq_true]
  have key:∀ m v,t.f0[m]?=some v→((x.toNat&&& row t.f0 C).testBit m=(row t.f0 V).testBit m↔(!C.testBit v.toNat||(asg t.f0 x.toNat).testBit v.toNat == V.testBit v.toNat)=true):=fun m v hm=>by
    have r1:∀ y:Nat,(row t.f0 y).testBit m=y.testBit v.toNat:=fun y=>by
      rw [Bool.eq_iff_iff,qo]
      constructor
      · rintro ⟨w,hw,hb⟩
        rw [hm] at hw;cases hw;exact hb
      · exact fun hb=>⟨v,hm,hb⟩
    have r2:(asg t.f0 x.toNat).testBit v.toNat=x.toNat.testBit m:=by
      rw [Bool.eq_iff_iff,qr h.vars]
      constructor
      · rintro ⟨m',v',hm',e,hb⟩
        have:=h.vars.inj m m' v v' hm hm' e
        subst this;exact hb
      · exact fun hb=>⟨m,v,hm,rfl,hb⟩
    rw [Nat.testBit_and,r1,r1,r2]
    have:=hs v.toNat
    revert this
    cases C.testBit v.toNat <;> cases V.testBit v.toNat <;> cases x.toNat.testBit m <;> simp
  constructor
  · intro e v hv
    obtain ⟨m,hm,e'⟩:=List.getElem_of_mem hv
    exact (key m v (by rw [List.getElem?_eq_getElem hm,e'])).1 (by rw [e])
  · intro ha
    apply Nat.eq_of_testBit_eq
    intro m
    by_cases hm:m<t.f0.length
    · exact (key m _ (List.getElem?_eq_getElem hm)).2 (ha _ (List.getElem_mem hm))
    · have r:∀ y:Nat,(row t.f0 y).testBit m=false:=fun y=>Nat.testBit_lt_two_pow (Nat.lt_of_lt_of_le (qH _ _) (Nat.pow_le_pow_right (by decide) (by omega)))
      rw [Nat.testBit_and,r,r,Bool.and_false]
theorem qaD {t:S63} (h:VT t.f0 t.f1) {C V:Nat} (hC:C<2 ^ 24) (hV:V<2 ^ 24) (hs:∀ j,V.testBit j=true→C.testBit j=true):∀ (d i:Nat),i+d=t.f1.length→
    Ev (fun k=>ancepsref40_fails.l0 k i t.f0 t.f1 (C:Int) (V:Int)) (!((t.f1.drop i).any fun r=>r.toNat&&& row t.f0 C == row t.f0 V))
  | 0,i,hi=>by
    rw [List.drop_eq_nil_of_le (by omega)]
    refine Ev.step (fun k=>by rw [ancepsref40_fails.l0,if_neg (by omega)]) ?_
    exact Ev.now _
  | d+1,i,hi=>by
    have hr:=h.rows_len
    have hl:=h.len
    have hi':i<t.f1.length:=by omega
    have hx:=qs t.f1 i hi'
    have hw:=qc i t.f1.length hi' (by omega)
    have ih:=qaD h hC hV hs d (i+1) (by omega)
    refine Ev.step (fun k=>by rw [ancepsref40_fails.l0,if_pos (by omega)]) ?_
    refine qa (by omega) ?_
    have ea:=qW h.vars (by omega) (rd t.f1 i).toNat
    rw [← qe (h.row_of hx).1] at ea
    refine Ev.bind ea ?_
    rw [qi t.f1 i hi',List.any_cons,qdT h hs hx]
    refine qG h hC hV i _ (qcQ h.vars _) _ t.f0.length 0 true (by omega) (fun e=>?_) (fun e=>?_)
    · rw [List.drop_zero,Bool.true_and] at e
      rw [e,Bool.true_or,Bool.not_true]
    · rw [List.drop_zero,Bool.true_and] at e
      rw [e,Bool.false_or,hw]
      exact ih
theorem qcU {t:S63} (h:VT t.f0 t.f1) {C V:Nat} (hC:C<2 ^ 24) (hV:V<2 ^ 24) (hs:∀ j,V.testBit j=true→C.testBit j=true):Ev (fun k=>ancepsref40_fails.f k t.f0 t.f1 (C:Int) (V:Int)) (fl t C V):=
  qaD h hC hV hs t.f1.length 0 (by omega)

theorem qdc {C V:Nat} {v:Int} {vs:List Int} (b:Bool) (hC:C<2 ^ 24) (hV:V<2 ^ 24) (h:0≤v∧v<24) (hf:Free C V (v :: vs)):Ev (fun _=>ancepsref40_choices_with.f (C:Int) (V:Int) (rd (v :: vs) 0) ((b.toNat:Nat):Int)) (((wC C v:Nat):Int),((wV V v b:Nat):Int)):=by
  have e:=qax b hC hV h.1 h.2
  rw [show rd (v :: vs) 0=v from rfl]
  have hs:shl .i64 1 v=((2 ^ v.toNat:Nat):Int):=by
    have:=qI v.toNat (by omega)
    rw [← qe h.1] at this
    exact this
  have hp:2 ^ v.toNat<2 ^ 62:=Nat.pow_lt_pow_right (by decide) (by omega)
  have hb:shl .i64 ((b.toNat:Nat):Int) v=((b.toNat * 2 ^ v.toNat:Nat):Int):=by
    cases b
    · show shl .i64 0 v=_
      have hz:shl .i64 0 v=0:=by
        have:v=((v.toNat:Nat):Int):=qe h.1
        rw [this]
        simp [shl];rfl
      rw [hz];simp
    · rw [Bool.toNat_true,Nat.one_mul];exact hs
  have hp2:b.toNat * 2 ^ v.toNat<2 ^ 62:=by
    cases b
    · simp
    · simpa using hp
  unfold ancepsref40_choices_with.f
  rw [if_pos h.1,hs,hb,(bits_nat .i64 62 (by decide) w62 C _ (p62 hC (by decide)) hp).2,(bits_nat .i64 62 (by decide) w62 V _ (p62 hV (by decide)) hp2).2,qd7 hf b]
  exact Ev.now _
theorem qbv {l:List S63} (h:VS l) (most:Int) (vars out:List Int) (i a:Nat) (hi:i<16777216) (ho:out.length<17592186044416) (r:List Int):∀ (d j:Nat),j+d=l.length→
    (sat (l.drop j) a=true→Ev (fun k=>ancepsref40_solutions.l0 k l most vars (out++[(a:Int)]) ((i+1:Nat):Int)) r)→(sat (l.drop j) a=false→Ev (fun k=>ancepsref40_solutions.l0 k l most vars out ((i+1:Nat):Int)) r)→
    Ev (fun k=>ancepsref40_solutions.l1 k l most vars out i (a:Int) true j) r
  | 0,j,hd,h1,h2=>by
    rw [List.drop_eq_nil_of_le (by omega)] at h1
    have hw:wrap64 ((i:Int)+1)=((i+1:Nat):Int):=by rw [qh _ (by omega)];omega
    exact Ev.step (fun k=>by rw [ancepsref40_solutions.l1,if_neg (by omega),if_pos rfl,if_pos ho,hw]) (h1 rfl)
  | d+1,j,hd,h1,h2=>by
    have hj:j<l.length:=by omega
    have hl:=h.len
    have hw:wrap64 ((i:Int)+1)=((i+1:Nat):Int):=by rw [qh _ (by omega)];omega
    have hwj:=qc j l.length hj (by omega)
    have hm:=h.tab _ (qj l j hj)
    have e:sat (l.drop j) a=(hs (rd_T63 l j).f0 (rd_T63 l j).f1 a&&sat (l.drop (j+1)) a):=by
      unfold sat
      rw [qp l j hj,List.all_cons]
    rw [e] at h1 h2
    refine Ev.step (fun k=>by rw [ancepsref40_solutions.l1,if_pos (by omega),if_pos rfl,if_pos (by omega),hwj]) (Ev.bind (qbV hm a) ?_)
    cases c:hs (rd_T63 l j).f0 (rd_T63 l j).f1 a
    · rw [c] at h2
      have h2:=h2 rfl
      by_cases hj2:((j+1:Nat):Int)<(l.length:Int)
      · exact Ev.step (fun k=>by rw [ancepsref40_solutions.l1,if_pos hj2,if_neg Bool.false_ne_true,hw]) h2
      · exact Ev.step (fun k=>by rw [ancepsref40_solutions.l1,if_neg hj2,if_neg Bool.false_ne_true,hw]) h2
    · rw [c,Bool.true_and] at h1 h2
      exact qbv h most vars out i a hi ho r d (j+1) (by omega) h1 h2
theorem qam {l:List S63} (h:VS l) {vars:List Int} (hc:Chn 24 none vars) (hv:vars.length≤24) (most:Nat) (hm:most≤40000000):∀ (d i:Nat) (out:List Int),i+d=2 ^ vars.length→out.length≤i→out.length≤most→
    Ev (fun k=>ancepsref40_solutions.l0 k l (most:Int) vars out i) ((out++(((List.range' i d).map fun i=>asg vars i).filter (sat l)).map fun a:Nat=>(a:Int)).take most)
  | 0,i,out,hd,ho,hom=>by
    have hs1:=qI vars.length (by omega)
    have hp:2 ^ vars.length≤16777216:=Nat.le_trans (Nat.pow_le_pow_right (by decide) hv) (by decide)
    rw [show List.range' i 0=[] from rfl,List.map_nil,List.filter_nil,List.map_nil,List.append_nil,List.take_of_length_le hom]
    exact Ev.step (f:=fun _=>some out) (fun k=>by rw [ancepsref40_solutions.l0,hs1,if_neg (by omega)]) (Ev.now _)
  | d+1,i,out,hd,ho,hom=>by
    have hs1:=qI vars.length (by omega)
    have hp:2 ^ vars.length≤16777216:=Nat.le_trans (Nat.pow_le_pow_right (by decide) hv) (by decide)
    by_cases hlt:(out.length:Int)<(most:Int)
    · refine Ev.step (fun k=>by rw [ancepsref40_solutions.l0,hs1,if_pos (by omega),if_pos hlt]) (Ev.bind (qW hc hv i) ?_)
      rw [List.range'_succ,List.map_cons,List.filter_cons]
      refine qbv h _ vars out i (asg vars i) (by omega) (by omega) _ l.length 0 (by omega) (fun e=>?_) (fun e=>?_)
      · rw [List.drop_zero] at e
        have ih:=qam h hc hv most hm d (i+1) (out++[((asg vars i:Nat):Int)]) (by omega) (by simp;omega) (by simp;omega)
        rw [if_pos e,List.map_cons]
        rw [List.append_assoc,List.singleton_append] at ih
        exact ih
      · rw [List.drop_zero] at e
        have ih:=qam h hc hv most hm d (i+1) out (by omega) (by omega) hom
        rw [if_neg (by rw [e];simp)]
        exact ih
    · refine qf (Ev.step (f:=fun _=>some out) (fun k=>by rw [ancepsref40_solutions.l0,hs1,if_pos (by omega),if_neg hlt]) (Ev.now _)) ?_
      rw [List.take_append_of_le_length (by omega),List.take_of_length_le (by omega)]
theorem qdA {l:List S63} (h:VS l) (hs:Sm l) (most:Nat) (hm:most≤40000000):Ev (fun k=>ancepsref40_solutions.f k l (most:Int)) ((SS l).take most):=by
  refine Ev.bind (q7 h hs) ?_
  have:=qam h h.occ.1 h.occ_len most hm (2 ^ (occ l).length) 0 [] (by omega) (by simp) (by simp)
  rw [List.nil_append,← List.range_eq_range'] at this
  refine qf this ?_
  unfold SS sl
  simp only [Nat.or_zero]

theorem qcV (l:List S63) (hs:Sm l) (hl:l.length≤1000):Ev (fun k=>ancepsref40_First.f k l) (qm l):=by
  refine Ev.bind (qk l hs hl) (qd (fun h=>Ev.bind (show Ev (fun k=>ancepsref40_solutions.f k l 1) ((SS l).take 1) from qdA ((qg l).1 h) hs 1 (by decide)) ?_) (fun _=>Ev.now _))
  cases SS l with
  | nil=>exact qa rfl (Ev.now _)
  | cons x xs=>exact qb (by simp) (qa (by simp) (Ev.now _))
def vrs (l:List S63):List Int:=if qn l=0 then occ l else []
theorem qS (l:List S63) (hs:Sm l) (hl:l.length≤1000):Ev (fun k=>solve_Vars.f k l) (vrs l):=
  Ev.bind (qv l hs hl) (qd (fun _=>Ev.bind (qaU l hs hl) (Ev.now _)) (fun _=>Ev.now _))
theorem qcW (l:List S63) (hs:Sm l) (hl:l.length≤1000):Ev (fun k=>ancepsref40_Vars.f k l) (vrs l):=by
  unfold vrs
  by_cases h:qn l=0
  · rw [if_pos h];exact q7 ((qg l).1 h) hs
  · rw [if_neg h];exact Ev.bind (qk l hs hl) (qb h (Ev.now _))
theorem qcx (l:List S63):(vrs l).length≤1000:=by
  unfold vrs
  split
  · rename_i h;have:=((qg l).1 h).occ_len;omega
  · simp
def lf (L:Nat) (b:S103):Bool:=decide (b.f1=0)&&decide (b.f2=0)&&decide (0≤b.f3)&&decide (b.f3<(L:Int))
def nd (b:S103):Bool:=decide (0≤b.f0)&&decide (b.f0<24)&&decide (b.f3=0)
def mrk (n i:Nat):List Int→List Bool→Option (List Bool)
  | [],M=>some M
  | k :: ks,M=>if (i:Int)<k∧k<(n:Int)∧rdOf false M k=false then mrk n i ks (M.set k.toNat true) else none
def shp (L n:Nat):List S103→Nat→List Bool→Option (List Bool)
  | [],_,M=>some M
  | b :: bs,i,M=>if b.f0=-1 then (if lf L b=true then shp L n bs (i+1) M else none) else if nd b=true then (mrk n i [b.f1,b.f2] M).bind (shp L n bs (i+1)) else none
theorem qbg (n i:Nat):∀ (ks:List Int) (M M':List Bool),mrk n i ks M=some M'→M'.length=M.length
  | [],M,M',h=>by simp only [mrk,Option.some.injEq] at h;rw [h]
  | k :: ks,M,M',h=>by
    rw [mrk] at h
    split at h
    · rw [qbg n i ks _ M' h,List.length_set]
    · cases h
def fin:Option (List Bool)→Bool
  | none=>false
  | some M=>(M.drop 1).all id
theorem qan (l:List S103) (i:Nat) (hi:i<l.length):l.drop i=rd_T103 l i :: l.drop (i+1):=qB l i z103 hi
theorem qbw (M:List Bool) (hl:(M.length:Int)≤9223372036854775807):∀ (d i:Nat),i+d=M.length→∃ q:Int,Ev (fun k=>slices_Index_bool_bool.l0 k M false M.length i) q∧decide (q≥0)=!(M.drop i).all id
  | 0,i,h=>by
    refine ⟨-1,?_,by rw [List.drop_eq_nil_of_le (by omega)];rfl⟩
    refine Ev.step (fun k=>by rw [slices_Index_bool_bool.l0,if_neg (by omega)]) ?_
    exact Ev.now _
  | d+1,i,h=>by
    have hi:i<M.length:=by omega
    have hw:=qc i M.length hi hl
    obtain ⟨q,hq,hq2⟩:=qbw M hl d (i+1) (by omega)
    have hd:M.drop i=rdOf false M (i:Int) :: M.drop (i+1):=qB M i false hi
    rw [hd,List.all_cons]
    cases e:rdOf false M (i:Int)
    · refine ⟨i,?_,by simp⟩
      refine Ev.step (fun k=>by rw [slices_Index_bool_bool.l0,if_pos (by omega),if_pos (by omega),if_pos (by omega),e]) ?_
      refine qa rfl ?_
      exact Ev.now _
    · refine ⟨q,?_,by rw [hq2];simp⟩
      refine Ev.step (fun k=>by rw [slices_Index_bool_bool.l0,if_pos (by omega),if_pos (by omega),if_pos (by omega),e,hw]) ?_
      refine qb (by decide) ?_
      exact hq
theorem qa2 (l:List S63) (N:List S103) (hn:N.length≤2000) (i:Nat) (ks:List Int) (hk:ks.length≤2) (R:List Bool→Bool)
    (hR:∀ M,M.length=N.length→Ev (fun k=>solve_shape.l0 k l N.length M N N.length (wrap64 ((i:Int)+1))) (R M)) :
    ∀ (d j:Nat) (M:List Bool),j+d=ks.length→M.length=N.length→
    Ev (fun k=>solve_shape.l1 k l N.length M i N N.length i ks ks.length j) (match mrk N.length i (ks.drop j) M with|none=>false|some M'=>R M')
  | 0,j,M,h,hM=>by
    rw [List.drop_eq_nil_of_le (by omega)]
    refine Ev.step (fun k=>by rw [solve_shape.l1,if_neg (by omega)]) ?_
    exact hR M hM
  | d+1,j,M,h,hM=>by
    have hj:j<ks.length:=by omega
    have hw:=qc j ks.length hj (by omega)
    rw [qi ks j hj,mrk]
    refine Ev.step (fun k=>by rw [solve_shape.l1,if_pos (by omega),if_pos (by omega),if_pos (by omega)]) ?_
    by_cases h1:rd ks j≤(i:Int)
    · rw [if_neg (by omega)]
      refine qa h1 ?_
      exact Ev.now _
    refine qb h1 ?_
    by_cases h2:rd ks j≥(N.length:Int)
    · rw [if_neg (by omega)]
      refine qa h2 ?_
      exact Ev.now _
    refine qb h2 ?_
    refine qa (by omega) ?_
    refine qa (by omega) ?_
    cases h3:rdOf false M (rd ks j)
    · rw [if_pos ⟨by omega,by omega,rfl⟩]
      refine qb (by decide) ?_
      rw [hw]
      exact qa2 l N hn i ks hk R hR d (j+1) _ (by omega) (by rw [List.length_set];exact hM)
    · rw [if_neg (by rintro ⟨_,_,h⟩;cases h)]
      refine qa rfl ?_
      exact Ev.now _
theorem qa3 (l:List S63) (hL:l.length≤1000) (N:List S103) (hn:N.length≤2000) (h0:1≤N.length):∀ (d i:Nat) (M:List Bool),i+d=N.length→M.length=N.length→
    Ev (fun k=>solve_shape.l0 k l N.length M N N.length i) (fin (shp l.length N.length (N.drop i) i M))
  | 0,i,M,h,hM=>by
    rw [List.drop_eq_nil_of_le (by omega)]
    refine Ev.step (fun k=>by rw [solve_shape.l0,if_neg (by omega)]) ?_
    refine qa (by omega) ?_
    obtain ⟨q,hq,hq2⟩:=qbw (M.drop 1) (by rw [List.length_drop];omega) (M.drop 1).length 0 (by omega)
    refine Ev.bind (show Ev (fun k=>slices_Contains_bool_bool.f k (M.drop 1) false) (decide (q≥0)) from Ev.bind hq (Ev.now _)) ?_
    rw [hq2,List.drop_zero,Bool.not_not]
    exact Ev.now _
  | d+1,i,M,h,hM=>by
    have hi:i<N.length:=by omega
    have hw:=qc i N.length hi (by omega)
    have ih:=fun M' hM'=>qa3 l hL N hn h0 d (i+1) M' (by omega) hM'
    rw [qan N i hi,shp]
    refine Ev.step (fun k=>by rw [solve_shape.l0,if_pos (by omega),if_pos (by omega),if_pos (by omega)]) ?_
    by_cases c0:(rd_T103 N i).f0=-1
    · rw [if_pos c0]
      refine qa c0 ?_
      unfold lf
      by_cases c1:(rd_T103 N i).f1=0
      · refine qa c1 ?_
        by_cases c2:(rd_T103 N i).f2=0
        · refine qa c2 ?_
          by_cases c3:(rd_T103 N i).f3<0
          · refine qa c3 ?_
            rw [if_neg (by simp;omega)]
            exact Ev.now _
          · refine qb c3 ?_
            by_cases c4:(rd_T103 N i).f3≥(l.length:Int)
            · refine qa c4 ?_
              rw [if_neg (by simp;omega)]
              exact Ev.now _
            · refine qb c4 ?_
              rw [if_pos (by simp;omega),hw]
              exact ih M hM
        · refine qb c2 ?_
          rw [if_neg (by simp;omega)]
          exact Ev.now _
      · refine qb c1 ?_
        rw [if_neg (by simp;omega)]
        exact Ev.now _
    · rw [if_neg c0]
      refine qb c0 ?_
      have hfin:∀ o:Option (List Bool),fin (o.bind (shp l.length N.length (N.drop (i+1)) (i+1)))=match o with|none=>false|some M'=>fin (shp l.length N.length (N.drop (i+1)) (i+1) M'):=fun o=>by cases o <;> rfl
      unfold nd
      by_cases c1:(rd_T103 N i).f0<0
      · refine qa c1 ?_
        rw [if_neg (by simp;omega)]
        exact Ev.now _
      · refine qb c1 ?_
        by_cases c2:(rd_T103 N i).f0≥24
        · refine qa c2 ?_
          rw [if_neg (by simp;omega)]
          exact Ev.now _
        · refine qb c2 ?_
          by_cases c3:(rd_T103 N i).f3=0
          · rw [if_pos (by simp;omega),hfin]
            refine qa c3 (Ev.bind (Ev.now [(rd_T103 N i).f1,(rd_T103 N i).f2]) ?_)
            exact qa2 l N hn i [(rd_T103 N i).f1,(rd_T103 N i).f2] (by simp) _ (fun M' hM'=>by rw [hw];exact ih M' hM') 2 0 M rfl hM
          · rw [if_neg (by simp;omega)]
            exact qb c3 (Ev.now _)
def qT (L:Nat) (N:List S103):Bool:=decide (1≤N.length)&&decide (N.length≤2000)&&fin (shp L N.length N 0 (List.replicate N.length false))
theorem qdd (l:List S63) (hL:l.length≤1000) (N:List S103):Ev (fun k=>solve_shape.f k l N) (qT l.length N):=by
  unfold qT
  by_cases h0:(N.length:Int)=0
  · refine qa h0 ?_
    rw [decide_eq_false (show ¬ 1≤N.length by omega),Bool.false_and,Bool.false_and]
    exact Ev.now _
  · refine qb h0 ?_
    by_cases h1:(N.length:Int)>2000
    · refine qa h1 ?_
      rw [decide_eq_false (show ¬ N.length≤2000 by omega),Bool.and_false,Bool.false_and]
      exact Ev.now _
    · refine qb h1 (qa (by omega) (qa (by omega) ?_))
      rw [decide_eq_true (show 1≤N.length by omega),decide_eq_true (show N.length≤2000 by omega),Bool.true_and,Bool.true_and,Int.toNat_natCast]
      have h:=qa3 l hL N (by omega) (by omega) N.length 0 (List.replicate N.length false) (by omega) (by simp)
      rwa [List.drop_zero] at h
def vis (l:List S63) (N:List S103):Nat→Nat→Nat→Nat→Option (List Nat)
  | 0,_,_,_=>none
  | k+1,p,C,V=>if p<N.length then (if (rd_T103 N p).f0=-1 then (if lf l.length (rd_T103 N p)=true∧fl (rd_T63 l (rd_T103 N p).f3) C V=true then some [p] else none)
    else if nd (rd_T103 N p)=true∧(p:Int)<(rd_T103 N p).f1∧(p:Int)<(rd_T103 N p).f2∧C.testBit (rd_T103 N p).f0.toNat=false then
      (vis l N k (rd_T103 N p).f1.toNat (wC C (rd_T103 N p).f0) (wV V (rd_T103 N p).f0 false)).bind fun a=>(vis l N k (rd_T103 N p).f2.toNat (wC C (rd_T103 N p).f0) (wV V (rd_T103 N p).f0 true)).bind fun b=>some (p :: (a++b)) else none) else none
theorem qb1 (C:Nat) (hC:C<2 ^ 24) (v:Int) (h0:0≤v) (h1:v<24):Go.bits .and .i64 (shr .i64 (C:Int) v) 1=(((C.testBit v.toNat).toNat:Nat):Int):=by
  have e1:shr .i64 (C:Int) v=((C / 2 ^ v.toNat:Nat):Int):=by
    obtain ⟨n,rfl⟩:∃ n:Nat,v=n:=⟨v.toNat,qe h0⟩
    unfold shr
    rw [show IntKind.i64.bits=64 from rfl,show min ((n:Int)).toNat 64=n by omega]
    simp
  rw [e1]
  have hd:C / 2 ^ v.toNat<2 ^ 62:=Nat.lt_of_le_of_lt (Nat.div_le_self _ _) (p62 hC (by decide))
  have:=(bits_nat .i64 62 (by decide) w62 (C / 2 ^ v.toNat) 1 hd (by decide)).1
  rw [Nat.and_one_is_mod,← Nat.toNat_testBit] at this
  exact this
theorem qdr {l:List S63} (h:VS l) {i:Int} (h0:0≤i) (h1:i<(l.length:Int)):VT (rd_T63 l i).f0 (rd_T63 l i).f1:=by
  have:=qj l i.toNat (by omega)
  rw [← qe h0] at this
  exact h.tab _ this
def qdU (L:Nat) (N:List S103):Prop:=∀ i:Nat,i<N.length→((rd_T103 N i).f0=-1→lf L (rd_T103 N i)=true)∧((rd_T103 N i).f0≠-1→nd (rd_T103 N i)=true∧(i:Int)<(rd_T103 N i).f1∧(rd_T103 N i).f1<(N.length:Int)∧(i:Int)<(rd_T103 N i).f2∧(rd_T103 N i).f2<(N.length:Int))
theorem qb2 (L:Nat) (b:S103):lf L b=true↔b.f1=0∧b.f2=0∧0≤b.f3∧b.f3<(L:Int):=by unfold lf;simp [and_assoc]
theorem qb3 (b:S103):nd b=true↔0≤b.f0∧b.f0<24∧b.f3=0:=by unfold nd;simp [and_assoc]
theorem qaK {l:List S63} (h:VS l) {N:List S103} (hF:qdU l.length N):∀ (d p C V:Nat),p<N.length→N.length≤p+d→C<2 ^ 24→V<2 ^ 24→
    Ev (fun k=>solve_right.f k l N p (C:Int) (V:Int)) (vis l N d p C V).isSome
  | 0,p,C,V,hp,hd,hC,hV=>by omega
  | d+1,p,C,V,hp,hd,hC,hV=>by
    have hf:=hF p hp
    rw [vis,if_pos hp]
    refine Ev.step (fun k=>by rw [solve_right.f,if_pos (by omega),if_pos (by omega)]) ?_
    by_cases c0:(rd_T103 N p).f0=-1
    · have h1:=(qb2 _ _).1 (hf.1 c0)
      rw [if_pos c0]
      refine qa (by omega) ?_
      refine qa h1.2.2.1 ?_
      refine qa h1.2.2.2 ?_
      refine Ev.bind (qbY (qdr h h1.2.2.1 h1.2.2.2) C V hC hV) ?_
      refine qf (Ev.now _) ?_
      by_cases e:fl (rd_T63 l (rd_T103 N p).f3) C V=true
      · rw [if_pos ⟨hf.1 c0,e⟩,e];rfl
      · rw [if_neg (fun e'=>e e'.2),(Bool.not_eq_true _).mp e];rfl
    · obtain ⟨h1,h2,h3,h4,h5⟩:=hf.2 c0
      have h1':=(qb3 _).1 h1
      have wl:=qbK hC h1'.1 h1'.2.1
      have wv:=fun b=>qbL b hV h1'.1 h1'.2.1
      rw [if_neg c0]
      refine qb (by omega) ?_
      refine qa h1'.1 ?_
      rw [qb1 C hC _ h1'.1 h1'.2.1]
      cases e:C.testBit (rd_T103 N p).f0.toNat
      · rw [if_pos ⟨h1,h2,h4,rfl⟩]
        refine qa rfl ?_
        have w:=fun b=>qax b hC hV h1'.1 h1'.2.1
        refine Ev.bind (show Ev (fun _=>solve_choices_with.f (C:Int) (V:Int) (rd_T103 N p).f0 0) _ from (w false) ▸ Ev.now _) ?_
        have i1:=qaK h hF d (rd_T103 N p).f1.toNat _ _ (by omega) (by omega) wl (wv false)
        rw [← qe (by omega:0≤(rd_T103 N p).f1)] at i1
        refine Ev.bind i1 ?_
        cases v1:vis l N d (rd_T103 N p).f1.toNat (wC C (rd_T103 N p).f0) (wV V (rd_T103 N p).f0 false) with
        | none=>
          refine qb (by decide) ?_
          exact Ev.now _
        | some a=>
          refine qa rfl ?_
          refine Ev.bind (show Ev (fun _=>solve_choices_with.f (C:Int) (V:Int) (rd_T103 N p).f0 1) _ from (w true) ▸ Ev.now _) ?_
          have i2:=qaK h hF d (rd_T103 N p).f2.toNat _ _ (by omega) (by omega) wl (wv true)
          rw [← qe (by omega:0≤(rd_T103 N p).f2)] at i2
          refine Ev.bind i2 ?_
          refine qf (Ev.now _) ?_
          cases v2:vis l N d (rd_T103 N p).f2.toNat (wC C (rd_T103 N p).f0) (wV V (rd_T103 N p).f0 true) <;> simp [v2]
      · rw [if_neg (by rintro ⟨_,_,_,h⟩;cases h)]
        refine qb (by decide) ?_
        exact Ev.now _
theorem qN (n i:Nat):∀ (ks:List Int) (M M':List Bool),mrk n i ks M=some M'→∀ k,k∈ks→(i:Int)<k∧k<(n:Int)
  | [],_,_,_=>fun _ hk=>by cases hk
  | x :: ks,M,M',h=>fun k hk=>by
    rw [mrk] at h
    split at h
    · next hc=>
      rcases List.mem_cons.1 hk with rfl|hk
      · exact ⟨hc.1,hc.2.1⟩
      · exact qN n i ks _ _ h k hk
    · cases h
theorem q8 (L:Nat) (N:List S103):∀ (d i:Nat) (M M':List Bool),i+d=N.length→shp L N.length (N.drop i) i M=some M'→∀ j:Nat,i≤j→j<N.length→((rd_T103 N j).f0=-1→lf L (rd_T103 N j)=true)∧((rd_T103 N j).f0≠-1→nd (rd_T103 N j)=true∧(j:Int)<(rd_T103 N j).f1∧(rd_T103 N j).f1<(N.length:Int)∧(j:Int)<(rd_T103 N j).f2∧(rd_T103 N j).f2<(N.length:Int))
  | 0,i,M,M',h,hs=>fun j h1 h2=>by omega
  | d+1,i,M,M',h,hs=>fun j h1 h2=>by
    have hi:i<N.length:=by omega
    rw [qan N i hi,shp] at hs
    by_cases c0:(rd_T103 N i).f0=-1
    · rw [if_pos c0] at hs
      by_cases c1:lf L (rd_T103 N i)=true
      · rw [if_pos c1] at hs
        by_cases e:j=i
        · subst e;exact ⟨fun _=>c1,fun c=>absurd c0 c⟩
        · exact q8 L N d (i+1) M M' (by omega) hs j (by omega) h2
      · rw [if_neg c1] at hs;cases hs
    · rw [if_neg c0] at hs
      by_cases c1:nd (rd_T103 N i)=true
      · rw [if_pos c1] at hs
        cases e2:mrk N.length i [(rd_T103 N i).f1,(rd_T103 N i).f2] M with
        | none=>rw [e2] at hs;cases hs
        | some M1=>
          rw [e2] at hs
          by_cases e:j=i
          · subst e
            have b:=qN _ _ _ _ _ e2
            have b1:=b _ (.head _)
            have b2:=b _ (.tail _ (.head _))
            exact ⟨fun c=>absurd c c0,fun _=>⟨c1,b1.1,b1.2,b2.1,b2.2⟩⟩
          · exact q8 L N d (i+1) M1 M' (by omega) hs j (by omega) h2
      · rw [if_neg c1] at hs;cases hs
def q9 (l:List S63) (N:List S103):Bool:=if qn l=0 then qT l.length N&&(vis l N N.length 0 0 0).isSome else false
theorem qcX (l:List S63) (hs:Sm l) (hl:l.length≤1000) (N:List S103):Ev (fun k=>solve_Check.f k l N) (q9 l N):=by
  refine Ev.bind (qv l hs hl) ?_
  unfold q9
  refine qd (fun h=>?_) (fun h=>Ev.now _)
  have hv:=(qg l).1 h
  refine Ev.bind (qdd l hl N) ?_
  cases e:qT l.length N
  · refine qb (by decide) ?_
    exact Ev.now _
  · refine qa rfl ?_
    unfold qT at e
    simp only [Bool.and_eq_true,decide_eq_true_iff] at e
    cases e2:shp l.length N.length N 0 (List.replicate N.length false) with
    | none=>rw [e2] at e;simp [fin] at e
    | some M=>
      have hF:qdU l.length N:=fun j hj=>q8 l.length N N.length 0 _ M (by omega) (by rw [List.drop_zero];exact e2) j (by omega) hj
      refine Ev.bind (qaK hv hF N.length 0 0 0 (by omega) (by omega) (by decide) (by decide)) ?_
      rw [Bool.true_and]
      exact Ev.now _

def Lies (N:List S103) (T:Tr) (p:Nat):Prop:=∃ suf,N.drop p=T.nod p++suf
theorem Lies.lt {N:List S103} {T:Tr} {p:Nat} (h:Lies N T p):p+T.sz≤N.length:=by
  obtain ⟨suf,h⟩:=h
  have:=congrArg List.length h
  rw [List.length_drop,List.length_append,T.nod_len] at this
  have:=T.sz_pos
  omega
theorem Lies.rd {N:List S103} {T:Tr} {p:Nat} (h:Lies N T p):(∀ t,T=.leaf t→rd_T103 N p=⟨-1,0,0,t⟩)∧(∀ v a b,T=.node v a b→rd_T103 N p=⟨v,((p+1:Nat):Int),((p+1+a.sz:Nat):Int),0⟩∧Lies N a (p+1)∧Lies N b (p+1+a.sz)):=by
  have hl:=h.lt
  have hs:=T.sz_pos
  obtain ⟨suf,h⟩:=h
  rw [qan N p (by omega)] at h
  constructor
  · rintro t rfl
    exact (List.cons.inj h).1
  · rintro v a b rfl
    obtain ⟨h1,h2⟩:=List.cons.inj h
    change _=(a.nod (p+1)++b.nod (p+1+a.sz))++suf at h2
    rw [List.append_assoc] at h2
    refine ⟨h1,⟨_,h2⟩,⟨suf,?_⟩⟩
    have:=congrArg (List.drop a.sz) h2
    have e:(a.nod (p+1)).drop a.sz=[]:=List.drop_eq_nil_of_le (by rw [a.nod_len];omega)
    rw [List.drop_drop,List.drop_append_of_le_length (by rw [a.nod_len];omega),e,List.nil_append] at this
    exact this
def chN (b:S103):List Nat:=if b.f0=-1 then [] else [b.f1.toNat,b.f2.toNat]
def chA (N:List S103) (i:Nat):List Nat:=chN (rd_T103 N i)
def Fld (L:Nat) (N:List S103) (i:Nat):Prop:=((rd_T103 N i).f0=-1→lf L (rd_T103 N i)=true)∧((rd_T103 N i).f0≠-1→nd (rd_T103 N i)=true∧(i:Int)<(rd_T103 N i).f1∧(rd_T103 N i).f1<(N.length:Int)∧(i:Int)<(rd_T103 N i).f2∧(rd_T103 N i).f2<(N.length:Int))
theorem Fld.ch {L:Nat} {N:List S103} {i:Nat} (h:Fld L N i):∀ c,c∈chA N i→i<c∧c<N.length:=by
  intro c hc
  unfold chA chN at hc
  by_cases e:(rd_T103 N i).f0=-1
  · rw [if_pos e] at hc;cases hc
  · rw [if_neg e] at hc
    have:=h.2 e
    rcases List.mem_cons.1 hc with rfl|hc
    · omega
    · rw [List.mem_singleton] at hc
      subst hc
      omega
theorem qx (l:List S63) (N:List S103):∀ (k p C V:Nat) (Q:List Nat),vis l N k p C V=some Q→
    p<N.length∧(∀ j,j∈Q→p≤j∧j<N.length∧Fld l.length N j)∧Q.Perm (p :: Q.flatMap (chA N))
  | 0,_,_,_,_,h=>by simp [vis] at h
  | k+1,p,C,V,Q,h=>by
    rw [vis] at h
    by_cases hp:p<N.length
    · rw [if_pos hp] at h
      by_cases c0:(rd_T103 N p).f0=-1
      · rw [if_pos c0] at h
        by_cases c1:lf l.length (rd_T103 N p)=true∧fl (rd_T63 l (rd_T103 N p).f3) C V=true
        · rw [if_pos c1] at h
          obtain rfl:=(Option.some.inj h).symm
          refine ⟨hp,fun j hj=>?_,?_⟩
          · rw [List.mem_singleton] at hj
            subst hj
            exact ⟨Nat.le_refl _,hp,fun _=>c1.1,fun c=>absurd c0 c⟩
          · rw [List.flatMap_singleton]
            unfold chA chN
            rw [if_pos c0]
        · rw [if_neg c1] at h;cases h
      · rw [if_neg c0] at h
        by_cases c1:nd (rd_T103 N p)=true∧(p:Int)<(rd_T103 N p).f1∧(p:Int)<(rd_T103 N p).f2∧C.testBit (rd_T103 N p).f0.toNat=false
        · rw [if_pos c1] at h
          cases e1:vis l N k (rd_T103 N p).f1.toNat (wC C (rd_T103 N p).f0) (wV V (rd_T103 N p).f0 false) with
          | none=>rw [e1] at h;cases h
          | some a=>
            rw [e1,Option.bind_some] at h
            cases e2:vis l N k (rd_T103 N p).f2.toNat (wC C (rd_T103 N p).f0) (wV V (rd_T103 N p).f0 true) with
            | none=>rw [e2] at h;cases h
            | some b=>
              rw [e2,Option.bind_some] at h
              obtain rfl:=(Option.some.inj h).symm
              obtain ⟨a1,a2,a3⟩:=qx l N k _ _ _ a e1
              obtain ⟨b1,b2,b3⟩:=qx l N k _ _ _ b e2
              refine ⟨hp,fun j hj=>?_,?_⟩
              · rcases List.mem_cons.1 hj with rfl|hj
                · exact ⟨Nat.le_refl _,hp,fun c=>absurd c c0,fun _=>⟨c1.1,c1.2.1,by omega,c1.2.2.1,by omega⟩⟩
                · rcases List.mem_append.1 hj with hj|hj
                  · have:=a2 j hj
                    exact ⟨by omega,this.2⟩
                  · have:=b2 j hj
                    exact ⟨by omega,this.2⟩
              · refine List.Perm.cons _ ?_
                rw [List.flatMap_cons,List.flatMap_append]
                have hc:chA N p=[(rd_T103 N p).f1.toNat,(rd_T103 N p).f2.toNat]:=by unfold chA chN;rw [if_neg c0]
                rw [hc]
                refine (a3.append b3).trans ?_
                show ((rd_T103 N p).f1.toNat :: (a.flatMap (chA N)++(rd_T103 N p).f2.toNat :: b.flatMap (chA N))).Perm ((rd_T103 N p).f1.toNat :: (rd_T103 N p).f2.toNat :: (a.flatMap (chA N)++b.flatMap (chA N)))
                exact List.Perm.cons _ List.perm_middle
        · rw [if_neg c1] at h;cases h
    · rw [if_neg hp] at h;cases h
theorem qaL (n i:Nat):∀ (ks:List Int) (M M':List Bool),M.length=n→mrk n i ks M=some M'→(ks.map Int.toNat).Nodup∧(∀ k,k∈ks→rdOf false M k=false)∧∀ j:Nat,rdOf false M' (j:Int)=(rdOf false M (j:Int)||decide (j∈ks.map Int.toNat))
  | [],M,M',hM,h=>by
    simp only [mrk,Option.some.injEq] at h
    subst h
    exact ⟨List.nodup_nil,(fun _ hk=>by cases hk),(fun j=>by rw [List.map_nil];simp)⟩
  | x :: ks,M,M',hM,h=>by
    rw [mrk] at h
    split at h
    · next hc=>
      obtain ⟨h1,h2,h3⟩:=qaL n i ks _ M' (by rw [List.length_set];exact hM) h
      have hx:x=((x.toNat:Nat):Int):=qe (by omega)
      have hb:=qN n i ks _ _ h
      have hset:∀ j:Nat,rdOf false (M.set x.toNat true) (j:Int)=if x.toNat=j then true else rdOf false M (j:Int):=fun j=>qX _ _ _ _ (by omega)
      refine ⟨?_,?_,?_⟩
      · rw [List.map_cons,List.nodup_cons]
        refine ⟨fun hm=>?_,h1⟩
        obtain ⟨y,hy,e⟩:=List.mem_map.1 hm
        have:=h2 y hy
        have hy0:=hb y hy
        rw [qe (by omega:0≤y),hset,if_pos e.symm] at this
        cases this
      · intro k hk
        rcases List.mem_cons.1 hk with rfl|hk
        · exact hc.2.2
        · have:=h2 k hk
          have hk0:=hb k hk
          rw [qe (by omega:0≤k),hset] at this
          rw [qe (by omega:0≤k)]
          split at this
          · cases this
          · exact this
      · intro j
        rw [h3 j,hset,List.map_cons]
        by_cases e:x.toNat=j
        · rw [if_pos e];simp [e]
        · rw [if_neg e]
          congr 1
          rw [Bool.eq_iff_iff]
          simp
          omega
    · cases h
theorem qcY (n i:Nat):∀ (ks:List Int) (M:List Bool),M.length=n→(∀ k,k∈ks→(i:Int)<k∧k<(n:Int))→(ks.map Int.toNat).Nodup→(∀ k,k∈ks→rdOf false M k=false)→∃ M',mrk n i ks M=some M'
  | [],M,_,_,_,_=>⟨M,rfl⟩
  | x :: ks,M,hM,hb,hn,hu=>by
    have hx:=hb x (.head _)
    rw [List.map_cons,List.nodup_cons] at hn
    rw [mrk,if_pos ⟨hx.1,hx.2,hu x (.head _)⟩]
    refine qcY n i ks _ (by rw [List.length_set];exact hM) (fun k hk=>hb k (.tail _ hk)) hn.2 (fun k hk=>?_)
    have hk0:=hb k (.tail _ hk)
    rw [qe (by omega:0≤k),qX _ _ _ _ (by omega)]
    split
    · next e=>exact absurd (List.mem_map.2 ⟨k,hk,e.symm⟩) hn.1
    · rw [← qe (by omega:0≤k)];exact hu k (.tail _ hk)
theorem qaa (L:Nat) (N:List S103):∀ (d i:Nat) (M M':List Bool),i+d=N.length→M.length=N.length→shp L N.length (N.drop i) i M=some M'→
    M'.length=N.length∧((List.range' i d).flatMap (chA N)).Nodup∧(∀ j,j∈(List.range' i d).flatMap (chA N)→rdOf false M (j:Int)=false)∧∀ j:Nat,rdOf false M' (j:Int)=(rdOf false M (j:Int)||decide (j∈(List.range' i d).flatMap (chA N)))
  | 0,i,M,M',h,hM,hs=>by
    rw [List.drop_eq_nil_of_le (by omega)] at hs
    simp only [shp,Option.some.injEq] at hs
    subst hs
    exact ⟨hM,by simp,by simp,by simp⟩
  | d+1,i,M,M',h,hM,hs=>by
    have hi:i<N.length:=by omega
    rw [qan N i hi,shp] at hs
    rw [List.range'_succ,List.flatMap_cons]
    by_cases c0:(rd_T103 N i).f0=-1
    · rw [if_pos c0] at hs
      split at hs
      · have hc:chA N i=[]:=by unfold chA chN;rw [if_pos c0]
        rw [hc,List.nil_append]
        exact qaa L N d (i+1) M M' (by omega) hM hs
      · cases hs
    · rw [if_neg c0] at hs
      split at hs
      · have hc:chA N i=[(rd_T103 N i).f1,(rd_T103 N i).f2].map Int.toNat:=by unfold chA chN;rw [if_neg c0];rfl
        cases e2:mrk N.length i [(rd_T103 N i).f1,(rd_T103 N i).f2] M with
        | none=>rw [e2] at hs;cases hs
        | some M1=>
          rw [e2,Option.bind_some] at hs
          have hM1:M1.length=N.length:=by rw [qbg _ _ _ _ _ e2];exact hM
          obtain ⟨m1,m2,m3⟩:=qaL _ _ _ _ _ hM e2
          have mb:=qN _ _ _ _ _ e2
          obtain ⟨s0,s1,s2,s3⟩:=qaa L N d (i+1) M1 M' (by omega) hM1 hs
          rw [← hc] at m1 m3
          refine ⟨s0,?_,?_,?_⟩
          · rw [List.nodup_append]
            refine ⟨m1,s1,fun a ha b hb e=>?_⟩
            subst e
            have:=s2 a hb
            rw [m3,decide_eq_true ha,Bool.or_true] at this
            cases this
          · intro j hj
            rcases List.mem_append.1 hj with hj|hj
            · rw [hc] at hj
              obtain ⟨x,hx,rfl⟩:=List.mem_map.1 hj
              have:=mb x hx
              rw [← qe (by omega:0≤x)]
              exact m2 x hx
            · have:=s2 j hj
              rw [m3] at this
              simp at this
              exact this.1
          · intro j
            rw [s3 j,m3 j,Bool.or_assoc]
            congr 1
            rw [Bool.eq_iff_iff]
            simp [List.mem_append]
      · cases hs
theorem qb4 (L:Nat) (N:List S103) (hF:∀ i,i<N.length→Fld L N i):∀ (d i:Nat) (M:List Bool),i+d=N.length→M.length=N.length→((List.range' i d).flatMap (chA N)).Nodup→(∀ j,j∈(List.range' i d).flatMap (chA N)→rdOf false M (j:Int)=false)→∃ M',shp L N.length (N.drop i) i M=some M'
  | 0,i,M,h,hM,_,_=>⟨M,by rw [List.drop_eq_nil_of_le (by omega)];rfl⟩
  | d+1,i,M,h,hM,hn,hu=>by
    have hi:i<N.length:=by omega
    rw [qan N i hi,shp]
    rw [List.range'_succ,List.flatMap_cons] at hn hu
    rw [List.nodup_append] at hn
    by_cases c0:(rd_T103 N i).f0=-1
    · rw [if_pos c0,if_pos ((hF i hi).1 c0)]
      exact qb4 L N hF d (i+1) M (by omega) hM hn.2.1 (fun j hj=>hu j (List.mem_append_right _ hj))
    · have hf:=(hF i hi).2 c0
      have hc:chA N i=[(rd_T103 N i).f1,(rd_T103 N i).f2].map Int.toNat:=by unfold chA chN;rw [if_neg c0];rfl
      rw [if_neg c0,if_pos hf.1]
      have hb:∀ k,k∈[(rd_T103 N i).f1,(rd_T103 N i).f2]→(i:Int)<k∧k<(N.length:Int):=fun k hk=>by
        rcases List.mem_cons.1 hk with rfl|hk
        · omega
        · rw [List.mem_singleton] at hk;subst hk;omega
      obtain ⟨M1,e1⟩:=qcY N.length i [(rd_T103 N i).f1,(rd_T103 N i).f2] M hM hb (by rw [← hc];exact hn.1) (fun k hk=>by
        have:=hb k hk
        rw [qe (by omega:0≤k)]
        exact hu _ (List.mem_append_left _ (by rw [hc];exact List.mem_map.2 ⟨k,hk,rfl⟩)))
      obtain ⟨_,_,m3⟩:=qaL _ _ _ _ _ hM e1
      rw [e1,Option.bind_some]
      refine qb4 L N hF d (i+1) M1 (by omega) (by rw [qbg _ _ _ _ _ e1];exact hM) hn.2.1 (fun j hj=>?_)
      rw [m3,hu j (List.mem_append_right _ hj),Bool.false_or,decide_eq_false_iff_not,← hc]
      exact fun hm=>hn.2.2 j hm j hj rfl
def qbM (N:List S103):List Nat:=(List.range N.length).flatMap (chA N)
theorem qde (L:Nat) (N:List S103):qT L N=true↔1≤N.length∧N.length≤2000∧(∀ i,i<N.length→Fld L N i)∧(qbM N).Nodup∧∀ j,1≤j→j<N.length→j∈qbM N:=by
  unfold qT qbM
  rw [List.range_eq_range']
  have h0:∀ j:Nat,rdOf false (List.replicate N.length false) (j:Int)=false:=fun j=>by rw [rdOf,List.getD,Int.toNat_natCast,List.getElem?_replicate];split <;> rfl
  have hfin:∀ M:List Bool,M.length=N.length→(fin (some M)=true↔∀ j,1≤j→j<N.length→rdOf false M (j:Int)=true):=fun M hM=>by
    have hg:∀ j (hj:j<M.length),rdOf false M (j:Int)=M[j]:=fun j hj=>by rw [rdOf,List.getD,Int.toNat_natCast,List.getElem?_eq_getElem hj,Option.getD_some]
    simp only [fin]
    rw [List.all_eq_true]
    constructor
    · intro h j h1 h2
      rw [hg j (by omega)]
      have:=h M[j] (List.mem_iff_getElem.2 ⟨j - 1,by rw [List.length_drop];omega,by rw [List.getElem_drop];congr 1;omega⟩)
      simpa using this
    · intro h x hx
      obtain ⟨j,hj,e⟩:=List.getElem_of_mem hx
      rw [List.length_drop] at hj
      rw [List.getElem_drop] at e
      have:=h (1+j) (by omega) (by omega)
      rw [hg (1+j) (by omega),e] at this
      simpa using this
  simp only [Bool.and_eq_true,decide_eq_true_iff]
  constructor
  · rintro ⟨⟨h1,h2⟩,h3⟩
    cases e:shp L N.length N 0 (List.replicate N.length false) with
    | none=>rw [e] at h3;cases h3
    | some M=>
      rw [e] at h3
      obtain ⟨s0,s1,s2,s3⟩:=qaa L N N.length 0 _ M (by omega) List.length_replicate (by rw [List.drop_zero];exact e)
      refine ⟨h1,h2,fun i hi=>q8 L N N.length 0 _ M (by omega) (by rw [List.drop_zero];exact e) i (by omega) hi,s1,fun j k1 k2=>?_⟩
      have:=(hfin M s0).1 h3 j k1 k2
      rw [s3,h0,Bool.false_or,decide_eq_true_iff] at this
      exact this
  · rintro ⟨h1,h2,hF,hn,hc⟩
    obtain ⟨M,e⟩:=qb4 L N hF N.length 0 (List.replicate N.length false) (by omega) (by simp) hn (fun j _=>h0 j)
    obtain ⟨s0,s1,s2,s3⟩:=qaa L N N.length 0 _ M (by omega) (by simp) e
    rw [List.drop_zero] at e
    rw [e]
    refine ⟨⟨h1,h2⟩,(hfin M s0).2 (fun j k1 k2=>?_)⟩
    rw [s3,h0,Bool.false_or,decide_eq_true_iff]
    exact hc j k1 k2
theorem qcy {f:Nat→List Nat}:∀ {l:List Nat},(l.flatMap f).Nodup→∀ i i' j,i∈l→i'∈l→j∈f i→j∈f i'→i=i'
  | [],_,_,_,_,h,_,_,_=>by cases h
  | x :: l,hn,i,i',j,h,h',e,e'=>by
    rw [List.flatMap_cons,List.nodup_append] at hn
    rcases List.mem_cons.1 h with h1|h1
    · rcases List.mem_cons.1 h' with h2|h2
      · rw [h1,h2]
      · rw [h1] at e
        exact absurd rfl (hn.2.2 j e j (List.mem_flatMap.2 ⟨i',h2,e'⟩))
    · rcases List.mem_cons.1 h' with h2|h2
      · rw [h2] at e'
        exact absurd rfl (hn.2.2 j e' j (List.mem_flatMap.2 ⟨i,h1,e⟩))
      · exact qcy hn.2.1 i i' j h1 h2 e e'
theorem qb5 {f:Nat→List Nat}:∀ {l:List Nat},(l.flatMap f).Nodup→∀ i,i∈l→(f i).Nodup
  | [],_,_,h=>by cases h
  | x :: l,hn,i,h=>by
    rw [List.flatMap_cons,List.nodup_append] at hn
    rcases List.mem_cons.1 h with rfl|h
    · exact hn.1
    · exact qb5 hn.2.1 i h
theorem qb6 {f:Nat→List Nat} {i j:Nat} (h1:(f i).count j≤1):∀ {l:List Nat},(∀ x,x∈l→x≠i→j∉f x)→(l.flatMap f).count j≤l.count i
  | [],_=>by simp
  | x :: l,h=>by
    rw [List.flatMap_cons,List.count_append,List.count_cons]
    have ih:=qb6 h1 (l:=l) (fun y hy=>h y (.tail _ hy))
    by_cases e:x=i
    · subst e
      simp
      omega
    · have:=List.count_eq_zero.2 (h x (.head _) e)
      omega
theorem qdf (l:List S63) (N:List S103):(qT l.length N&&(vis l N N.length 0 0 0).isSome)=true↔1≤N.length∧N.length≤2000∧∃ Q,vis l N N.length 0 0 0=some Q∧Q.Nodup∧∀ j,j<N.length→j∈Q:=by
  rw [Bool.and_eq_true,qde]
  constructor
  · rintro ⟨⟨h1,h2,hF,hn,hc⟩,hv⟩
    obtain ⟨Q,e⟩:=Option.isSome_iff_exists.1 hv
    obtain ⟨q0,q1,q2⟩:=qx _ _ _ _ _ _ _ e
    refine ⟨h1,h2,Q,e,?_,?_⟩
    · rw [List.nodup_iff_count]
      intro a
      induction a using Nat.strongRecOn with
      | _ a ih=>
        rw [q2.count_eq a,List.count_cons]
        by_cases ha:a=0
        · subst ha
          have:(Q.flatMap (chA N)).count 0=0:=List.count_eq_zero.2 (fun hm=>by
            obtain ⟨x,hx,hm⟩:=List.mem_flatMap.1 hm
            have:=(q1 x hx).2.2.ch 0 hm
            omega)
          rw [this]
          simp
        · have e0:(if (0 == a)=true then 1 else 0)=0:=by simp;omega
          rw [e0,Nat.add_zero]
          by_cases hm:a∈Q.flatMap (chA N)
          · obtain ⟨i,hi,hm⟩:=List.mem_flatMap.1 hm
            have hi':=q1 i hi
            have hlt:=hi'.2.2.ch a hm
            have hin:i∈List.range N.length:=List.mem_range.2 hi'.2.1
            have hc1:(chA N i).count a≤1:=List.nodup_iff_count.1 (qb5 hn i hin) a
            refine Nat.le_trans (qb6 hc1 (fun x hx hne hm'=>?_)) (ih i hlt.1)
            exact hne (qcy hn x i a (List.mem_range.2 (q1 x hx).2.1) hin hm' hm)
          · rw [List.count_eq_zero.2 hm];omega
    · intro j
      induction j using Nat.strongRecOn with
      | _ j ih=>
        intro hj
        rw [q2.mem_iff]
        by_cases e0:j=0
        · subst e0;exact .head _
        · obtain ⟨i,hi,hm⟩:=List.mem_flatMap.1 (hc j (by omega) hj)
          have hi':=List.mem_range.1 hi
          have:=(hF i hi').ch j hm
          exact .tail _ (List.mem_flatMap.2 ⟨i,ih i this.1 hi',hm⟩)
  · rintro ⟨h1,h2,Q,e,hn,hc⟩
    obtain ⟨q0,q1,q2⟩:=qx _ _ _ _ _ _ _ e
    have hp:Q.Perm (List.range N.length):=(List.perm_ext_iff_of_nodup hn List.nodup_range).2 (fun a=>⟨fun ha=>List.mem_range.2 (q1 a ha).2.1,fun ha=>hc a (List.mem_range.1 ha)⟩)
    have hq:Q.Perm (0 :: qbM N):=q2.trans (List.Perm.cons _ (List.Perm.flatMap_right _ hp))
    have hn':=(hq.nodup_iff).1 hn
    refine ⟨⟨h1,h2,fun i hi=>(q1 i (hc i hi)).2.2,(List.nodup_cons.1 hn').2,fun j k1 k2=>?_⟩,by rw [e];rfl⟩
    have:=hq.mem_iff.1 (hc j k2)
    rcases List.mem_cons.1 this with h|h
    · omega
    · exact h

theorem qb7 {C V:Nat} (hs:∀ j,V.testBit j=true→C.testBit j=true) (v:Int) (b:Bool):∀ j,(wV V v b).testBit j=true→(wC C v).testBit j=true:=fun j hj=>by
  rw [qaj] at hj
  rw [qa1]
  by_cases e:v.toNat=j
  · simp [e]
  · simp [e] at hj
    rw [hs j hj];rfl
theorem qaM {l:List S63} (h:VS l) (N:List S103) (hn:N.length≤2000):∀ (d p C V:Nat) (M:List Bool),N.length≤p+d→M.length=N.length→C<2 ^ 24→V<2 ^ 24→(∀ j,V.testBit j=true→C.testBit j=true)→
    ∃ r:Bool×List Bool,Ev (fun k=>ancepsref40_below.f k l N p (C:Int) (V:Int) M) r∧r.2.length=N.length∧(r.1=true→∃ Q,vis l N d p C V=some Q∧Q.Nodup∧(∀ j,j∈Q→rdOf false M (j:Int)=false)∧∀ j:Nat,rdOf false r.2 (j:Int)=(rdOf false M (j:Int)||decide (j∈Q)))∧
      (r.1=false→∀ Q,vis l N d p C V=some Q→Q.Nodup→¬ ∀ j,j∈Q→rdOf false M (j:Int)=false)
  | d,p,C,V,M,hd,hM,hC,hV,hs=>by
    by_cases hp:p<N.length
    case neg=>
      refine ⟨(false,M),?_,hM,by simp,fun _ Q hQ=>absurd (qx _ _ _ _ _ _ _ hQ).1 hp⟩
      refine Ev.step (fun k=>by rw [ancepsref40_below.f]) ?_
      refine qb (by omega) ?_
      refine qa (by omega) ?_
      exact Ev.now _
    obtain ⟨d,rfl⟩:∃ d',d=d'+1:=⟨d - 1,by omega⟩
    cases hm:rdOf false M (p:Int)
    case true=>
      refine ⟨(false,M),?_,hM,by simp,fun _ Q hQ _ hu=>?_⟩
      · refine Ev.step (fun k=>by rw [ancepsref40_below.f,hm]) ?_
        refine qb (by omega) ?_
        refine qb (by omega) ?_
        refine qa (by omega) ?_
        refine qa (by omega) ?_
        exact qa rfl (Ev.now _)
      · have:=hu p ((qx _ _ _ _ _ _ _ hQ).2.2.mem_iff.2 (.head _))
        rw [hm] at this;cases this
    have hset:∀ j:Nat,rdOf false (M.set p true) (j:Int)=if p=j then true else rdOf false M (j:Int):=fun j=>qX _ _ _ _ (by omega)
    have hin:∀ r,Ev (fun k=>if (rd_T103 N p).f0=(-1) then (if (rd_T103 N p).f1=0 then (if (rd_T103 N p).f2=0 then (if (rd_T103 N p).f3≥0 then (if (rd_T103 N p).f3<(l.length:Int) then (if 0≤(rd_T103 N p).f3 then ((ancepsref40_fails.f k ((rd_T63 l ((rd_T103 N p).f3)).f0) ((rd_T63 l ((rd_T103 N p).f3)).f1) C V).bind fun t586=>(some (t586,M.set p true))) else (none)) else (some (false,M.set p true))) else (some (false,M.set p true))) else (some (false,M.set p true))) else (some (false,M.set p true))) else (if ((rd_T103 N p).f0)<0 then (some (false,M.set p true)) else (if ((rd_T103 N p).f0)>23 then (some (false,M.set p true)) else (if ((rd_T103 N p).f3)=0 then (if ((rd_T103 N p).f1)≤(p:Int) then (some (false,M.set p true)) else (if ((rd_T103 N p).f2)≤(p:Int) then (some (false,M.set p true)) else (if 0≤((rd_T103 N p).f0) then (if (Go.bits .and .i64 (shr .i64 C ((rd_T103 N p).f0)) 1)=1 then (some (false,M.set p true)) else ((ancepsref40_choices_with.f C V ((rd_T103 N p).f0) 0).bind fun bt90=>((ancepsref40_below.f k l N ((rd_T103 N p).f1) bt90.1 bt90.2 (M.set p true)).bind fun bt92=>(if bt92.1=true then ((ancepsref40_choices_with.f C V ((rd_T103 N p).f0) 1).bind fun bt91=>((ancepsref40_below.f k l N ((rd_T103 N p).f2) bt91.1 bt91.2 bt92.2).bind fun bt93=>(some (bt93.1,bt93.2)))) else (some (false,bt92.2)))))) else (none)))) else (some (false,M.set p true)))))) r→
        Ev (fun k=>ancepsref40_below.f k l N p (C:Int) (V:Int) M) r:=fun r hr=>by
      refine Ev.step (fun k=>by rw [ancepsref40_below.f,hm]) ?_
      refine qb (by omega) ?_
      refine qb (by omega) ?_
      refine qa (by omega) ?_
      refine qa (by omega) ?_
      refine qb (by decide) ?_
      rw [Int.toNat_natCast]
      refine Ev.bind (Ev.now (M.set p true)) ?_
      refine qa (by omega) ?_
      exact hr
    have hno:vis l N (d+1) p C V=none→Ev (fun k=>ancepsref40_below.f k l N p (C:Int) (V:Int) M) (false,M.set p true)→∃ r:Bool×List Bool,Ev (fun k=>ancepsref40_below.f k l N p (C:Int) (V:Int) M) r∧r.2.length=N.length∧(r.1=true→∃ Q,vis l N (d+1) p C V=some Q∧Q.Nodup∧(∀ j,j∈Q→rdOf false M (j:Int)=false)∧∀ j:Nat,rdOf false r.2 (j:Int)=(rdOf false M (j:Int)||decide (j∈Q)))∧
      (r.1=false→∀ Q,vis l N (d+1) p C V=some Q→Q.Nodup→¬ ∀ j,j∈Q→rdOf false M (j:Int)=false):=fun hv he=>
      ⟨_,he,by rw [List.length_set];exact hM,by simp,fun _ Q hQ=>by rw [hv] at hQ;cases hQ⟩
    by_cases c0:(rd_T103 N p).f0=-1
    · by_cases c1:lf l.length (rd_T103 N p)=true
      · have c1':=(qb2 _ _).1 c1
        have he:Ev (fun k=>ancepsref40_below.f k l N p (C:Int) (V:Int) M) (fl (rd_T63 l (rd_T103 N p).f3) C V,M.set p true):=by
          refine hin _ ?_
          refine qa c0 ?_
          refine qa c1'.1 ?_
          refine qa c1'.2.1 ?_
          refine qa c1'.2.2.1 ?_
          refine qa c1'.2.2.2 ?_
          refine qa c1'.2.2.1 ?_
          refine Ev.bind (qcU (qdr h c1'.2.2.1 c1'.2.2.2) hC hV hs) ?_
          exact Ev.now _
        cases e:fl (rd_T63 l (rd_T103 N p).f3) C V
        · rw [e] at he
          exact hno (by rw [vis,if_pos hp,if_pos c0,if_neg (by rw [e];simp)]) he
        · rw [e] at he
          have hv:vis l N (d+1) p C V=some [p]:=by rw [vis,if_pos hp,if_pos c0,if_pos ⟨c1,e⟩]
          refine ⟨_,he,by rw [List.length_set];exact hM,fun _=>⟨[p],hv,by simp,fun j hj=>?_,fun j=>?_⟩,fun hc=>by cases hc⟩
          · rw [List.mem_singleton] at hj
            subst hj;exact hm
          · rw [hset j]
            by_cases e:p=j
            · rw [if_pos e];simp [e]
            · rw [if_neg e];simp;omega
      · refine hno (by rw [vis,if_pos hp,if_pos c0,if_neg (fun c=>c1 c.1)]) (hin _ ?_)
        refine qa c0 ?_
        rw [qb2] at c1
        by_cases k1:(rd_T103 N p).f1=0
        · refine qa k1 ?_
          by_cases k2:(rd_T103 N p).f2=0
          · refine qa k2 ?_
            by_cases k3:(rd_T103 N p).f3≥0
            · refine qa k3 ?_
              refine qb (fun k4=>c1 ⟨k1,k2,k3,k4⟩) ?_
              exact Ev.now _
            · refine qb k3 ?_
              exact Ev.now _
          · refine qb k2 ?_
            exact Ev.now _
        · refine qb k1 ?_
          exact Ev.now _
    · by_cases c1:nd (rd_T103 N p)=true∧(p:Int)<(rd_T103 N p).f1∧(p:Int)<(rd_T103 N p).f2
      case neg=>
        refine hno (by rw [vis,if_pos hp,if_neg c0,if_neg (fun c=>c1 ⟨c.1,c.2.1,c.2.2.1⟩)]) (hin _ ?_)
        refine qb c0 ?_
        rw [qb3] at c1
        by_cases k1:(rd_T103 N p).f0<0
        · refine qa k1 ?_
          exact Ev.now _
        refine qb k1 ?_
        by_cases k2:(rd_T103 N p).f0>23
        · refine qa k2 ?_
          exact Ev.now _
        refine qb k2 ?_
        by_cases k3:(rd_T103 N p).f3=0
        · refine qa k3 ?_
          by_cases k4:(rd_T103 N p).f1≤(p:Int)
          · refine qa k4 ?_
            exact Ev.now _
          refine qb k4 ?_
          by_cases k5:(rd_T103 N p).f2≤(p:Int)
          · refine qa k5 ?_
            exact Ev.now _
          exact absurd ⟨⟨by omega,by omega,k3⟩,by omega,by omega⟩ c1
        · refine qb k3 ?_
          exact Ev.now _
      have c1':=(qb3 _).1 c1.1
      have hin2:∀ r,Ev (fun k=>if (((C.testBit (rd_T103 N p).f0.toNat).toNat:Nat):Int)=1 then (some (false,M.set p true)) else ((ancepsref40_choices_with.f C V ((rd_T103 N p).f0) 0).bind fun bt90=>((ancepsref40_below.f k l N ((rd_T103 N p).f1) bt90.1 bt90.2 (M.set p true)).bind fun bt92=>(if bt92.1=true then ((ancepsref40_choices_with.f C V ((rd_T103 N p).f0) 1).bind fun bt91=>((ancepsref40_below.f k l N ((rd_T103 N p).f2) bt91.1 bt91.2 bt92.2).bind fun bt93=>(some (bt93.1,bt93.2)))) else (some (false,bt92.2)))))) r→Ev (fun k=>ancepsref40_below.f k l N p (C:Int) (V:Int) M) r:=fun r hr=>by
        refine hin r ?_
        refine qb c0 ?_
        refine qb (by omega) ?_
        refine qb (by omega) ?_
        refine qa c1'.2.2 ?_
        refine qb (by omega) ?_
        refine qb (by omega) ?_
        refine qa c1'.1 ?_
        rw [qb1 C hC _ c1'.1 c1'.2.1]
        exact hr
      cases hb:C.testBit (rd_T103 N p).f0.toNat
      case true=>
        refine hno (by rw [vis,if_pos hp,if_neg c0,if_neg (by rw [hb];simp)]) (hin2 _ ?_)
        rw [hb]
        exact qa (by decide) (Ev.now _)
      have hv:vis l N (d+1) p C V=(vis l N d (rd_T103 N p).f1.toNat (wC C (rd_T103 N p).f0) (wV V (rd_T103 N p).f0 false)).bind fun a=>(vis l N d (rd_T103 N p).f2.toNat (wC C (rd_T103 N p).f0) (wV V (rd_T103 N p).f0 true)).bind fun b=>some (p :: (a++b)):=by
        rw [vis,if_pos hp,if_neg c0,if_pos ⟨c1.1,c1.2.1,c1.2.2,hb⟩]
      have hfr:Free C V ((rd_T103 N p).f0 :: []):=⟨hs,fun w hw=>by rw [List.mem_singleton] at hw;rw [hw];exact hb⟩
      have wl:=qbK hC c1'.1 c1'.2.1
      have wv:=fun b=>qbL b hV c1'.1 c1'.2.1
      have hw:=fun b=>qdc (vs:=[]) b hC hV ⟨c1'.1,c1'.2.1⟩ hfr
      obtain ⟨r1,e1,l1,t1,f1⟩:=qaM h N hn d (rd_T103 N p).f1.toNat _ _ (M.set p true) (by omega) (by rw [List.length_set];exact hM) wl (wv false) (qb7 hs _ _)
      rw [← qe (by omega:0≤(rd_T103 N p).f1)] at e1
      rw [hv]
      have hstep:∀ r,Ev (fun k=>if r1.1=true then ((ancepsref40_choices_with.f C V (rd_T103 N p).f0 1).bind fun bt591=>((ancepsref40_below.f k l N (rd_T103 N p).f2 bt591.1 bt591.2 r1.2).bind fun bt593=>(some (bt593.1,bt593.2)))) else (some (false,r1.2))) r→Ev (fun k=>ancepsref40_below.f k l N p (C:Int) (V:Int) M) r:=fun r hr=>by
        refine hin2 r ?_
        rw [hb]
        refine qb (by decide) ?_
        refine Ev.bind (hw false) ?_
        refine Ev.bind e1 ?_
        exact hr
      cases h1:r1.1
      case false=>
        refine ⟨(false,r1.2),hstep _ (by rw [h1];exact qb (by decide) (Ev.now _)),l1,by simp,fun _ Q hQ hnd hu=>?_⟩
        cases v1:vis l N d (rd_T103 N p).f1.toNat (wC C (rd_T103 N p).f0) (wV V (rd_T103 N p).f0 false) with
        | none=>rw [v1] at hQ;cases hQ
        | some a=>
          rw [v1,Option.bind_some] at hQ
          cases v2:vis l N d (rd_T103 N p).f2.toNat (wC C (rd_T103 N p).f0) (wV V (rd_T103 N p).f0 true) with
          | none=>rw [v2] at hQ;cases hQ
          | some b=>
            rw [v2,Option.bind_some] at hQ
            obtain rfl:=(Option.some.inj hQ).symm
            rw [List.nodup_cons,List.nodup_append] at hnd
            refine f1 h1 a v1 hnd.2.1 (fun j hj=>?_)
            rw [hset,if_neg (fun e=>hnd.1 (by rw [e];exact List.mem_append_left _ hj))]
            exact hu j (.tail _ (List.mem_append_left _ hj))
      obtain ⟨a,v1,n1,u1,m1⟩:=t1 h1
      obtain ⟨r2,e2,l2,t2,f2⟩:=qaM h N hn d (rd_T103 N p).f2.toNat _ _ r1.2 (by omega) l1 wl (wv true) (qb7 hs _ _)
      rw [← qe (by omega:0≤(rd_T103 N p).f2)] at e2
      rw [v1,Option.bind_some]
      refine ⟨r2,hstep _ (by rw [h1];exact qa rfl (Ev.bind (hw true) (Ev.bind e2 (Ev.now _)))),l2,fun h2=>?_,fun h2 Q hQ hnd hu=>?_⟩
      · obtain ⟨b,v2,n2,u2,m2⟩:=t2 h2
        refine ⟨p :: (a++b),by rw [v2];rfl,?_,fun j hj=>?_,fun j=>?_⟩
        · have sa:=(qx _ _ _ _ _ _ _ v1).2.1
          have sb:=(qx _ _ _ _ _ _ _ v2).2.1
          rw [List.nodup_cons,List.nodup_append]
          refine ⟨fun hc=>?_,n1,n2,fun x hx y hy e=>?_⟩
          · rcases List.mem_append.1 hc with hc|hc
            · have:=(sa p hc).1;omega
            · have:=(sb p hc).1;omega
          · subst e
            have:=u2 x hy
            rw [m1,decide_eq_true hx,Bool.or_true] at this
            cases this
        · rcases List.mem_cons.1 hj with rfl|hj
          · exact hm
          · have hu1:∀ x,rdOf false (M.set p true) ((x:Nat):Int)=false→rdOf false M (x:Int)=false:=fun x hx=>by
              rw [hset] at hx
              split at hx
              · cases hx
              · exact hx
            rcases List.mem_append.1 hj with hj|hj
            · exact hu1 j (u1 j hj)
            · have:=u2 j hj
              rw [m1,Bool.or_eq_false_iff] at this
              exact hu1 j this.1
        · rw [m2,m1,hset]
          by_cases e:p=j
          · rw [if_pos e];simp [e]
          · rw [if_neg e,Bool.or_assoc]
            congr 1
            rw [Bool.eq_iff_iff]
            simp [List.mem_append]
            omega
      · cases v2:vis l N d (rd_T103 N p).f2.toNat (wC C (rd_T103 N p).f0) (wV V (rd_T103 N p).f0 true) with
        | none=>rw [v2] at hQ;cases hQ
        | some b=>
          rw [v2,Option.bind_some] at hQ
          obtain rfl:=(Option.some.inj hQ).symm
          rw [List.nodup_cons,List.nodup_append] at hnd
          refine f2 h2 b v2 hnd.2.2.1 (fun j hj=>?_)
          rw [m1,hset,if_neg (fun e=>hnd.1 (by rw [e];exact List.mem_append_right _ hj)),hu j (.tail _ (List.mem_append_right _ hj)),Bool.false_or,decide_eq_false_iff_not]
          exact fun hc=>hnd.2.2.2 j hc j hj rfl
theorem qaE (M:List Bool) (hn:M.length≤2000):∀ (d i:Nat),i+d=M.length→Ev (fun k=>ancepsref40_Check.l0 k M i) ((M.drop i).all id)
  | 0,i,h=>by
    rw [List.drop_eq_nil_of_le (by omega)]
    refine Ev.step (fun k=>by rw [ancepsref40_Check.l0,if_neg (by omega)]) ?_
    exact Ev.now _
  | d+1,i,h=>by
    have hi:i<M.length:=by omega
    have hw:=qc i M.length hi (by omega)
    have hd:M.drop i=rdOf false M (i:Int) :: M.drop (i+1):=qB M i false hi
    rw [hd,List.all_cons]
    refine Ev.step (fun k=>by rw [ancepsref40_Check.l0,if_pos (by omega),if_pos (by omega),hw]) ?_
    cases rdOf false M (i:Int)
    · refine qb (by decide) ?_
      exact Ev.now _
    · refine qa rfl ?_
      exact qaE M hn d (i+1) (by omega)
theorem qcZ (l:List S63) (hs:Sm l) (hl:l.length≤1000) (N:List S103):Ev (fun k=>ancepsref40_Check.f k l N) (q9 l N):=by
  refine Ev.bind (qk l hs hl) ?_
  unfold q9
  refine qd (fun h=>?_) (fun h=>Ev.now _)
  have hv:=(qg l).1 h
  have hr:=qdf l N
  by_cases h0:(N.length:Int)=0
  · refine qa h0 ?_
    refine qf (Ev.now _) ?_
    cases e:(qT l.length N&&(vis l N N.length 0 0 0).isSome)
    · rfl
    · have:=(hr.1 e).1;omega
  refine qb h0 ?_
  by_cases h2:(N.length:Int)>2000
  · refine qa h2 ?_
    refine qf (Ev.now _) ?_
    cases e:(qT l.length N&&(vis l N N.length 0 0 0).isSome)
    · rfl
    · have:=(hr.1 e).2.1;omega
  refine qb h2 ?_
  refine qa (by omega) ?_
  refine qa (by omega) ?_
  rw [Int.toNat_natCast]
  have hz:∀ j:Nat,rdOf false (List.replicate N.length false) (j:Int)=false:=fun j=>by rw [rdOf,List.getD,Int.toNat_natCast,List.getElem?_replicate];split <;> rfl
  obtain ⟨r,e1,l1,t1,f1⟩:=qaM hv N (by omega) N.length 0 0 0 (List.replicate N.length false) (by omega) List.length_replicate (by decide) (by decide) (fun j hj=>by simp at hj)
  refine Ev.bind e1 ?_
  cases hr1:r.1
  · refine qb (by decide) ?_
    refine qf (Ev.now _) ?_
    cases e:(qT l.length N&&(vis l N N.length 0 0 0).isSome)
    · rfl
    · obtain ⟨_,_,Q,hQ,hn,_⟩:=hr.1 e
      exact absurd (fun j _=>hz j) (f1 hr1 Q hQ hn)
  · refine qa rfl ?_
    obtain ⟨Q,hQ,hn,_,hm⟩:=t1 hr1
    have e2:=qaE r.2 (by omega) r.2.length 0 (by omega)
    rw [List.drop_zero] at e2
    refine qf e2 ?_
    rw [Bool.eq_iff_iff,hr,List.all_eq_true]
    have hg:∀ j (hj:j<r.2.length),r.2[j]=decide (j∈Q):=fun j hj=>by
      have:=hm j
      rw [hz,Bool.false_or] at this
      rw [← this,rdOf,List.getD,Int.toNat_natCast,List.getElem?_eq_getElem hj,Option.getD_some]
    constructor
    · intro ha
      refine ⟨by omega,by omega,Q,hQ,hn,fun j hj=>?_⟩
      have:=ha r.2[j] (List.getElem_mem _)
      rw [hg] at this
      simpa using this
    · rintro ⟨_,_,Q',hQ',_,hc⟩ x hx
      rw [hQ] at hQ'
      obtain rfl:=(Option.some.inj hQ').symm
      obtain ⟨j,hj,e⟩:=List.getElem_of_mem hx
      rw [← e,hg]
      simpa using hc j (by omega)
theorem qy (l:List Int) (h:l.length<17592186044416):slices_Clone_int_int.f l=some l:=by
  unfold slices_Clone_int_int.f
  simp only [Option.bind_some,List.length_nil,List.nil_append,if_pos (show 0+l.length<17592186044416 by omega)]

theorem qa4 (l:List Int) (hl:(l.length:Int)≤9223372036854775807):∀ (d i:Nat),i+d=l.length→Ev (fun k=>ancepsref38_Lists.l0 k l l i) true
  | 0,i,h=>Ev.step (f:=fun _=>some true) (fun k=>by rw [ancepsref38_Lists.l0,if_neg (by omega)]) (Ev.now _)
  | d+1,i,h=>by
    have hw:=qc i l.length (by omega) hl
    refine Ev.step (fun k=>?_) (qa4 l hl d (i+1) (by omega))
    rw [ancepsref38_Lists.l0,if_pos (by omega),if_pos (by omega),if_pos (by omega),if_pos rfl,hw]
theorem qb8 (l:List Int) (hl:(l.length:Int)≤9223372036854775807):Ev (fun k=>ancepsref38_Lists.f k l l) true:=
  qa rfl (qa4 l hl l.length 0 (by omega))
theorem qdg (vs rs:List Int) (hl:(vs.length:Int)≤9223372036854775807) (hr:(rs.length:Int)≤9223372036854775807):Ev (fun k=>ancepsref38_Equal.f k vs rs vs rs) true:=
  Ev.bind (qb8 vs hl) (qa rfl (Ev.bind (qb8 rs hr) (Ev.now _)))

def giv (l:List S63) (v x:Int):List S63×Int:=if qn l=0 then (if v<0 then ([],6) else if v≥24 then ([],6) else if x<0 then ([],6) else if x>1 then ([],6) else if (l.length:Int)=16 then ([],3) else (l++[⟨[v],[x]⟩],0)) else ([],qn l)
theorem qa5 (l:List S63) (hs:Sm l) (hl:l.length≤1000) (v x:Int):∀ (d i:Nat) (acc:List S63),i+d=l.length→acc.length≤i→Ev (fun k=>solve_Given.l0 k v x acc l l.length i) ((acc++l.drop i)++[⟨[v],[x]⟩],0)
  | 0,i,acc,h,ha=>by
    rw [List.drop_eq_nil_of_le (by omega),List.append_nil]
    exact Ev.step (fun k=>by rw [solve_Given.l0,if_neg (by omega),if_pos (by omega)]) (Ev.now _)
  | d+1,i,acc,h,ha=>by
    have hi:i<l.length:=by omega
    have hw:=qc i l.length hi (by omega)
    have hm:=hs _ (qj l i hi)
    have ih:=qa5 l hs hl v x d (i+1) (acc++[rd_T63 l i]) (by omega) (by simp;omega)
    rw [List.append_assoc acc,List.singleton_append,← qp l i hi] at ih
    refine Ev.step (fun k=>?_) ih
    rw [solve_Given.l0,if_pos (by omega),if_pos (by omega),if_pos (by omega),qy _ (by omega),qy _ (by omega),hw]
    simp only [Option.bind_some]
    rw [if_pos (by omega)]
theorem qY (l:List S63) (hs:Sm l) (hl:l.length≤1000) (v x:Int):Ev (fun k=>solve_Given.f k l v x) (giv l v x):=by
  refine Ev.bind (qv l hs hl) (qd (fun _=>qd (fun _=>Ev.now _) (fun _=>qd (fun _=>Ev.now _) (fun _=>qd (fun _=>Ev.now _) (fun _=>qd (fun _=>Ev.now _) (fun _=>qd (fun _=>Ev.now _) (fun _=>?_)))))) (fun _=>Ev.now _))
  have:=qa5 l hs hl v x l.length 0 [] (by omega) (by simp)
  rw [List.drop_zero,List.nil_append] at this
  exact this
theorem qdB (l:List S63) (hs:Sm l) (hl:l.length≤1000) (v x:Int):Ev (fun k=>ancepsref40_Given.f k l v x) (giv l v x):=by
  refine Ev.bind (qk l hs hl) (qd (fun _=>qd (fun _=>Ev.now _) (fun _=>?_)) (fun _=>Ev.now _))
  have hE:Ev (fun k=>if (l.length:Int)=16 then some ([],3) else (some []).bind fun a=>if (a:List S63).length+l.length<2932031007402 then (some (a++l)).bind fun b=>if b.length<2932031007402 then some (b++[(⟨[v],[x]⟩:S63)],(0:Int)) else none else none) (if (l.length:Int)=16 then ([],3) else (l++[⟨[v],[x]⟩],0)):=by
    refine qd (fun _=>Ev.now _) (fun _=>Ev.bind (Ev.now []) (qa (by simp;omega) (Ev.bind (Ev.now ([]++l)) (qa (by simp;omega) ?_))))
    exact qf (Ev.now _) (by rw [List.nil_append])
  exact qd (fun _=>Ev.now _) (fun _=>qd (fun _=>Ev.now _) (fun _=>qd (fun _=>Ev.now _) (fun _=>hE)))
theorem qao {l:List S63} (hs:Sm l) (hl:l.length≤100) (v x:Int):Sm (giv l v x).1∧(giv l v x).1.length≤1000:=by
  have h0:Sm []:=fun t ht=>by simp at ht
  unfold giv
  repeat' split
  all_goals first|exact ⟨h0,by simp⟩|skip
  refine ⟨fun t ht=>?_,by simp;omega⟩
  rcases List.mem_append.1 ht with h|h
  · exact hs t h
  · rw [List.mem_singleton.1 h];exact ⟨by simp,by simp⟩
theorem qb9 (vs:List Int) (hv:∀ v,v∈vs→0≤v∧v<24) (hl:vs.length≤24) (a:Nat) (ha:a<2 ^ 60):∀ (d i out:Nat),i+d=vs.length→out<2 ^ i→
    Ev (fun k=>table_row.l0 k (a:Int) (out:Int) vs vs.length i) ((qF a (vs.drop i) i out:Nat):Int)
  | 0,i,out,h,ho=>by
    rw [List.drop_eq_nil_of_le (by omega)]
    exact Ev.step (f:=fun _=>some (out:Int)) (fun k=>by rw [table_row.l0,if_neg (by omega)]) (Ev.now _)
  | d+1,i,out,h,ho=>by
    have hi:i<vs.length:=by omega
    have hw:=qc i vs.length hi (by omega)
    have hm:=hv _ (qs vs i hi)
    have ih:=qb9 vs hv hl a ha d (i+1) _ (by omega) (qC (a.testBit (rd vs i).toNat) out i ho)
    rw [qi vs i hi,qF]
    refine Ev.step (fun k=>?_) ih
    rw [table_row.l0,if_pos (by omega),if_pos (by omega),if_pos (by omega),if_pos (by omega),hw]
    have hb:=qbP a (rd vs i).toNat i out ha (by omega) (by omega) ho
    rw [← qe hm.1] at hb
    rw [hb]
theorem qdV (vs:List Int) (hv:∀ v,v∈vs→0≤v∧v<24) (hl:vs.length≤24) (a:Nat) (ha:a<2 ^ 60):Ev (fun k=>table_row.f k vs (a:Int)) ((row vs a:Nat):Int):=by
  have:=qb9 vs hv hl a ha vs.length 0 0 (by omega) (by decide)
  exact this
theorem qca {vs:List Int} (r:Nat) (hr:r<2 ^ 60) (hl:vs.length≤24):∀ (d i out:Nat) (p:Option Int),i+d=vs.length→Chn 24 p (vs.drop i)→q6 out (vs.drop i)→
    Ev (fun k=>table_assignment.l0 k (r:Int) (out:Int) vs vs.length i) ((qQ r (vs.drop i) i out:Nat):Int)
  | 0,i,out,p,h,hc,ho=>by
    rw [List.drop_eq_nil_of_le (by omega)]
    exact Ev.step (f:=fun _=>some (out:Int)) (fun k=>by rw [table_assignment.l0,if_neg (by omega)]) (Ev.now _)
  | d+1,i,out,p,h,hc,ho=>by
    have hi:i<vs.length:=by omega
    have hw:=qc i vs.length hi (by omega)
    rw [qi vs i hi] at hc ho ⊢
    have hx:=qC (r.testBit i) out (rd vs i).toNat ho
    have ih:=qca r hr hl d (i+1) _ (some (rd vs i)) (by omega) hc.2.2.2 (qL hc.2.2.2 hc.1 hx)
    rw [qQ]
    refine Ev.step (fun k=>?_) ih
    have h0:=hc.1
    have h1:=hc.2.1
    rw [table_assignment.l0,if_pos (by omega),if_pos (by omega),if_pos (by omega),if_pos (by omega),hw]
    have hb:=qbP r i (rd vs i).toNat out hr (by omega) (by omega) ho
    rw [← qe h0] at hb
    rw [hb]
theorem qdW {vs:List Int} (hc:Chn 24 none vs) (hl:vs.length≤24) (r:Nat) (hr:r<2 ^ 60):Ev (fun k=>table_assignment.f k vs (r:Int)) ((asg vs r:Nat):Int):=by
  have:=qca r hr hl vs.length 0 0 none (by omega) hc (qM _)
  exact this
theorem qU {hi:Int} {rs:List Int} (hc:Chn hi none rs) (hl:(rs.length:Int)≤1000000) (x:Int):∀ (d i j:Nat),j - i≤d→i≤j→j≤rs.length→(∀ m y,m<i→rs[m]?=some y→y<x)→(∀ m y,j≤m→rs[m]?=some y→x≤y)→
    ∃ q:Int×Bool,Ev (fun k=>slices_BinarySearch_int_int.l0 k rs x rs.length i j) q∧(q.2=true↔x∈rs)
  | d,i,j,hd,hij,hj,hlo,hhi=>by
    by_cases h:i<j
    · cases d with
      | zero=>omega
      | succ d=>
        have hh:(wrap64 ((IntKind.u64.wrap (wrap64 ((i:Int)+(j:Int)))) / 2))=(((i+j) / 2:Nat):Int):=by
          rw [qh ((i:Int)+j) (by omega),qc8 _ (by omega) (by omega),qh _ (by omega)];omega
        have hm:(i+j) / 2<rs.length:=by omega
        have hg:=qcR rs ((i+j) / 2) hm
        have hless:cmp_Less_int.f (rd rs (((i+j) / 2:Nat):Int)) x=some (decide (rd rs (((i+j) / 2:Nat):Int)<x)):=by
          simp [cmp_Less_int.f,cmp_isNaN_int.f]
        by_cases hx:rd rs (((i+j) / 2:Nat):Int)<x
        · obtain ⟨q,hq,hqi⟩:=qU hc hl x d ((i+j) / 2+1) j (by omega) (by omega) hj (fun m y hm2 hy=>by
            by_cases e:m=(i+j) / 2
            · subst e;rw [hg] at hy;injection hy with hy;omega
            · have:=hc.below m ((i+j) / 2) y _ (by omega) hy hg;omega) hhi
          refine ⟨q,Ev.step (fun k=>?_) hq,hqi⟩
          rw [slices_BinarySearch_int_int.l0,if_pos (by omega),hh,if_pos (by omega),if_pos (by omega),hless,Option.bind_some,if_pos (decide_eq_true hx),qh _ (by omega)]
          rfl
        · obtain ⟨q,hq,hqi⟩:=qU hc hl x d i ((i+j) / 2) (by omega) (by omega) (by omega) hlo (fun m y hm2 hy=>by
            by_cases e:m=(i+j) / 2
            · subst e;rw [hg] at hy;injection hy with hy;omega
            · have:=hc.below ((i+j) / 2) m _ y (by omega) hg hy;omega)
          refine ⟨q,Ev.step (fun k=>?_) hq,hqi⟩
          rw [slices_BinarySearch_int_int.l0,if_pos (by omega),hh,if_pos (by omega),if_pos (by omega),hless,Option.bind_some,if_neg (by simpa using hx)]
    · have e:i=j:=by omega
      subst e
      by_cases hn:i<rs.length
      · have hg:=qcR rs i hn
        by_cases hx:rd rs i=x
        · refine ⟨((i:Int),true),Ev.step (f:=fun _=>some ((i:Int),true)) (fun k=>?_) (Ev.now _),⟨fun _=>hx ▸ qs rs i hn,fun _=>rfl⟩⟩
          rw [slices_BinarySearch_int_int.l0,if_neg (by omega),if_pos (by omega),if_pos (by omega),if_pos (by omega),if_pos hx]
        · refine ⟨((i:Int),false),Ev.step (f:=fun _=>some ((i:Int),false)) (fun k=>?_) (Ev.now _),⟨fun h=>by simp at h,fun hm=>?_⟩⟩
          · rw [slices_BinarySearch_int_int.l0,if_neg (by omega),if_pos (by omega),if_pos (by omega),if_pos (by omega),if_neg hx]
            simp [slices_isNaN_int.f]
          · obtain ⟨m,hm2⟩:=List.getElem?_of_mem hm
            rcases Nat.lt_trichotomy m i with h2|h2|h2
            · have:=hlo m x h2 hm2;omega
            · subst h2;rw [hg] at hm2;injection hm2 with hm2;exact absurd hm2 hx
            · have h3:=hc.below i m _ x h2 hg hm2
              have h4:=hhi i _ (Nat.le_refl _) hg
              omega
      · refine ⟨((i:Int),false),Ev.step (f:=fun _=>some ((i:Int),false)) (fun k=>?_) (Ev.now _),⟨fun h=>by simp at h,fun hm=>?_⟩⟩
        · rw [slices_BinarySearch_int_int.l0,if_neg (by omega),if_neg (by omega)]
        · obtain ⟨m,hm2⟩:=List.getElem?_of_mem hm
          have hml:m<rs.length:=(List.getElem?_eq_some_iff.1 hm2).1
          have:=hlo m x (by omega) hm2;omega
theorem qcF {hi:Int} {rs:List Int} (hc:Chn hi none rs) (hl:(rs.length:Int)≤1000000) (x:Int):∃ q:Int×Bool,Ev (fun k=>slices_BinarySearch_int_int.f k rs x) q∧q.2=decide (x∈rs):=by
  obtain ⟨q,hq,hqi⟩:=qU hc hl x rs.length 0 rs.length (by omega) (by omega) (Nat.le_refl _) (fun m y h=>by omega) (fun m y h hy=>by
    have:=(List.getElem?_eq_some_iff.1 hy).1;omega)
  exact ⟨q,hq,by rw [Bool.eq_iff_iff,hqi];simp⟩
theorem qdC {vs rs:List Int} (h:VT vs rs) (a:Nat) (ha:a<2 ^ 60):Ev (fun k=>table_has.f k vs rs (a:Int)) (hs vs rs a):=by
  have h1:=h.rows_len
  have h2:=h.len
  refine Ev.bind (qdV vs h.vars' (by omega) a ha) ?_
  obtain ⟨q,hq,hq2⟩:=qcF h.rows (by omega) ((row vs a:Nat):Int)
  refine Ev.bind hq ?_
  rw [show hs vs rs a=q.2 from hq2.symm]
  exact Ev.now _

theorem qdX (a:Nat) (v:Int) (b:Bool) (ha:a<2 ^ 24) (h0:0≤v) (h1:v<24):Go.bits .or .i64 (a:Int) (shl .i64 ((b.toNat:Nat):Int) v)=((qR a v b:Nat):Int):=by
  have hw:∀ z:Int,0≤z→z<2 ^ 62→IntKind.i64.wrap z=z:=fun z h0 h1=>by
    rw [IntKind.wrap_i64]
    have:(2:Int) ^ 62=4611686018427387904:=by decide
    omega
  have hb:IntKind.i64.bits=64:=rfl
  have hip:(2:Nat) ^ v.toNat≤2 ^ 24:=Nat.pow_le_pow_right (by decide) (by omega)
  have h24:(2:Nat) ^ 24=16777216:=by decide
  have h62:(2:Nat) ^ 62=4611686018427387904:=by decide
  have hbl:b.toNat * 2 ^ v.toNat≤2 ^ v.toNat:=by cases b <;> simp
  have h3:shl .i64 ((b.toNat:Nat):Int) v=((b.toNat * 2 ^ v.toNat:Nat):Int):=by
    unfold shl
    rw [hb,show min v.toNat 64=v.toNat by omega]
    have e:((b.toNat:Nat):Int) * 2 ^ v.toNat=((b.toNat * 2 ^ v.toNat:Nat):Int):=by simp
    rw [e]
    exact hw _ (by omega) (by have:(2:Int) ^ 62=4611686018427387904:=by decide
                              omega)
  rw [h3,(bits_nat .i64 62 (by decide) hw a _ (by omega) (by omega)).2]
  rfl
theorem qdD (a:Nat) (v:Int) (b:Bool) (ha:a<2 ^ 24) (h1:v<24):qR a v b<2 ^ 60:=by
  have h2:(2:Nat) ^ v.toNat≤2 ^ 24:=Nat.pow_le_pow_right (by decide) (by omega)
  have hbl:b.toNat * 2 ^ v.toNat≤2 ^ v.toNat:=by cases b <;> simp
  have h3:b.toNat * 2 ^ v.toNat<2 ^ 60:=Nat.lt_of_le_of_lt (Nat.le_trans hbl h2) (by decide)
  exact Nat.or_lt_two_pow (Nat.lt_of_lt_of_le ha (by decide)) h3
theorem qcG (l:List Int) (a:Int) (h:l.length<17592186044416):Ev (fun _=>table_without.f l a) (wo l a):=by
  unfold table_without.f
  rw [qy l h]
  exact Ev.now _
theorem qcb (a b:List Int) (hl:a.length=b.length) (hm:(a.length:Int)≤9223372036854775807):∀ (d i:Nat),i+d=a.length→Ev (fun k=>slices_Equal_int_int.l0 k a b a.length i) (decide (a.drop i=b.drop i))
  | 0,i,h=>by
    rw [List.drop_eq_nil_of_le (show a.length≤i by omega),List.drop_eq_nil_of_le (show b.length≤i by omega)]
    exact Ev.step (f:=fun _=>some true) (fun k=>by rw [slices_Equal_int_int.l0,if_neg (by omega)]) (Ev.now _)
  | d+1,i,h=>by
    have hi:i<a.length:=by omega
    have hw:=qc i a.length hi hm
    have ih:=qcb a b hl hm d (i+1) (by omega)
    rw [qi a i hi,qi b i (by omega)]
    by_cases e:rd a i=rd b i
    · have:decide (rd a i :: a.drop (i+1)=rd b i :: b.drop (i+1))=decide (a.drop (i+1)=b.drop (i+1)):=decide_eq_decide.2 ⟨fun h=>by injection h,fun h=>by rw [e,h]⟩
      rw [this]
      exact Ev.step (fun k=>by rw [slices_Equal_int_int.l0,if_pos (by omega),if_pos (by omega),if_pos (by omega),if_pos (by omega),if_pos e,hw]) ih
    · have:decide (rd a i :: a.drop (i+1)=rd b i :: b.drop (i+1))=false:=decide_eq_false (fun h=>e (by injection h))
      rw [this]
      exact Ev.step (f:=fun _=>some false) (fun k=>by rw [slices_Equal_int_int.l0,if_pos (by omega),if_pos (by omega),if_pos (by omega),if_pos (by omega),if_neg e]) (Ev.now _)
theorem qdY (a b:List Int) (hm:(a.length:Int)≤9223372036854775807):Ev (fun k=>slices_Equal_int_int.f k a b) (decide (a=b)):=by
  unfold slices_Equal_int_int.f
  by_cases hl:a.length=b.length
  · refine qa (by omega) ?_
    have:=qcb a b hl hm a.length 0 (by omega)
    rw [List.drop_zero,List.drop_zero] at this
    exact this
  · have:decide (a=b)=false:=decide_eq_false (fun h=>hl (by rw [h]))
    rw [this]
    exact qb (by omega) (Ev.now _)
theorem qap {vs:List Int} (hc:Chn 24 none vs) (hl:vs.length≤10) (t0 t1:List Int) (b v:Int) (t:Nat→Bool) (ht:∀ a:Nat,a<2 ^ 24→Ev (fun k=>table_Restrict_1_v1.f k (a:Int) t0 t1 b v) (t a)) (V:List Int) (N:Nat) (hN:N≤1024):∀ (d r:Nat) (acc:List Int),r+d=N→acc.length≤r→
    Ev (fun k=>table_over_table_Restrict_1.l0 k vs (N:Int) (r:Int) t0 t1 b v V acc) (V,acc++flt (fun r=>t (asg vs r)) d r)
  | 0,r,acc,h,ha=>Ev.step (f:=fun _=>some (V,acc)) (fun k=>by rw [table_over_table_Restrict_1.l0,if_neg (by omega)]) (by simpa [flt] using Ev.now _)
  | d+1,r,acc,h,ha=>by
    have hw:wrap64 ((r:Int)+1)=((r+1:Nat):Int):=by rw [qh _ (by omega)];omega
    have hr:r<2 ^ 60:=Nat.lt_of_le_of_lt (show r≤1024 by omega) (by decide)
    refine Ev.step (fun k=>by rw [table_over_table_Restrict_1.l0,if_pos (by omega)]) (Ev.bind (qdW hc (by omega) r hr) (Ev.bind (ht _ (qcQ hc r)) ?_))
    rw [flt,hw]
    by_cases e:t (asg vs r)=true
    · have ih:=qap hc hl t0 t1 b v t ht V N hN d (r+1) (acc++[(r:Int)]) (by omega) (by simp;omega)
      rw [if_pos e]
      rw [List.append_assoc,List.singleton_append] at ih
      exact qa e (qa (by omega) ih)
    · have ih:=qap hc hl t0 t1 b v t ht V N hN d (r+1) acc (by omega) (by omega)
      rw [if_neg e]
      exact qb e ih
theorem qdE {vs:List Int} (hc:Chn 24 none vs) (hl:vs.length≤10) (t0 t1:List Int) (b v:Int) (t:Nat→Bool) (ht:∀ a:Nat,a<2 ^ 24→Ev (fun k=>table_Restrict_1_v1.f k (a:Int) t0 t1 b v) (t a)):Ev (fun k=>table_over_table_Restrict_1.f k vs t0 t1 b v) (vs,ovr vs t):=by
  unfold table_over_table_Restrict_1.f
  rw [qy vs (by omega),qI vs.length (by omega)]
  exact qap hc hl t0 t1 b v t ht vs (2 ^ vs.length) (qaQ hl) (2 ^ vs.length) 0 [] (by omega) (by simp)

theorem qaq (F:List Bool) (us:List Int) (hl:F.length≤1024):∀ (d i:Nat) (acc:List Int),i+d=F.length→acc.length≤i→Ev (fun k=>ancepsref38_projected.l1 k F i us acc) (us,acc++flt (fun m=>rdOf false F (m:Int)) d i)
  | 0,i,acc,h,ha=>Ev.step (f:=fun _=>some (us,acc)) (fun k=>by rw [ancepsref38_projected.l1,if_neg (by omega)]) (by simpa [flt] using Ev.now _)
  | d+1,i,acc,h,ha=>by
    have hw:=qc i F.length (by omega) (by omega)
    rw [flt]
    by_cases e:rdOf false F (i:Int)=true
    · have ih:=qaq F us hl d (i+1) (acc++[(i:Int)]) (by omega) (by simp;omega)
      rw [if_pos e]
      rw [List.append_assoc,List.singleton_append] at ih
      exact Ev.step (fun k=>by rw [ancepsref38_projected.l1,if_pos (by omega),if_pos (by omega),if_pos e,if_pos (by omega),hw]) ih
    · have ih:=qaq F us hl d (i+1) acc (by omega) (by omega)
      rw [if_neg e]
      exact Ev.step (fun k=>by rw [ancepsref38_projected.l1,if_pos (by omega),if_pos (by omega),if_neg e,hw]) ih
theorem qbx {vs rs:List Int} (hc:Chn 24 none vs) (hvl:vs.length≤24) (hr0:∀ r,r∈rs→0≤r) (hrl:(rs.length:Int)≤1000000) {us:List Int} (hu:∀ v,v∈us→0≤v∧v<24) (hul:us.length≤10) (V:List Int) {q:List Int×List Int}:∀ (d i:Nat) (F:List Bool),i+d=rs.length→F.length=2 ^ us.length→
    Ev (fun k=>ancepsref38_projected.l1 k (fnd vs us (rs.drop i) F) 0 V []) q→Ev (fun k=>ancepsref38_projected.l0 k us F i vs rs V) q
  | 0,i,F,h,hF,hq=>by
    rw [List.drop_eq_nil_of_le (by omega)] at hq
    exact Ev.step (fun k=>by rw [ancepsref38_projected.l0,if_neg (by omega)];rfl) hq
  | d+1,i,F,h,hF,hq=>by
    have hi:i<rs.length:=by omega
    have hw:=qc i rs.length hi (by omega)
    have h0:=hr0 _ (qs rs i hi)
    rw [qi rs i hi,fnd] at hq
    have ih:=qbx hc hvl hr0 hrl hu hul V d (i+1) _ (by omega) (by simpa using hF) hq
    have ha:=qW hc hvl (rd rs i).toNat
    rw [← qe h0] at ha
    have hlt:=qH us (asg vs (rd rs i).toNat)
    have hlt2:((row us (asg vs (rd rs i).toNat):Nat):Int)<(F.length:Int):=by rw [hF];omega
    refine Ev.step (fun k=>by rw [ancepsref38_projected.l0,if_pos (by omega),if_pos (by omega),hw]) (Ev.bind ha (Ev.bind (qbc us hu (by omega) _) (qa (Int.natCast_nonneg _) (qa hlt2 ?_))))
    rw [Int.toNat_natCast]
    exact ih
theorem qdF {vs rs:List Int} (hc:Chn 24 none vs) (hvl:vs.length≤24) (hr0:∀ r,r∈rs→0≤r) (hrl:(rs.length:Int)≤1000000) {us:List Int} (hu:∀ v,v∈us→0≤v∧v<24) (hul:us.length≤10):Ev (fun k=>ancepsref38_projected.f k vs rs us) (us,prj vs rs us):=by
  have hp:=qaQ hul
  unfold ancepsref38_projected.f
  rw [qI us.length (by omega)]
  refine qdt (qa (by simp;omega) (qa (Int.natCast_nonneg _) (qa (by rw [Int.toNat_natCast];omega) ?_)))
  rw [Int.toNat_natCast,List.nil_append]
  refine qbx hc hvl hr0 hrl hu hul us rs.length 0 _ (by omega) (by simp) ?_
  rw [List.drop_zero]
  have hfl:=qaT vs us rs (List.replicate (2 ^ us.length) false)
  rw [List.length_replicate] at hfl
  have:=qaq (fnd vs us rs (List.replicate (2 ^ us.length) false)) us (by rw [hfl];exact hp) (2 ^ us.length) 0 [] (by rw [hfl];omega) (by simp)
  rw [List.nil_append] at this
  unfold prj
  rw [qbl _ (fun m=>rdOf false (fnd vs us rs (List.replicate (2 ^ us.length) false)) (m:Int)) _ _ (fun m _ _=>by
    rw [qcS vs us rs _ (by simp) m]
    have:rdOf false (List.replicate (2 ^ us.length) false) (m:Int)=false:=by
      unfold rdOf
      simp only [List.getD,List.getElem?_replicate]
      split <;> rfl
    rw [this,Bool.false_or])]
  exact this

def qar (vs rs:List Int) (v:Int) (b:Bool):List Int×List Int×Int:=if v∈vs then (wo vs v,ovr (wo vs v) (fun a=>hs vs rs (qR a v b)),0) else ([],[],4)
def rst (vs rs:List Int) (v x:Int):List Int×List Int×Int:=if qu vs rs=0 then if x=0 then qar vs rs v false else if x=1 then qar vs rs v true else ([],[],6) else ([],[],qu vs rs)
theorem qdh (x n:Nat) (hn:n≤60):Int.tmod (shr .i64 (x:Int) (n:Int)) 2=(((x.testBit n).toNat:Nat):Int):=by
  have hb:IntKind.i64.bits=64:=rfl
  have h1:shr .i64 (x:Int) (n:Int)=((x / 2 ^ n:Nat):Int):=by
    unfold shr
    rw [hb,show min ((n:Int)).toNat 64=n by omega]
    simp
  rw [h1,Nat.toNat_testBit,Int.tmod_eq_emod_of_nonneg (Int.natCast_nonneg _)]
  simp
theorem qK (vs:List Int) (hl:vs.length≤1000000) (v:Int):∀ (d i:Nat) (acc:List Int),i+d=vs.length→acc.length≤i→Ev (fun k=>ancepsref38_without.l0 k vs v acc i) (acc++wo (vs.drop i) v)
  | 0,i,acc,h,ha=>by
    rw [List.drop_eq_nil_of_le (by omega)]
    exact Ev.step (f:=fun _=>some acc) (fun k=>by rw [ancepsref38_without.l0,if_neg (by omega)]) (by simpa [wo] using Ev.now _)
  | d+1,i,acc,h,ha=>by
    have hi:i<vs.length:=by omega
    have hw:=qc i vs.length hi (by omega)
    rw [qi vs i hi]
    by_cases e:rd vs i=v
    · have ih:=qK vs hl v d (i+1) acc (by omega) (by omega)
      have:wo (rd vs i :: vs.drop (i+1)) v=wo (vs.drop (i+1)) v:=by unfold wo;rw [List.filter_cons,if_neg (by simp [e])]
      rw [this]
      exact Ev.step (fun k=>by rw [ancepsref38_without.l0,if_pos (by omega),if_pos (by omega),if_pos e,hw]) ih
    · have ih:=qK vs hl v d (i+1) (acc++[rd vs i]) (by omega) (by simp;omega)
      have:wo (rd vs i :: vs.drop (i+1)) v=rd vs i :: wo (vs.drop (i+1)) v:=by unfold wo;rw [List.filter_cons,if_pos (by simp [e])]
      rw [this]
      rw [List.append_assoc,List.singleton_append] at ih
      exact Ev.step (fun k=>by rw [ancepsref38_without.l0,if_pos (by omega),if_pos (by omega),if_neg e,if_pos (by omega),hw]) ih
theorem qck (vs:List Int) (hl:vs.length≤1000000) (v:Int):Ev (fun k=>ancepsref38_without.f k vs v) (wo vs v):=by
  have:=qK vs hl v vs.length 0 [] (by omega) (by simp)
  rw [List.drop_zero,List.nil_append] at this
  exact this
theorem qab {vs rs:List Int} (h:VT vs rs) {v:Int} (hv:v∈vs) (b:Bool):∀ (d i:Nat) (acc:List Int),i+d=rs.length→acc.length≤i→(∀ r,r∈acc→0≤r)→
    Ev (fun k=>ancepsref38_Restrict.l0 k v ((b.toNat:Nat):Int) i vs rs vs acc) (wo vs v,prj vs (acc++(rs.drop i).filter fun r=>(asg vs r.toNat).testBit v.toNat == b) (wo vs v),0)
  | 0,i,acc,hd,ha,hp=>by
    have hl:=h.len
    have hwl:=qcD vs v
    have hr:=h.rows_len
    rw [List.drop_eq_nil_of_le (by omega),List.filter_nil,List.append_nil]
    have hu:∀ w,w∈wo vs v→0≤w∧w<24:=fun w hw=>h.vars' w ((qaS vs v w).1 hw).1
    refine Ev.step (fun k=>by rw [ancepsref38_Restrict.l0,if_neg (by omega)]) (Ev.bind (qck vs (by omega) v) (Ev.bind (qdF h.vars (by omega) hp (by omega) hu (by omega)) ?_))
    exact Ev.now _
  | d+1,i,acc,hd,ha,hp=>by
    have hl:=h.len
    have hr:=h.rows_len
    have hi:i<rs.length:=by omega
    have hw:=qc i rs.length hi (by omega)
    have hv24:=h.vars' v hv
    have h0:=(h.row_of (qs rs i hi)).1
    have has:=qW h.vars (by omega) (rd rs i).toNat
    rw [← qe h0] at has
    have hb:=qdh (asg vs (rd rs i).toNat) v.toNat (by omega)
    rw [← qe hv24.1] at hb
    rw [qi rs i hi,List.filter_cons]
    refine Ev.step (fun k=>by rw [ancepsref38_Restrict.l0,if_pos (by omega),if_pos (by omega),hw]) (Ev.bind has (qa hv24.1 ?_))
    rw [hb]
    by_cases e:(asg vs (rd rs i).toNat).testBit v.toNat=b
    · have ih:=qab h hv b d (i+1) (acc++[rd rs i]) (by omega) (by simp;omega) (fun r hr2=>by
        rcases List.mem_append.1 hr2 with h2|h2
        · exact hp r h2
        · rw [List.mem_singleton.1 h2];exact h0)
      rw [List.append_assoc,List.singleton_append] at ih
      rw [if_pos (show ((asg vs (rd rs i).toNat).testBit v.toNat == b)=true from beq_iff_eq.2 e)]
      exact qa (by rw [e]) (qa (by omega) ih)
    · have ih:=qab h hv b d (i+1) acc (by omega) (by omega) hp
      rw [if_neg (show ¬ ((asg vs (rd rs i).toNat).testBit v.toNat == b)=true from fun hh=>e (beq_iff_eq.1 hh))]
      refine qb (fun hh=>e ?_) ih
      revert hh
      cases (asg vs (rd rs i).toNat).testBit v.toNat <;> cases b <;> simp
theorem qby {vs rs:List Int} (h:VT vs rs) (v:Int) (b:Bool):Ev (fun k=>ancepsref38_Restrict.j0 k v ((b.toNat:Nat):Int) false vs rs) (qar vs rs v b):=by
  have hl:=h.len
  refine Ev.step (fun k=>by rw [ancepsref38_Restrict.j0,if_neg (by simp)]) (Ev.bind (qdq vs (by omega) v) ?_)
  unfold qar
  by_cases hv:v∈vs
  · rw [if_pos hv,qcj h hv b]
    have:=qab h hv b rs.length 0 [] (by omega) (by simp) (fun r hr=>by simp at hr)
    rw [List.drop_zero,List.nil_append] at this
    exact qa (decide_eq_true hv) this
  · rw [if_neg hv]
    exact qb (by simpa using hv) (Ev.now _)
theorem qdi (vs rs:List Int) (hl:(vs.length:Int)≤9223372036854775807) (hr:(rs.length:Int)≤9223372036854775807) (v x:Int):Ev (fun k=>ancepsref38_Restrict.f k vs rs v x) (rst vs rs v x):=by
  refine Ev.bind (qbn vs rs hl hr) (qd (fun h=>?_) (fun _=>Ev.now _))
  have hv:=(qE vs rs).1 h
  refine qd (fun e=>?_) (fun e=>?_)
  · subst e;exact qby hv v false
  · by_cases e1:x=1
    · subst e1;rw [if_pos rfl];exact qby hv v true
    · have:(x != 1)=true:=by simp [e1]
      rw [if_neg e1,this]
      exact Ev.step (f:=fun _=>some ([],[],6)) (fun k=>by rw [ancepsref38_Restrict.j0,if_pos rfl]) (Ev.now _)
theorem qd8 {vs rs:List Int} (h:VT vs rs) {v:Int} (h0:0≤v) (h1:v<24) (b:Bool) (a:Nat) (ha:a<2 ^ 24):Ev (fun k=>table_Restrict_1_v1.f k (a:Int) vs rs ((b.toNat:Nat):Int) v) (hs vs rs (qR a v b)):=by
  have:=qdX a v b ha h0 h1
  unfold table_Restrict_1_v1.f
  rw [this]
  exact qa h0 (Ev.bind (qdC h _ (qdD a v b ha h1)) (Ev.now _))
theorem qbz {vs rs:List Int} (h:VT vs rs) (v:Int) (b:Bool):Ev (fun k=>(slices_Contains_int_int.f k vs v).bind fun t849=>if t849=true then (table_without.f vs v).bind fun t850=>(table_over_table_Restrict_1.f k t850 vs rs ((b.toNat:Nat):Int) v).bind fun bt853=>some (bt853.1,bt853.2,(0:Int)) else some ([],[],4)) (qar vs rs v b):=by
  have hl:=h.len
  refine Ev.bind (qz vs (by omega) v) ?_
  unfold qar
  by_cases hv:v∈vs
  · have hv24:=h.vars' v hv
    have hwl:=qcD vs v
    rw [if_pos hv]
    exact qa (decide_eq_true hv) (Ev.bind (qcG vs v (by omega)) (Ev.bind (qdE (qbT h.vars v) (by omega) vs rs _ v _ (qd8 h hv24.1 hv24.2 b)) (Ev.now _)))
  · rw [if_neg hv]
    exact qb (by simpa using hv) (Ev.now _)
theorem qdj (vs rs:List Int) (hl:(vs.length:Int)≤9223372036854775807) (hr:(rs.length:Int)≤9223372036854775807) (v x:Int):Ev (fun k=>table_Restrict.f k vs rs v x) (rst vs rs v x):=by
  refine Ev.bind (q5 vs rs hl hr) (qd (fun h=>?_) (fun _=>Ev.now _))
  have hv:=(qE vs rs).1 h
  refine qd (fun e=>?_) (fun e=>?_)
  · subst e;exact qbz hv v false
  · by_cases e1:x=1
    · subst e1;rw [if_pos rfl];exact qa rfl (qbz hv v true)
    · rw [if_neg e1]
      exact qb e1 (Ev.now _)

def step (P:List Int→Bool) (out:List (List Int)) (s:List Int):List (List Int):=if (out.any fun o=>o.all fun x=>decide (x∈s))=true then out else if P s=true then out++[s] else out
theorem qdZ {l:List S63} (h:VS l):SS l≠[]↔∃ a,sat l a=true:=by
  unfold SS sl
  constructor
  · intro hn
    obtain ⟨x,hx⟩:=List.exists_mem_of_ne_nil _ hn
    obtain ⟨a,ha,_⟩:=List.mem_map.1 hx
    exact ⟨a,(List.mem_filter.1 ha).2⟩
  · rintro ⟨a,ha⟩ hn
    have hb:sat l (asg (occ l) (row (occ l) a)||| 0)=true:=by
      rw [Nat.or_zero]
      refine List.all_eq_true.2 (fun t ht=>?_)
      have:=List.all_eq_true.1 ha t ht
      rw [← this]
      exact qc9 _ _ (fun w hw=>qaR h.occ.1 a ((h.occ.2 w).2 (List.mem_flatMap.2 ⟨t,ht,hw⟩)))
    have:(asg (occ l) (row (occ l) a)||| 0)∈((List.range (2 ^ (occ l).length)).map fun i=>asg (occ l) i||| 0).filter (sat l):=List.mem_filter.2 ⟨List.mem_map.2 ⟨_,List.mem_range.2 (qH _ _),rfl⟩,hb⟩
    rw [List.map_eq_nil_iff] at hn
    rw [hn] at this
    cases this
theorem qdk {l:List S63} (h:VS l):(qm l).2=0↔∃ a,sat l a=true:=by
  rw [← qdZ h]
  unfold qm
  rw [if_pos ((qg l).2 h)]
  cases SS l with
  | nil=>exact ⟨fun e=>absurd e (by decide),fun e=>absurd rfl e⟩
  | cons x xs=>exact ⟨fun _ e=>(by cases e),fun _=>rfl⟩
def gvl (l:List S63):Int:=if qn l=0 then (if (l.length:Int)>15 then 3 else 0) else qn l
theorem qas {l:List S63} (h:gvl l=0):VS l∧l.length≤15:=by
  unfold gvl at h
  by_cases e:qn l=0
  · rw [if_pos e] at h
    by_cases e2:(l.length:Int)>15
    · rw [if_pos e2] at h;cases h
    · exact ⟨(qg l).1 e,by omega⟩
  · rw [if_neg e] at h;exact absurd h e
theorem qbA (l:List S63) (hs:Sm l) (hl:l.length≤1000):∀ (d i:Nat),i+d=l.length→Ev (fun k=>shared_given.l0 k l l l.length i) (if qt (l.drop i)=0 then (if (l.length:Int)>15 then 3 else 0) else qt (l.drop i))
  | 0,i,h=>by
    rw [List.drop_eq_nil_of_le (by omega)]
    show Ev (fun k=>shared_given.l0 k l l l.length i) (if (l.length:Int)>15 then 3 else 0)
    have hE:Ev (fun k=>if (l.length:Int)>15 then some 3 else some 0) (if (l.length:Int)>15 then (3:Int) else 0):=qd (fun _=>Ev.now _) (fun _=>Ev.now _)
    exact Ev.step (fun k=>by rw [shared_given.l0,if_neg (by omega)]) hE
  | d+1,i,h=>by
    have hi:i<l.length:=by omega
    have hw:=qc i l.length hi (by omega)
    have hm:=hs _ (qj l i hi)
    have ih:=qbA l hs hl d (i+1) (by omega)
    rw [qp l i hi,qt]
    refine Ev.step (fun k=>by rw [shared_given.l0,if_pos (by omega),if_pos (by omega),if_pos (by omega),hw]) (Ev.bind (q5 _ _ (by omega) (by omega)) ?_)
    by_cases e:qu (rd_T63 l i).f0 (rd_T63 l i).f1=0
    · rw [if_pos e];exact qa e ih
    · rw [if_neg e,if_neg e];exact qb e (Ev.now _)
theorem qP (l:List S63) (hs:Sm l) (hl:l.length≤1000):Ev (fun k=>shared_given.f k l) (gvl l):=by
  unfold gvl qn
  by_cases e:(l.length:Int)>16
  · rw [if_pos e];exact qa e (Ev.now _)
  · rw [if_neg e]
    have:=qbA l hs hl l.length 0 (by omega)
    rw [List.drop_zero] at this
    exact qb e this
theorem qcz (l:List S63) (hs:Sm l) (hl:l.length≤1000):Ev (fun k=>ancepsref41_given.f k l) (gvl l):=
  Ev.bind (qk l hs hl) (qd (fun _=>qd (fun _=>Ev.now _) (fun _=>Ev.now _)) (fun _=>Ev.now _))
theorem qdG (l:List S63):∃ b,Ev (fun k=>ancepsref41_FewTables.f k l) b∧(b=true→Sm l∧l.length≤18):=by
  obtain ⟨b,hb,hq⟩:=qdy l
  cases b with
  | false=>exact ⟨false,Ev.bind hb (qb (by simp) (Ev.now _)),fun h=>by cases h⟩
  | true=>
    obtain ⟨h1,h2⟩:=hq rfl
    by_cases e:qn l=0
    · exact ⟨_,Ev.bind hb (qa rfl (Ev.bind (qk l h1 (by omega)) (qa e (Ev.bind (q7 ((qg l).1 e) h1) (Ev.now _))))),fun _=>⟨h1,h2⟩⟩
    · exact ⟨_,Ev.bind hb (qa rfl (Ev.bind (qk l h1 (by omega)) (qb e (Ev.now _)))),fun _=>⟨h1,h2⟩⟩
theorem qcc (l:List S63) (hs:Sm l) (hl:l.length≤1000):∀ (d i:Nat) (acc:List S63),i+d=l.length→acc.length≤i→Ev (fun k=>ancepslaw41_own.l0 k acc l l.length i) (acc++l.drop i)
  | 0,i,acc,h,ha=>by
    rw [List.drop_eq_nil_of_le (by omega),List.append_nil]
    exact Ev.step (f:=fun _=>some acc) (fun k=>by rw [ancepslaw41_own.l0,if_neg (by omega)]) (Ev.now _)
  | d+1,i,acc,h,ha=>by
    have hi:i<l.length:=by omega
    have hw:=qc i l.length hi (by omega)
    have hm:=hs _ (qj l i hi)
    have ih:=qcc l hs hl d (i+1) (acc++[rd_T63 l i]) (by omega) (by simp;omega)
    rw [List.append_assoc acc,List.singleton_append,← qp l i hi] at ih
    refine Ev.step (fun k=>?_) ih
    rw [ancepslaw41_own.l0,if_pos (by omega),if_pos (by omega),if_pos (by omega),qy _ (by omega),qy _ (by omega),hw]
    simp only [Option.bind_some]
    rw [if_pos (by omega)]
theorem qd0 (l:List S63) (hs:Sm l) (hl:l.length≤1000):Ev (fun k=>ancepslaw41_own.f k l) l:=by
  have:=qcc l hs hl l.length 0 [] (by omega) (by simp)
  rwa [List.drop_zero,List.nil_append] at this
def wth (l:List S63) (v x:Int):Int×Int:=qm (giv l v x).1
theorem qaN (l:List S63) (hs:Sm l) (hl:l.length≤100) (v x:Int):Ev (fun k=>shared_with.f k l v x) ((giv l v x).1,(wth l v x).1,(wth l v x).2 == 0):=by
  obtain ⟨g1,g2⟩:=qao hs hl v x
  exact Ev.bind (qY l hs (by omega) v x) (Ev.bind (qw _ g1 g2) (Ev.now _))
def vl (l:List S63) (v:Int):Int:=if ((wth l v 0).2 == 0)=true then (if ((wth l v 1).2 == 0)=true then 3 else 1) else 2
theorem qbB (l:List S63) (hs:Sm l) (hl:l.length≤100) (v:Int):Ev (fun k=>shared_value.f k l v) (vl l v):=
  Ev.bind (qaN l hs hl v 0) (Ev.bind (qaN l hs hl v 1) (qd (fun _=>qd (fun _=>Ev.now _) (fun _=>Ev.now _)) (fun _=>Ev.now _)))
def sov (l:List S63):Int:=if gvl l=0 then (if (qm l).2=0 then 0 else 12) else gvl l
theorem qbh (l:List S63) (hs:Sm l) (hl:l.length≤1000):Ev (fun k=>shared_solvable.f k l) (sov l):=
  Ev.bind (qP l hs hl) (qd (fun _=>Ev.bind (qw l hs hl) (qd (fun _=>Ev.now _) (fun _=>Ev.now _))) (fun _=>Ev.now _))
theorem qdH (l:List S63) (hs:Sm l) (hl:l.length≤1000):Ev (fun k=>ancepsref41_solvable.f k l) ((qm l).2 == 0):=Ev.bind (qcV l hs hl) (Ev.now _)
def vlu (l:List S63) (v:Int):Int×Int:=if gvl l=0 then (if v<0 then (0,6) else if v≥24 then (0,6) else if sov l=0 then (if v∈vrs l then (vl l v,0) else (0,4)) else (0,sov l)) else (0,gvl l)
theorem qdI (l:List S63) (hs:Sm l) (hl:l.length≤100) (v:Int):Ev (fun k=>shared_Value.f k l v) (vlu l v):=by
  have hv:=qcx l
  refine Ev.bind (qP l hs (by omega)) (qd (fun _=>qd (fun _=>Ev.now _) (fun _=>qd (fun _=>Ev.now _) (fun _=>Ev.bind (qbh l hs (by omega)) (qd (fun _=>Ev.bind (qS l hs (by omega)) (Ev.bind (qz _ (by omega) _) ?_)) (fun _=>Ev.now _))))) (fun _=>Ev.now _))
  by_cases e:v∈vrs l
  · rw [if_pos e];exact qa (by simpa using e) (Ev.bind (qbB l hs hl v) (Ev.now _))
  · rw [if_neg e];exact qb (by simpa using e) (Ev.now _)
theorem qcd (rs:List Int) (hl:(rs.length:Int)≤9223372036854775807) (x:Int):∀ (d i:Nat),i+d=rs.length→Ev (fun k=>ancepsref41_has.l0 k rs x i) (decide (x∈rs.drop i))
  | 0,i,h=>by
    rw [List.drop_eq_nil_of_le (by omega)]
    exact Ev.step (f:=fun _=>some false) (fun k=>by rw [ancepsref41_has.l0,if_neg (by omega)]) (by simpa using Ev.now _)
  | d+1,i,h=>by
    have hi:i<rs.length:=by omega
    have hw:=qc i rs.length hi hl
    have ih:=qcd rs hl x d (i+1) (by omega)
    rw [qi rs i hi]
    by_cases e:rd rs i=x
    · have:decide (x∈rd rs i :: rs.drop (i+1))=true:=by simp [e]
      rw [this]
      exact Ev.step (f:=fun _=>some true) (fun k=>by rw [ancepsref41_has.l0,if_pos (by omega),if_pos (by omega),if_pos e]) (Ev.now _)
    · have:decide (x∈rd rs i :: rs.drop (i+1))=decide (x∈rs.drop (i+1)):=by
        rw [decide_eq_decide,List.mem_cons]
        exact ⟨fun h=>by rcases h with h|h;exact absurd h.symm e;exact h,.inr⟩
      rw [this]
      exact Ev.step (fun k=>by rw [ancepsref41_has.l0,if_pos (by omega),if_pos (by omega),if_neg e,hw]) ih
theorem qd1 (rs:List Int) (hl:(rs.length:Int)≤9223372036854775807) (x:Int):Ev (fun k=>ancepsref41_has.f k rs x) (decide (x∈rs)):=by
  have:=qcd rs hl x rs.length 0 (by omega)
  rw [List.drop_zero] at this
  exact this
structure Md (l:List S63):Prop where
  len:l.length≤6
  tab:∀ t,t∈l→VT t.f0 t.f1∧Chn 8 none t.f0
theorem Md.vs {l:List S63} (h:Md l):VS l:=⟨by have:=h.len;omega,fun t ht=>(h.tab t ht).1⟩
theorem qac {l:List S63} (h:VS l):Sm l:=fun t ht=>by
  have h1:=(h.tab t ht).len
  have h2:=(h.tab t ht).rows_len
  omega
def cmp (vs rs:List Int):List Int:=flt (fun m=>!decide ((m:Int)∈rs)) (2 ^ vs.length) 0
def imp (l:List S63) (vs rs:List Int):Bool×Int:=if gvl l=0 then (if qu vs rs=0 then ((qm (l++[⟨vs,cmp vs rs⟩])).2 != 0,0) else (false,qu vs rs)) else (false,gvl l)
theorem qd2 {l:List S63} (h:l.length≤1000):api_Table_59.f l=some l:=by
  unfold api_Table_59.f
  rw [Option.bind_some,if_pos (by simp;omega),List.nil_append]
theorem qat {l:List S63} (h:l.length≤1000):Ev (fun _=>api_Table_59.f l) l:=by
  rw [qd2 h]
  exact Ev.now _
theorem qce {l:List S63} (hs:Sm l) {vs rs:List Int} (h1:vs.length≤1030) (h2:rs.length≤1030):Sm (l++[⟨vs,rs⟩]):=fun t ht=>by
  rcases List.mem_append.1 ht with h|h
  · exact hs t h
  · rw [List.mem_singleton.1 h];exact ⟨h1,h2⟩
theorem qdJ {vs rs:List Int} (h:vs.length≤10):(cmp vs rs).length≤1024:=Nat.le_trans (qcp _ _ _) (qaQ h)
theorem qau (l:List S63) (hs:Sm l) (hl:l.length≤100) {vs rs:List Int} (h:VT vs rs):∀ (d i:Nat) (acc:List Int),i+d=2 ^ vs.length→acc.length≤i→acc++flt (fun m=>!decide ((m:Int)∈rs)) d i=cmp vs rs→
    Ev (fun k=>shared_Implied.l0 k l acc ((2 ^ vs.length:Nat):Int) i vs rs) ((qm (l++[⟨vs,cmp vs rs⟩])).2 != 0,0)
  | 0,i,acc,hd,ha,e=>by
    rw [flt,List.append_nil] at e
    rw [e]
    have h10:=h.len
    have hc:=qdJ (rs:=rs) h10
    refine Ev.step (fun k=>by rw [shared_Implied.l0,if_neg (by omega)]) (Ev.bind (qat (l:=l) (by omega)) (Ev.bind (Ev.now ([⟨vs,cmp vs rs⟩]:List S63)) (qa (show l.length+([⟨vs,cmp vs rs⟩]:List S63).length<2932031007402 by simp;omega) (Ev.bind (qw (l++[⟨vs,cmp vs rs⟩]) (qce hs (by omega) (by omega)) (by simp;omega)) ?_))))
    exact Ev.now _
  | d+1,i,acc,hd,ha,e=>by
    have h10:=qaQ h.len
    have hw:=qc i (2 ^ vs.length) (by omega) (by omega)
    have hr:=h.rows_len
    rw [flt] at e
    refine Ev.step (fun k=>by rw [shared_Implied.l0,if_pos (by omega),hw]) (Ev.bind (qz _ (by omega) _) ?_)
    by_cases c:(i:Int)∈rs
    · rw [if_neg (by simpa using c)] at e
      exact qa (by simpa using c) (qau l hs hl h d (i+1) acc (by omega) (by omega) e)
    · rw [if_pos (by simpa using c)] at e
      refine qb (by simpa using c) (Ev.bind (Ev.now [(i:Int)]) (qa (by simp;omega) (qau l hs hl h d (i+1) _ (by omega) (by simp;omega) ?_)))
      rw [List.append_assoc];exact e
theorem qdK (l:List S63) (hs:Sm l) (hl:l.length≤100) (vs rs:List Int) (h1:vs.length≤1030) (h2:rs.length≤1030):Ev (fun k=>shared_Implied.f k l vs rs) (imp l vs rs):=by
  refine Ev.bind (qP l hs (by omega)) (qd (fun _=>Ev.bind (q5 _ _ (by omega) (by omega)) (qd (fun hv=>?_) (fun _=>Ev.now _))) (fun _=>Ev.now _))
  have h:=(qE vs rs).1 hv
  have:=qau l hs hl h (2 ^ vs.length) 0 [] (by omega) (by simp) (by rw [List.nil_append];rfl)
  rw [← qI vs.length (by have:=h.len;omega)] at this
  exact this
def lk (l:List S63) (a b:Int):List S53:=(if (qm (l++[⟨[a,b],[1,2]⟩])).2=10 then [⟨a,b,true⟩] else [])++(if (qm (l++[⟨[a,b],[0,3]⟩])).2=10 then [⟨a,b,false⟩] else [])
theorem qc0 (l:List S63) (a b:Int):(lk l a b).length≤2:=by
  unfold lk
  rw [List.length_append]
  split <;> split <;> simp
theorem qd3 {l:List S63} (hs:Sm l) (hl:l.length≤100) (a b:Int) (out:List S53) (ho:out.length≤1000000) (x5 x24:List Int) (x25 x26:Int) (x34:List Int) (x35 x36:Int) {r:List S53×Int}
    (H:Ev (fun k=>shared_Linked.l1 k x5 (out++lk l a b) a x24 x25 x26 x34 x35 (wrap64 (x36+1)) l) r):Ev (fun k=>shared_Linked.l2 k x5 out a b x24 x25 x26 x34 x35 x36 [true,false] (([true,false]:List Bool).length:Int) 0 l) r:=by
  have hl':l.length<2932031007402:=by omega
  have hw1:wrap64 (1+1)=2:=by rw [qh _ (by decide)];rfl
  have hw0:wrap64 (0+1)=1:=by rw [qh _ (by decide)];rfl
  have f1:=qw (l++[⟨[a,b],[1,2]⟩]) (qce hs (by simp) (by simp)) (by simp;omega)
  have f2:=qw (l++[⟨[a,b],[0,3]⟩]) (qce hs (by simp) (by simp)) (by simp;omega)
  have e2:∀ o:List S53,Ev (fun k=>shared_Linked.l1 k x5 o a x24 x25 x26 x34 x35 (wrap64 (x36+1)) l) r→Ev (fun k=>shared_Linked.l2 k x5 o a b x24 x25 x26 x34 x35 x36 [true,false] (([true,false]:List Bool).length:Int) 2 l) r:=fun o h=>Ev.step (fun k=>by rw [shared_Linked.l2,if_neg (by decide)]) h
  have e1:∀ o:List S53,o.length≤1000001→Ev (fun k=>shared_Linked.l1 k x5 (o++(if (qm (l++[⟨[a,b],[0,3]⟩])).2=10 then [⟨a,b,false⟩] else [])) a x24 x25 x26 x34 x35 (wrap64 (x36+1)) l) r→Ev (fun k=>shared_Linked.l2 k x5 o a b x24 x25 x26 x34 x35 x36 [true,false] (([true,false]:List Bool).length:Int) 1 l) r:=fun o ho h=>by
    refine Ev.step (fun k=>by rw [shared_Linked.l2,if_pos (by decide),if_pos (by decide),if_pos (by decide),hw1]) (Ev.bind (qat (l:=l) (by omega)) (Ev.bind (show Ev (fun k=>shared_both.f a b (!(rdOf false [true,false] 1))) ([a,b],[0,3]) from Ev.now _) (qa hl' (Ev.bind f2 ?_))))
    by_cases c:(qm (l++[⟨[a,b],[0,3]⟩])).2=10
    · rw [if_pos c] at h
      exact qa c (qa (show o.length<5864062014805 by omega) (e2 _ h))
    · rw [if_neg c,List.append_nil] at h
      exact qb c (e2 _ h)
  refine Ev.step (fun k=>by rw [shared_Linked.l2,if_pos (by decide),if_pos (by decide),if_pos (by decide),hw0]) (Ev.bind (qat (l:=l) (by omega)) (Ev.bind (show Ev (fun k=>shared_both.f a b (!(rdOf false [true,false] 0))) ([a,b],[1,2]) from Ev.now _) (qa hl' (Ev.bind f1 ?_))))
  unfold lk at H
  rw [← List.append_assoc] at H
  by_cases c:(qm (l++[⟨[a,b],[1,2]⟩])).2=10
  · rw [if_pos c] at H
    exact qa c (qa (show out.length<5864062014805 by omega) (e1 _ (by simp;omega) H))
  · rw [if_neg c,List.append_nil] at H
    exact qb c (e1 _ (by omega) H)
theorem qc1 {l:List S63} (hs:Sm l) (hl:l.length≤100) (a:Int) (ys:List Int) (hy:ys.length≤1000) (x5 x24:List Int) (x25 x26:Int) {r:List S53×Int}:∀ (d j:Nat) (out:List S53),j+d=ys.length→out.length+2 * d≤1000000→
    Ev (fun k=>shared_Linked.l0 k x5 (out++(ys.drop j).flatMap (lk l a)) x24 x25 (wrap64 (x26+1)) l) r→Ev (fun k=>shared_Linked.l1 k x5 out a x24 x25 x26 ys ys.length j l) r
  | 0,j,out,h,ho,H=>by
    rw [List.drop_eq_nil_of_le (by omega),List.flatMap_nil,List.append_nil] at H
    exact Ev.step (fun k=>by rw [shared_Linked.l1,if_neg (by omega)]) H
  | d+1,j,out,h,ho,H=>by
    have hj:j<ys.length:=by omega
    have hw:=qc j ys.length hj (by omega)
    have h2:=qc0 l a (rd ys j)
    rw [qi ys j hj,List.flatMap_cons,← List.append_assoc] at H
    have ih:=qc1 hs hl a ys hy x5 x24 x25 x26 d (j+1) (out++lk l a (rd ys j)) (by omega) (by rw [List.length_append];omega) H
    rw [← hw] at ih
    exact Ev.step (fun k=>by rw [shared_Linked.l1,if_pos (by omega),if_pos (by omega),if_pos (by omega)]) (Ev.bind (Ev.now [true,false]) (qd3 hs hl a (rd ys j) out (by omega) x5 x24 x25 x26 ys ys.length j ih))
def lks (l:List S63):List Int→List S53
  | []=>[]
  | a :: vs=>vs.flatMap (lk l a)++lks l vs
theorem qcA (l:List S63) (a:Int):∀ ys:List Int,(ys.flatMap (lk l a)).length≤2 * ys.length
  | []=>by simp
  | y :: ys=>by
    have:=qcA l a ys
    have:=qc0 l a y
    rw [List.flatMap_cons,List.length_append,List.length_cons]
    omega
theorem qc2 {l:List S63} (hs:Sm l) (hl:l.length≤100) (vs:List Int) (hv:vs.length≤100):∀ (d i:Nat) (out:List S53),i+d=vs.length→out.length+200 * d≤900000→
    Ev (fun k=>shared_Linked.l0 k vs out vs vs.length i l) (out++lks l (vs.drop i),0)
  | 0,i,out,h,ho=>by
    rw [List.drop_eq_nil_of_le (by omega),lks,List.append_nil]
    exact Ev.step (f:=fun _=>some (out,0)) (fun k=>by rw [shared_Linked.l0,if_neg (by omega)]) (Ev.now _)
  | d+1,i,out,h,ho=>by
    have hi:i<vs.length:=by omega
    have hw:=qc i vs.length hi (by omega)
    have h2:=qcA l (rd vs i) (vs.drop (i+1))
    rw [List.length_drop] at h2
    rw [qi vs i hi,lks,← List.append_assoc]
    have ih:=qc2 hs hl vs hv d (i+1) (out++(vs.drop (i+1)).flatMap (lk l (rd vs i))) (by omega) (by rw [List.length_append];omega)
    have hl1:=qc1 hs hl (rd vs i) (vs.drop (i+1)) (by rw [List.length_drop];omega) vs vs vs.length i (vs.drop (i+1)).length 0 out (by omega) (by rw [List.length_drop];omega) (r:=(out++(vs.drop (i+1)).flatMap (lk l (rd vs i))++lks l (vs.drop (i+1)),0)) (by rw [List.drop_zero,hw];exact ih)
    refine Ev.step (fun k=>by rw [shared_Linked.l0,if_pos (by omega),if_pos (by omega),if_pos (by omega),hw,if_pos (by omega),if_pos (by omega),show (((i+1:Nat):Int)).toNat=i+1 from rfl]) (Ev.bind (Ev.now (vs.drop (i+1))) hl1)
theorem qbC {l:List S63} (hs:Sm l) (hl:l.length≤100) (vs:List Int) (hv:vs.length≤1000) (ho:∀ v,v∈vs→vl l v=3):∀ (d i:Nat),i+d=vs.length→Ev (fun k=>slices_IndexFunc_int_int_shared_Linked_1.l0 k vs vs.length i l) (-1)
  | 0,i,h=>Ev.step (f:=fun _=>some (-1)) (fun k=>by rw [slices_IndexFunc_int_int_shared_Linked_1.l0,if_neg (by omega)]) (Ev.now _)
  | d+1,i,h=>by
    have hi:i<vs.length:=by omega
    have hw:=qc i vs.length hi (by omega)
    have h3:=ho _ (qs vs i hi)
    have hc:Ev (fun k=>shared_Linked_1_v1.f k (rd vs i) l) false:=by
      have:=Ev.bind (f:=fun _ t=>some (t != 3)) (qbB l hs hl (rd vs i)) (Ev.now _)
      rw [h3] at this
      exact this
    exact Ev.step (fun k=>by rw [slices_IndexFunc_int_int_shared_Linked_1.l0,if_pos (by omega),if_pos (by omega),if_pos (by omega),hw]) (Ev.bind hc (qb Bool.false_ne_true (qbC hs hl vs hv ho d (i+1) (by omega))))
def qbi (l:List S63):List Int:=flt (fun m=>decide ((m:Int)∈flat l)) 24 0
theorem qay {l:List S63} (h:VS l):occ l=qbi l:=by
  have hc:=qO (fun m=>decide ((m:Int)∈flat l)) 24 0 none (fun q hq=>by cases hq)
  refine Chn.same h.occ.1 hc (fun n=>?_)
  rw [h.occ.2]
  unfold qbi
  rw [qV]
  constructor
  · intro hn
    have:=h.flat n hn
    exact ⟨n.toNat,by omega,by omega,by rw [← qe this.1];simpa using hn,qe this.1⟩
  · rintro ⟨m,_,_,hm,rfl⟩
    simpa using hm
def qbN (l:List S63):Int×Int:=if qn l=0 then solve_First.of ((sl l (qbi l) 0).map fun a:Nat=>(a:Int)) else (0,qn l)
theorem qD (l:List S63):qm l=qbN l:=by
  unfold qm qbN SS
  by_cases e:qn l=0
  · rw [if_pos e,if_pos e,qay ((qg l).1 e)]
  · rw [if_neg e,if_neg e]
def E2:List S63:=[⟨[0,1],[1,2]⟩,⟨[1,2],[0,3]⟩]
def E3:List S63:=[⟨[0,1],[1,2]⟩,⟨[1,2],[0,3]⟩,⟨[0],[1]⟩]
def K0:List S63:=[⟨[0,1],[1,2]⟩,⟨[1,2],[0,3]⟩,⟨[0],[1]⟩,⟨[0],[0]⟩]
def K1:List S63:=[⟨[0,1],[1,2]⟩,⟨[1,2],[0,3]⟩,⟨[0],[1]⟩,⟨[1],[1]⟩]
def K2:List S63:=[⟨[0,1],[1,2]⟩,⟨[1,2],[0,3]⟩,⟨[0],[1]⟩,⟨[2],[1]⟩]
theorem qcH:VS E2:=(qg _).1 (by decide)
theorem qcI:VS E3:=(qg _).1 (by decide)
theorem qcJ:VS K0:=(qg _).1 (by decide)
theorem qcK:VS K1:=(qg _).1 (by decide)
theorem qcL:VS K2:=(qg _).1 (by decide)
theorem qc3:occ E2=[0,1,2]:=(qay qcH).trans (by kernel_rfl)
theorem qcf:occ E3=[0,1,2]:=(qay qcI).trans (by kernel_rfl)
def N0:List S103:=((solve_split.f 60 K0 [0,1,2] 0 0 []).getD ([],false)).1
def N1:List S103:=((solve_split.f 60 K1 [0,1,2] 0 0 []).getD ([],false)).1
def N2:List S103:=((solve_split.f 60 K2 [0,1,2] 0 0 []).getD ([],false)).1
theorem qcM {K:List S63} (h:VS K) {vs:List Int} (ho:occ K=vs) {N:List S103} (hn:solve_search.f 60 K vs 0 0=some []) (hp:solve_split.f 60 K vs 0 0 []=some (N,true)):Ev (fun k=>solve_Refute.f k K) (N,0):=by
  have v:=qf (qv K (qac h) (by have:=h.len;omega)) ((qg _).2 h)
  have o:Ev (fun k=>solve_occurring.f k K) vs:=qf (qaU K (qac h) (by have:=h.len;omega)) ho
  have s:Ev (fun k=>solve_search.f k K vs 0 0) []:=Ev.of (fun k=>solve_search.mono _ _ _ _ k) (k:=60) hn
  have p:Ev (fun k=>solve_split.f k K vs 0 0 []) (N,true):=Ev.of (fun k=>solve_split.mono _ _ _ _ _ k) (k:=60) hp
  exact Ev.bind v (qa rfl (Ev.bind o (Ev.bind s (qa rfl (Ev.bind p (Ev.now _))))))
theorem qcN {K:List S63} (h:VS K) {N:List S103} (h1:solve_shape.f 200 K N=some true) (h2:solve_right.f 200 K N 0 0 0=some true):Ev (fun k=>solve_Check.f k K N) true:=by
  have v:=qf (qv K (qac h) (by have:=h.len;omega)) ((qg _).2 h)
  have a:Ev (fun k=>solve_shape.f k K N) true:=Ev.of (fun k=>solve_shape.mono _ _ k) (k:=200) h1
  have b:Ev (fun k=>solve_right.f k K N 0 0 0) true:=Ev.of (fun k=>solve_right.mono _ _ _ _ _ k) (k:=200) h2
  exact Ev.bind v (qa rfl (Ev.bind a (qa rfl (Ev.bind b (Ev.now _)))))
def X3:List S42:=[⟨0,2,1,0,0,⟨N0⟩⟩,⟨1,1,1,0,0,⟨N1⟩⟩,⟨2,1,1,0,0,⟨N2⟩⟩]
theorem qds:∀ v,v∈[0,1,2]→vl E2 v=3:=by
  intro v hv
  simp only [List.mem_cons,List.not_mem_nil,or_false] at hv
  rcases hv with rfl|rfl|rfl <;> (unfold vl wth;rw [qD,qD];kernel_rfl)
theorem qc4:Ev (fun k=>shared_Linked.f k E2) ([⟨0,1,false⟩,⟨0,2,false⟩,⟨1,2,true⟩],0):=by
  have hs:=qac qcH
  have s:sov E2=0:=by unfold sov;rw [qD];kernel_rfl
  have v:Ev (fun k=>solve_Vars.f k E2) [0,1,2]:=qf (qS E2 hs (by decide)) (by unfold vrs;rw [qc3];kernel_rfl)
  have i:=qbC hs (by decide) [0,1,2] (by decide) qds 3 0 rfl
  have k0:=qc2 hs (by decide) [0,1,2] (by decide) 3 0 [] rfl (by decide)
  refine Ev.bind (qbh E2 hs (by decide)) (qa s (Ev.bind v (Ev.bind (show Ev (fun k=>slices_DeleteFunc_int_int_shared_Linked_1.f k [0,1,2] E2) [0,1,2] from Ev.bind i (qa rfl (Ev.now _))) (qf k0 ?_))))
  show ([]++lks E2 [0,1,2],(0:Int))=_
  unfold lks lks lks lks
  simp only [List.flatMap_cons,List.flatMap_nil]
  unfold lk
  simp only [qD]
  kernel_rfl
theorem qZ {l:List S63} (hs:Sm l) (hl:l.length≤100) {v x:Int} {q:List S63×Int×Bool} (h:((giv l v x).1,(qbN (giv l v x).1).1,(qbN (giv l v x).1).2 == 0)=q):Ev (fun k=>shared_with.f k l v x) q:=qf (qaN l hs hl v x) (by unfold wth;rw [qD];exact h)
theorem qd4:Ev (fun k=>shared_All.f k E3) (X3,0):=by
  have hs:=qac qcI
  have s:sov E3=0:=by unfold sov;rw [qD];kernel_rfl
  have v:Ev (fun k=>solve_Vars.f k E3) [0,1,2]:=qf (qS E3 hs (by decide)) (by unfold vrs;rw [qcf];kernel_rfl)
  have r0:Ev (fun k=>solve_Refute.f k K0) (N0,0):=qcM qcJ ((qay qcJ).trans (by kernel_rfl:qbi K0=[0,1,2])) (by kernel_rfl) (by kernel_rfl)
  have r1:Ev (fun k=>solve_Refute.f k K1) (N1,0):=qcM qcK ((qay qcK).trans (by kernel_rfl:qbi K1=[0,1,2])) (by kernel_rfl) (by kernel_rfl)
  have r2:Ev (fun k=>solve_Refute.f k K2) (N2,0):=qcM qcL ((qay qcL).trans (by kernel_rfl:qbi K2=[0,1,2])) (by kernel_rfl) (by kernel_rfl)
  have w00:Ev (fun k=>shared_with.f k E3 0 0) (K0,0,false):=qZ hs (by decide) (by kernel_rfl)
  have w01:Ev (fun k=>shared_with.f k E3 0 1) (E3++[⟨[0],[1]⟩],1,true):=qZ hs (by decide) (by kernel_rfl)
  have w10:Ev (fun k=>shared_with.f k E3 1 0) (E3++[⟨[1],[0]⟩],1,true):=qZ hs (by decide) (by kernel_rfl)
  have w11:Ev (fun k=>shared_with.f k E3 1 1) (K1,0,false):=qZ hs (by decide) (by kernel_rfl)
  have w20:Ev (fun k=>shared_with.f k E3 2 0) (E3++[⟨[2],[0]⟩],1,true):=qZ hs (by decide) (by kernel_rfl)
  have w21:Ev (fun k=>shared_with.f k E3 2 1) (K2,0,false):=qZ hs (by decide) (by kernel_rfl)
  have e0:Ev (fun k=>shared_evidence.f k E3 0) (0,2,1,0,0,N0,0):=Ev.bind w00 (Ev.bind w01 (qb (by decide) (Ev.bind r0 (Ev.now _))))
  have e1:Ev (fun k=>shared_evidence.f k E3 1) (1,1,1,0,0,N1,0):=Ev.bind w10 (Ev.bind w11 (qa rfl (qb (by decide) (Ev.bind r1 (Ev.now _)))))
  have e2:Ev (fun k=>shared_evidence.f k E3 2) (2,1,1,0,0,N2,0):=Ev.bind w20 (Ev.bind w21 (qa rfl (qb (by decide) (Ev.bind r2 (Ev.now _)))))
  have x2:rd [0,1,2] ((2:Nat):Int)=2:=rfl
  have x1:rd [0,1,2] ((1:Nat):Int)=1:=rfl
  have x0:rd [0,1,2] ((0:Nat):Int)=0:=rfl
  have l3:Ev (fun k=>shared_All.l0 k E3 X3 [0,1,2] (([0,1,2]:List Int).length:Int) ((3:Nat):Int)) (X3,0):=Ev.step (f:=fun _=>some (X3,0)) (fun k=>by rw [shared_All.l0,if_neg (by decide)]) (Ev.now _)
  have l2:Ev (fun k=>shared_All.l0 k E3 (X3.take 2) [0,1,2] (([0,1,2]:List Int).length:Int) ((2:Nat):Int)) (X3,0):=Ev.step (fun k=>by rw [shared_All.l0,if_pos (by decide),if_pos (by decide),if_pos (by decide),qc 2 3 (by decide) (by decide),x2]) (Ev.bind e2 (qa rfl (qa (show (X3.take 2).length<2199023255552 by decide) l3)))
  have l1:Ev (fun k=>shared_All.l0 k E3 (X3.take 1) [0,1,2] (([0,1,2]:List Int).length:Int) ((1:Nat):Int)) (X3,0):=Ev.step (fun k=>by rw [shared_All.l0,if_pos (by decide),if_pos (by decide),if_pos (by decide),qc 1 3 (by decide) (by decide),x1]) (Ev.bind e1 (qa rfl (qa (show (X3.take 1).length<2199023255552 by decide) l2)))
  have l0:Ev (fun k=>shared_All.l0 k E3 [] [0,1,2] (([0,1,2]:List Int).length:Int) ((0:Nat):Int)) (X3,0):=Ev.step (fun k=>by rw [shared_All.l0,if_pos (by decide),if_pos (by decide),if_pos (by decide),qc 0 3 (by decide) (by decide),x0]) (Ev.bind e0 (qa rfl (qa (show ([]:List S42).length<2199023255552 by decide) l1)))
  exact Ev.bind (qbh E3 hs (by decide)) (qa s (Ev.bind v l0))
theorem qdl:Ev (fun k=>shared_Check.f k E3 X3) true:=by
  have hs:=qac qcI
  have g:gvl E3=0:=by decide
  have v:Ev (fun k=>solve_Vars.f k E3) [0,1,2]:=qf (qS E3 hs (by decide)) (by unfold vrs;rw [qcf];kernel_rfl)
  have f:Ev (fun k=>solve_First.f k E3) (1,0):=qf (qw E3 hs (by decide)) (by rw [qD];kernel_rfl)
  have q:=qcT [0,1,2] (by decide)
  have hh:Ev (fun k=>solve_Holds.f k E3 1) true:=qf (qaH E3 hs (by decide) 1) (by unfold hld hsS;rw [qcf];kernel_rfl)
  have g0:Ev (fun k=>solve_Given.f k E3 0 (wrap64 (2 - 2))) (K0,0):=qf (qY E3 hs (by decide) 0 _) (by kernel_rfl)
  have g1:Ev (fun k=>solve_Given.f k E3 1 (wrap64 (2 - 1))) (K1,0):=qf (qY E3 hs (by decide) 1 _) (by kernel_rfl)
  have g2:Ev (fun k=>solve_Given.f k E3 2 (wrap64 (2 - 1))) (K2,0):=qf (qY E3 hs (by decide) 2 _) (by kernel_rfl)
  have c0:Ev (fun k=>solve_Check.f k K0 N0) true:=qcN qcJ (by kernel_rfl) (by kernel_rfl)
  have c1:Ev (fun k=>solve_Check.f k K1 N1) true:=qcN qcK (by kernel_rfl) (by kernel_rfl)
  have c2:Ev (fun k=>solve_Check.f k K2 N2) true:=qcN qcL (by kernel_rfl) (by kernel_rfl)
  have r0:Ev (fun k=>shared_right.f k E3 0 2 1 0 0 N0) true:=qb (by decide) (qb (by decide) (qa rfl (Ev.bind g0 (qa rfl (qa rfl (qa rfl (Ev.bind hh (qa rfl (Ev.bind c0 (Ev.now _))))))))))
  have r1:Ev (fun k=>shared_right.f k E3 1 1 1 0 0 N1) true:=qb (by decide) (qa rfl (Ev.bind g1 (qa rfl (qa rfl (qa rfl (Ev.bind hh (qa rfl (Ev.bind c1 (Ev.now _)))))))))
  have r2:Ev (fun k=>shared_right.f k E3 2 1 1 0 0 N2) true:=qb (by decide) (qa rfl (Ev.bind g2 (qa rfl (qa rfl (qa rfl (Ev.bind hh (qa rfl (Ev.bind c2 (Ev.now _)))))))))
  have x2:rd_T42 X3 ((2:Nat):Int)=⟨2,1,1,0,0,⟨N2⟩⟩:=rfl
  have x1:rd_T42 X3 ((1:Nat):Int)=⟨1,1,1,0,0,⟨N1⟩⟩:=rfl
  have x0:rd_T42 X3 ((0:Nat):Int)=⟨0,2,1,0,0,⟨N0⟩⟩:=rfl
  have i3:Ev (fun k=>api_Evidence_shared_Check_1_v1.l0 k X3 (X3.length:Int) ((3:Nat):Int) E3) (-1):=Ev.step (f:=fun _=>some (-1)) (fun k=>by rw [api_Evidence_shared_Check_1_v1.l0,if_neg (by decide)]) (Ev.now _)
  have i2:Ev (fun k=>api_Evidence_shared_Check_1_v1.l0 k X3 (X3.length:Int) ((2:Nat):Int) E3) (-1):=Ev.step (fun k=>by rw [api_Evidence_shared_Check_1_v1.l0,if_pos (by decide),if_pos (by decide),if_pos (by decide),qc 2 3 (by decide) (by decide),x2]) (Ev.bind (show Ev (fun k=>shared_Check_1_v1.f k 2 1 1 0 0 N2 E3) false from Ev.bind r2 (Ev.now _)) (qb Bool.false_ne_true i3))
  have i1:Ev (fun k=>api_Evidence_shared_Check_1_v1.l0 k X3 (X3.length:Int) ((1:Nat):Int) E3) (-1):=Ev.step (fun k=>by rw [api_Evidence_shared_Check_1_v1.l0,if_pos (by decide),if_pos (by decide),if_pos (by decide),qc 1 3 (by decide) (by decide),x1]) (Ev.bind (show Ev (fun k=>shared_Check_1_v1.f k 1 1 1 0 0 N1 E3) false from Ev.bind r1 (Ev.now _)) (qb Bool.false_ne_true i2))
  have i0:Ev (fun k=>api_Evidence_shared_Check_1_v1.l0 k X3 (X3.length:Int) ((0:Nat):Int) E3) (-1):=Ev.step (fun k=>by rw [api_Evidence_shared_Check_1_v1.l0,if_pos (by decide),if_pos (by decide),if_pos (by decide),qc 0 3 (by decide) (by decide),x0]) (Ev.bind (show Ev (fun k=>shared_Check_1_v1.f k 0 2 1 0 0 N0 E3) false from Ev.bind r0 (Ev.now _)) (qb Bool.false_ne_true i1))
  have cf:Ev (fun k=>api_Evidence_shared_Check_1.f k X3 E3) false:=Ev.bind (show Ev (fun k=>api_Evidence_shared_Check_1_v1.f k X3 E3) (-1) from i0) (Ev.now _)
  have ct:Ev (fun k=>(api_Evidence_shared_Check_1.f k X3 E3).bind fun t=>some (!t)) true:=Ev.bind cf (Ev.now _)
  have l3:Ev (fun k=>shared_Check.l0 k X3 [0,1,2] X3 (X3.length:Int) ((3:Nat):Int) E3) true:=Ev.step (fun k=>by rw [shared_Check.l0,if_neg (by decide)]) (Ev.bind f (qa rfl (Ev.bind v (Ev.bind q (qa rfl ct)))))
  have l2:Ev (fun k=>shared_Check.l0 k X3 [0,1] X3 (X3.length:Int) ((2:Nat):Int) E3) true:=Ev.step (fun k=>by rw [shared_Check.l0,if_pos (by decide),if_pos (by decide),if_pos (by decide),if_pos (by decide),qc 2 3 (by decide) (by decide),x2];rfl) l3
  have l1:Ev (fun k=>shared_Check.l0 k X3 [0] X3 (X3.length:Int) ((1:Nat):Int) E3) true:=Ev.step (fun k=>by rw [shared_Check.l0,if_pos (by decide),if_pos (by decide),if_pos (by decide),if_pos (by decide),qc 1 3 (by decide) (by decide),x1];rfl) l2
  have l0:Ev (fun k=>shared_Check.l0 k X3 [] X3 (X3.length:Int) ((0:Nat):Int) E3) true:=Ev.step (fun k=>by rw [shared_Check.l0,if_pos (by decide),if_pos (by decide),if_pos (by decide),if_pos (by decide),qc 0 3 (by decide) (by decide),x0];rfl) l1
  exact Ev.bind (qP E3 hs (by decide)) (qa g l0)
theorem qcg:Ev (fun k=>ancepslaw41_awake.f k) true:=by
  have hs:=qac qcH
  have a:=qc4
  have b:Ev (fun k=>shared_Implied.f k E2 [0,2] [1,2,3]) (true,0):=qf (qdK E2 hs (by decide) [0,2] [1,2,3] (by decide) (by decide)) (by unfold imp;rw [qD];kernel_rfl)
  have c:=qd4
  have d:Ev (fun k=>shared_Value.f k E2 0) (3,0):=qf (qdI E2 hs (by decide) 0) (by unfold vlu sov vrs;rw [qds 0 (by decide),qD,qc3];kernel_rfl)
  have e:=qdl
  have f:Ev (fun k=>api_Link.f k [⟨0,1,false⟩,⟨0,2,false⟩,⟨1,2,true⟩] [⟨0,1,false⟩,⟨0,2,false⟩,⟨1,2,true⟩]) true:=⟨60,fun k h=>by obtain ⟨j,rfl⟩:=Nat.exists_eq_add_of_le' h;kernel_rfl⟩
  unfold ancepslaw41_awake.f
  exact Ev.bind (Ev.now E2) (Ev.bind a (Ev.bind b (Ev.bind (Ev.now E2) (qa (by decide) (Ev.bind (Ev.now E3) (Ev.bind c (Ev.bind d (qa rfl (qa rfl (qa rfl (qa rfl (qa rfl (qa rfl (qa rfl (Ev.bind e (qa rfl (Ev.bind f (qa rfl (qa (by decide) (qa rfl (qa (by decide) (qa rfl (qa (by decide) (Ev.now _))))))))))))))))))))))))
theorem qa6:Ev (fun k=>(ancepslaw41_awake.f k).bind fun t=>some t) true:=Ev.bind qcg (Ev.now _)

def qbj (l:List S63) (a v c:Int):Bool:=hld l a&&(Go.bits .and .i64 (shr .i64 a v) 1 == c)
def rgt (l:List S63) (x:S42):Bool:=
  if x.f1=3 then (if x.f2=0 then (if (x.f5.f0.length:Int)=0 then (if qbj l x.f3 x.f0 0=true then qbj l x.f4 x.f0 1 else false) else false) else false)
  else if x.f1=1∨x.f1=2 then (if (giv l x.f0 (wrap64 (2 - x.f1))).2=0 then (if x.f3=0 then (if x.f4=0 then (if hld l x.f2=true then q9 (giv l x.f0 (wrap64 (2 - x.f1))).1 x.f5.f0 else false) else false) else false) else false)
  else false
theorem qcB (l:List S63) (hs:Sm l) (hl:l.length≤100) (a c v p q r s:Int) (N:List S103) (hv:0≤v):Ev (fun k=>shared_right_1_v1.f k a c l v p q r s N) (qbj l a v c):=by
  refine Ev.bind (qaH l hs (by omega) a) ?_
  unfold qbj
  cases hld l a with
  | false=>exact qb (by decide) (Ev.now _)
  | true=>exact qa rfl (qa hv (Ev.now _))
theorem qc5 (l:List S63) (hs:Sm l) (hl:l.length≤100) (x:S42) (hv:0≤x.f0):Ev (fun k=>shared_right.f k l x.f0 x.f1 x.f2 x.f3 x.f4 x.f5.f0) (rgt l x):=by
  obtain ⟨g1,g2⟩:=qao hs hl x.f0 (wrap64 (2 - x.f1))
  have tail:Ev (fun k=>(solve_Given.f k l x.f0 (wrap64 (2 - x.f1))).bind fun bt=>if bt.2=0 then (if x.f3=0 then (if x.f4=0 then (solve_Holds.f k l x.f2).bind fun t=>if t=true then (solve_Check.f k bt.1 x.f5.f0).bind fun t=>some t else some false else some false) else some false) else some false) (if (giv l x.f0 (wrap64 (2 - x.f1))).2=0 then (if x.f3=0 then (if x.f4=0 then (if hld l x.f2=true then q9 (giv l x.f0 (wrap64 (2 - x.f1))).1 x.f5.f0 else false) else false) else false) else false):=
    Ev.bind (qY l hs (by omega) _ _) (qd (fun _=>qd (fun _=>qd (fun _=>Ev.bind (qaH l hs (by omega) _) (qd (fun _=>Ev.bind (qcX _ g1 g2 _) (Ev.now _)) (fun _=>Ev.now _))) (fun _=>Ev.now _)) (fun _=>Ev.now _)) (fun _=>Ev.now _))
  unfold rgt
  by_cases e3:x.f1=3
  · rw [if_pos e3]
    exact qa e3 (qd (fun _=>qd (fun _=>Ev.bind (qcB l hs hl _ _ _ _ _ _ _ _ hv) (qd (fun _=>Ev.bind (qcB l hs hl _ _ _ _ _ _ _ _ hv) (Ev.now _)) (fun _=>Ev.now _))) (fun _=>Ev.now _)) (fun _=>Ev.now _))
  · rw [if_neg e3]
    refine qb e3 ?_
    by_cases e1:x.f1=1
    · rw [if_pos (.inl e1)]
      exact qa e1 tail
    · by_cases e2:x.f1=2
      · rw [if_pos (.inr e2)]
        exact qb e1 (qa e2 tail)
      · rw [if_neg (by omega)]
        exact qb e1 (qb e2 (Ev.now _))
theorem q3 (l:List S42) (i:Nat) (hi:i<l.length):l.drop i=rd_T42 l i :: l.drop (i+1):=qB l i _ hi
theorem qbD (l:List S63) (hs:Sm l) (hl:l.length≤100) (X:List S42) (hX:X.length≤1000) (hv:∀ x,x∈X→0≤x.f0):∀ (d i:Nat),i+d=X.length→∃ q:Int,Ev (fun k=>api_Evidence_shared_Check_1_v1.l0 k X (X.length:Int) i l) q∧decide (q≥0)=!((X.drop i).all (rgt l))
  | 0,i,h=>⟨-1,Ev.step (f:=fun _=>some (-1)) (fun k=>by rw [api_Evidence_shared_Check_1_v1.l0,if_neg (by omega)]) (Ev.now _),by rw [List.drop_eq_nil_of_le (by omega)];rfl⟩
  | d+1,i,h=>by
    have hi:i<X.length:=by omega
    have hw:=qc i X.length hi (by omega)
    have hd:=q3 X i hi
    have hm:rd_T42 X i∈X:=List.mem_of_mem_drop (i:=i) (by rw [hd];exact List.mem_cons_self)
    obtain ⟨q,e1,e2⟩:=qbD l hs hl X hX hv d (i+1) (by omega)
    have r1:=qc5 l hs hl (rd_T42 X i) (hv _ hm)
    by_cases e:rgt l (rd_T42 X i)=true
    · refine ⟨q,?_,by rw [hd,List.all_cons,e,Bool.true_and];exact e2⟩
      rw [e] at r1
      refine Ev.step (fun k=>by rw [api_Evidence_shared_Check_1_v1.l0,if_pos (by omega),if_pos (by omega),if_pos (by omega),hw]) ?_
      exact Ev.bind (show Ev (fun k=>shared_Check_1_v1.f k _ _ _ _ _ _ l) false from Ev.bind r1 (Ev.now _)) (qb (by decide) e1)
    · have e':rgt l (rd_T42 X i)=false:=by simpa using e
      refine ⟨i,?_,by rw [hd,List.all_cons,e',Bool.false_and];simp⟩
      rw [e'] at r1
      refine Ev.step (fun k=>by rw [api_Evidence_shared_Check_1_v1.l0,if_pos (by omega),if_pos (by omega),if_pos (by omega),hw]) ?_
      exact Ev.bind (show Ev (fun k=>shared_Check_1_v1.f k _ _ _ _ _ _ l) true from Ev.bind r1 (Ev.now _)) (qa rfl (Ev.now _))
def qav (l:List S63) (X:List S42):Bool:=if gvl l=0 then (if (qm l).2=0 then (if (X.map fun x=>x.f0)=vrs l then X.all (rgt l) else false) else false) else false
theorem qbE (l:List S63) (hs:Sm l) (hl:l.length≤100) (X:List S42) (hX:X.length≤1000) (r:Bool) (H:Ev (fun k=>(solve_First.f k l).bind fun bt455=>if bt455.2=0 then (solve_Vars.f k l).bind fun t457=>(slices_Equal_int_int.f k (X.map fun x=>x.f0) t457).bind fun t460=>if t460=true then (api_Evidence_shared_Check_1.f k X l).bind fun t461=>some (!t461) else some false else some false) r) :
    ∀ (d i:Nat) (acc:List Int),i+d=X.length→acc=(X.take i).map (fun x=>x.f0)→Ev (fun k=>shared_Check.l0 k X acc X (X.length:Int) i l) r
  | 0,i,acc,h,ha=>by
    rw [List.take_of_length_le (by omega)] at ha
    subst ha
    exact Ev.step (fun k=>by rw [shared_Check.l0,if_neg (by omega)]) H
  | d+1,i,acc,h,ha=>by
    have hi:i<X.length:=by omega
    have hw:=qc i X.length hi (by omega)
    have hd:=q3 X i hi
    have h1:(acc++[(rd_T42 X i).f0])=(X.take (i+1)).map (fun x=>x.f0):=by
      rw [ha,List.take_add_one,List.map_append]
      congr 1
      have:X[i]?=some (rd_T42 X i):=by
        have h2:(X.drop i)[0]?=some (rd_T42 X i):=by rw [hd];rfl
        rwa [List.getElem?_drop,Nat.add_zero] at h2
      rw [this]
      rfl
    have hal:acc.length≤1000:=by rw [ha,List.length_map,List.length_take];omega
    exact Ev.step (fun k=>by rw [shared_Check.l0,if_pos (by omega),if_pos (by omega),if_pos (by omega),if_pos (by omega),hw]) (qbE l hs hl X hX r H d (i+1) _ (by omega) h1)
theorem qdm (l:List S63) (hs:Sm l) (hl:l.length≤100) (X:List S42) (hX:X.length≤1000):Ev (fun k=>shared_Check.f k l X) (qav l X):=by
  refine Ev.bind (qP l hs (by omega)) ?_
  unfold qav
  refine qd (fun hg=>?_) (fun _=>Ev.now _)
  obtain ⟨hv,h15⟩:=qas hg
  refine qbE l hs hl X hX _ ?_ X.length 0 [] (by omega) rfl
  refine Ev.bind (qw l hs (by omega)) (qd (fun _=>?_) (fun _=>Ev.now _))
  refine Ev.bind (qS l hs (by omega)) (Ev.bind (qdY (X.map fun x=>x.f0) (vrs l) (by rw [List.length_map];omega)) ?_)
  by_cases e:(X.map fun x=>x.f0)=vrs l
  · rw [if_pos e]
    refine qa (by simpa using e) ?_
    have hp:∀ x,x∈X→0≤x.f0:=fun x hx=>by
      have h1:x.f0∈vrs l:=e ▸ List.mem_map.2 ⟨x,hx,rfl⟩
      unfold vrs at h1
      rw [if_pos ((qg l).2 hv)] at h1
      exact (hv.occ' _ h1).1
    obtain ⟨q,e1,e2⟩:=qbD l hs hl X hX hp X.length 0 (by omega)
    rw [List.drop_zero] at e2
    refine Ev.bind (show Ev (fun k=>api_Evidence_shared_Check_1.f k X l) (decide (q≥0)) from Ev.bind e1 (Ev.now _)) (qf (Ev.now _) ?_)
    rw [e2,Bool.not_not]
  · rw [if_neg e]
    exact qb (by simpa using e) (Ev.now _)
theorem qdL {l:List S63} (h:VS l):vrs l=occ l:=by unfold vrs;rw [if_pos ((qg l).2 h)]
def fx1 (t:S63) (x:S42):S63:=if x.f1=3 then t else if x.f0∈t.f0 then ⟨(rst t.f0 t.f1 x.f0 (x.f1 - 1)).1,(rst t.f0 t.f1 x.f0 (x.f1 - 1)).2.1⟩ else t
def fxs (t:S63) (X:List S42):S63:=X.foldl fx1 t
def Vl (x:S42):Prop:=x.f1=1∨x.f1=2∨x.f1=3
theorem qd5 {t:S63} (h:VT t.f0 t.f1) {x:S42} (hx:Vl x) (h3:x.f1≠3) (hm:x.f0∈t.f0):fx1 t x=⟨wo t.f0 x.f0,ovr (wo t.f0 x.f0) (fun a=>hs t.f0 t.f1 (qR a x.f0 (x.f1 == 2)))⟩:=by
  unfold fx1
  rw [if_neg h3,if_pos hm]
  unfold rst
  rw [if_pos ((qE _ _).2 h)]
  rcases hx with e|e|e
  · rw [e,if_pos (by decide)]
    unfold qar
    rw [if_pos hm]
    rfl
  · rw [e,if_neg (by decide),if_pos (by decide)]
    unfold qar
    rw [if_pos hm]
    rfl
  · exact absurd e h3
theorem qch {t:S63} (h:VT t.f0 t.f1) {x:S42} (hx:Vl x):VT (fx1 t x).f0 (fx1 t x).f1:=by
  by_cases h3:x.f1=3
  · unfold fx1;rw [if_pos h3];exact h
  · by_cases hm:x.f0∈t.f0
    · rw [qd5 h hx h3 hm]
      exact VT.zero h x.f0 (fun a=>hs t.f0 t.f1 (qR a x.f0 (x.f1 == 2)))
    · unfold fx1;rw [if_neg h3,if_neg hm];exact h
theorem qc6:∀ (X:List S42) {t:S63},VT t.f0 t.f1→(∀ x,x∈X→Vl x)→VT (fxs t X).f0 (fxs t X).f1
  | [],_,h,_=>h
  | x :: X,t,h,hX=>qc6 X (qch h (hX x List.mem_cons_self)) (fun y hy=>hX y (List.mem_cons_of_mem _ hy))
theorem qcC (X:List S42) (i:Nat) (hi:i<X.length):rd_T42 X i∈X:=List.mem_of_mem_drop (i:=i) (by rw [q3 X i hi];exact List.mem_cons_self)
theorem qbF (X:List S42) (hX:X.length≤1000) (hV:∀ x,x∈X→Vl x) (acc l:List S63) (n i:Int) (hacc:acc.length≤1000) (r:List S63×Int):∀ (d j:Nat) (t:S63),j+d=X.length→VT t.f0 t.f1→Ev (fun k=>shared_Fix.l0 k X (acc++[fxs t (X.drop j)]) l n (wrap64 (i+1))) r→Ev (fun k=>shared_Fix.l1 k X acc l n i X (X.length:Int) j t.f0 t.f1) r
  | 0,j,t,h,ht,H=>by
    rw [List.drop_eq_nil_of_le (by omega)] at H
    exact Ev.step (f:=fun k=>if acc.length<2932031007402 then shared_Fix.l0 k X (acc++[t]) l n (wrap64 (i+1)) else none) (fun k=>by rw [shared_Fix.l1,if_neg (by omega)] <;> rfl) (qa (by omega) H)
  | d+1,j,t,h,ht,H=>by
    have hj:j<X.length:=by omega
    have hw:=qc j X.length hj (by omega)
    have hm:=qcC X j hj
    have hl:=ht.len
    have hr:=ht.rows_len
    rw [q3 X j hj] at H
    have ih:=qbF X hX hV acc l n i hacc r d (j+1)
    have hvl:=hV _ hm
    refine Ev.step (fun k=>by rw [shared_Fix.l1,if_pos (by omega),if_pos (by omega),if_pos (by omega),hw]) ?_
    by_cases h3:(rd_T42 X j).f1=3
    · refine qa h3 (ih t (by omega) ht ?_)
      have e2:fx1 t (rd_T42 X j)=t:=by unfold fx1;rw [if_pos h3]
      have e3:fxs t (rd_T42 X j :: X.drop (j+1))=fxs (fx1 t (rd_T42 X j)) (X.drop (j+1)):=rfl
      rwa [e3,e2] at H
    · refine qb h3 (Ev.bind (qz t.f0 (by omega) _) ?_)
      by_cases hc:(rd_T42 X j).f0∈t.f0
      · have hw2:wrap64 ((rd_T42 X j).f1 - 1)=(rd_T42 X j).f1 - 1:=qh _ (by rcases hvl with e|e|e <;> omega)
        refine qa (decide_eq_true hc) ?_
        rw [hw2]
        refine Ev.bind (qdj t.f0 t.f1 (by omega) (by omega) _ _) ?_
        have e2:fx1 t (rd_T42 X j)=⟨(rst t.f0 t.f1 (rd_T42 X j).f0 ((rd_T42 X j).f1 - 1)).1,(rst t.f0 t.f1 (rd_T42 X j).f0 ((rd_T42 X j).f1 - 1)).2.1⟩:=by unfold fx1;rw [if_neg h3,if_pos hc]
        have e3:fxs t (rd_T42 X j :: X.drop (j+1))=fxs (fx1 t (rd_T42 X j)) (X.drop (j+1)):=rfl
        have hv2:=qch ht hvl
        have ih2:=ih (fx1 t (rd_T42 X j)) (by omega) hv2 (by rwa [e3] at H)
        rw [e2] at ih2
        exact ih2
      · refine qb (by simpa using hc) (ih t (by omega) ht ?_)
        have e2:fx1 t (rd_T42 X j)=t:=by unfold fx1;rw [if_neg h3,if_neg hc]
        have e3:fxs t (rd_T42 X j :: X.drop (j+1))=fxs (fx1 t (rd_T42 X j)) (X.drop (j+1)):=rfl
        rwa [e3,e2] at H
theorem qbG (X:List S42) (hX:X.length≤1000) (hV:∀ x,x∈X→Vl x) (l:List S63) (hv:VS l) (hl:l.length≤100):∀ (d i:Nat) (acc:List S63),i+d=l.length→acc.length≤i→Ev (fun k=>shared_Fix.l0 k X acc l (l.length:Int) i) (acc++(l.drop i).map (fun t=>fxs t X),0)
  | 0,i,acc,h,ha=>by
    rw [List.drop_eq_nil_of_le (by omega)]
    exact Ev.step (f:=fun _=>some (acc,0)) (fun k=>by rw [shared_Fix.l0,if_neg (by omega)]) (qf (Ev.now _) (by simp))
  | d+1,i,acc,h,ha=>by
    have hi:i<l.length:=by omega
    have hw:=qc i l.length hi (by omega)
    have hm:=qj l i hi
    have ht:=hv.tab _ hm
    have h1:=ht.len
    have h2:=ht.rows_len
    have ih:=qbG X hX hV l hv hl d (i+1) (acc++[fxs (rd_T63 l i) X]) (by omega) (by simp;omega)
    rw [List.append_assoc,List.singleton_append,← List.map_cons (f:=fun t=>fxs t X),← qp l i hi,← hw] at ih
    refine Ev.step (f:=fun k=>shared_Fix.l1 k X acc l (l.length:Int) i X (X.length:Int) 0 (rd_T63 l i).f0 (rd_T63 l i).f1) (fun k=>?_) ?_
    · rw [shared_Fix.l0,if_pos (by omega),if_pos (by omega),if_pos (by omega),qy _ (by omega),qy _ (by omega)]
      rfl
    · exact qbF X hX hV acc l _ i (by omega) _ X.length 0 (rd_T63 l i) (by omega) ht (by rw [List.drop_zero];exact ih)
theorem qd9 (n:Nat) (hn:n<2 ^ 24) {v:Int} (h0:0≤v) (h1:v<24):Go.bits .and .i64 (n:Int) (shl .i64 1 v)=0↔n.testBit v.toNat=false:=by
  have e:=qI v.toNat (by omega)
  rw [← qe h0] at e
  have hb:2 ^ v.toNat<2 ^ 62:=Nat.pow_lt_pow_right (by decide) (by omega)
  have key:=(bits_nat .i64 62 (by decide) w62 n (2 ^ v.toNat) (p62 hn (by decide)) hb).1
  have k2:Go.bits .and .i64 (n:Int) (shl .i64 1 v)=((n&&& 2 ^ v.toNat:Nat):Int):=by rw [e];exact key
  rw [k2]
  have k3:(n&&& 2 ^ v.toNat).testBit v.toNat=n.testBit v.toNat:=by rw [Nat.testBit_and,Nat.testBit_two_pow_self,Bool.and_true]
  constructor
  · intro h
    have h2:n&&& 2 ^ v.toNat=0:=by omega
    rw [← k3,h2,Nat.zero_testBit]
  · intro h
    have h2:n&&& 2 ^ v.toNat=0:=by
      apply Nat.eq_of_testBit_eq
      intro j
      rw [Nat.zero_testBit]
      by_cases hj:v.toNat=j
      · subst hj;rw [k3,h]
      · rw [Nat.testBit_and,Nat.testBit_two_pow_of_ne hj,Bool.and_false]
    rw [h2];rfl
theorem qdM {l:List S63} {a:Int} (h:hld l a=true):∃ n:Nat,a=(n:Int)∧n<2 ^ 24:=by
  unfold hld at h
  by_cases e:qn l=0
  · rw [if_pos e] at h
    by_cases e1:a<0
    · rw [if_pos e1] at h;cases h
    · rw [if_neg e1] at h
      by_cases e2:a≥16777216
      · rw [if_pos e2] at h;cases h
      · exact ⟨a.toNat,by omega,by omega⟩
  · rw [if_neg e] at h;cases h
theorem qd6 {l:List S63} (h:VS l) (h15:l.length≤15) {v x:Int} (h0:0≤v) (h1:v<24) (h2:0≤x) (h3:x≤1):(giv l v x).2=0:=by
  unfold giv
  rw [if_pos ((qg l).2 h),if_neg (by omega),if_neg (by omega),if_neg (by omega),if_neg (by omega),if_neg (by omega)]
def qcO (l:List S63) (x:S42):Bool:=
  if x.f1=3 then (if hld l x.f3=true then (if Go.bits .and .i64 x.f3 (shl .i64 1 x.f0)=0 then (if hld l x.f4=true then (if Go.bits .and .i64 x.f4 (shl .i64 1 x.f0)=0 then false else (if x.f2=0 then (x.f5.f0.length:Int) == 0 else false)) else false) else false) else false)
  else if x.f1=1∨x.f1=2 then (if hld l x.f2=true then (if q9 (giv l x.f0 (wrap64 (2 - x.f1))).1 x.f5.f0=true then (if x.f3=0 then x.f4 == 0 else false) else false) else false)
  else false
theorem qc7 (l:List S63) (hs:Sm l) (hl:l.length≤100) (x:S42) (hv:0≤x.f0):Ev (fun k=>ancepsref41_right.f k l x.f0 x.f1 x.f2 x.f3 x.f4 x.f5.f0) (qcO l x):=by
  obtain ⟨g1,g2⟩:=qao hs hl x.f0 (wrap64 (2 - x.f1))
  have tail:Ev (fun k=>(ancepsref40_Given.f k l x.f0 (wrap64 (2 - x.f1))).bind fun bt=>(ancepsref40_Holds.f k l x.f2).bind fun t=>if t=true then (ancepsref40_Check.f k bt.1 x.f5.f0).bind fun t=>if t=true then (if x.f3=0 then some (x.f4 == 0) else some false) else some false else some false) (if hld l x.f2=true then (if q9 (giv l x.f0 (wrap64 (2 - x.f1))).1 x.f5.f0=true then (if x.f3=0 then x.f4 == 0 else false) else false) else false):=
    Ev.bind (qdB l hs (by omega) _ _) (Ev.bind (qaI l hs (by omega) _) (qd (fun _=>Ev.bind (qcZ _ g1 g2 _) (qd (fun _=>qd (fun _=>Ev.now _) (fun _=>Ev.now _)) (fun _=>Ev.now _))) (fun _=>Ev.now _)))
  refine qa hv ?_
  unfold qcO
  by_cases e3:x.f1=3
  · rw [if_pos e3]
    exact qa e3 (Ev.bind (qaI l hs (by omega) _) (qd (fun _=>qd (fun _=>Ev.bind (qaI l hs (by omega) _) (qd (fun _=>qd (fun _=>Ev.now _) (fun _=>qd (fun _=>Ev.now _) (fun _=>Ev.now _))) (fun _=>Ev.now _))) (fun _=>Ev.now _)) (fun _=>Ev.now _)))
  · rw [if_neg e3]
    refine qb e3 ?_
    by_cases e1:x.f1=1
    · rw [if_pos (show x.f1=1∨x.f1=2 from .inl e1)]
      exact qa e1 tail
    · by_cases e2:x.f1=2
      · rw [if_pos (show x.f1=1∨x.f1=2 from .inr e2)]
        exact qb e1 (qa e2 tail)
      · rw [if_neg (show ¬ (x.f1=1∨x.f1=2) by omega)]
        exact qb e1 (qb e2 (Ev.now _))
theorem qdN {l:List S63} (h:VS l) (h15:l.length≤15) {x:S42} (h0:0≤x.f0) (h1:x.f0<24):qcO l x=rgt l x:=by
  unfold qcO rgt
  generalize (x.f5.f0.length:Int)=nn
  by_cases e3:x.f1=3
  · rw [if_pos e3,if_pos e3]
    have hb:∀ (a:Int),hld l a=true→∃ b:Bool,(Go.bits .and .i64 a (shl .i64 1 x.f0)=0↔b=false)∧Go.bits .and .i64 (shr .i64 a x.f0) 1=((b.toNat:Nat):Int):=fun a ha=>by
      obtain ⟨n,rfl,hn⟩:=qdM ha
      exact ⟨_,qd9 n hn h0 h1,qb1 n hn x.f0 h0 h1⟩
    unfold qbj
    cases ha:hld l x.f3 with
    | false=>simp
    | true=>
      obtain ⟨b,hb1,hb2⟩:=hb _ ha
      rw [hb2]
      cases hc:hld l x.f4 with
      | false=>cases b <;> simp
      | true=>
        obtain ⟨c,hc1,hc2⟩:=hb _ hc
        rw [hc2]
        simp only [hb1,hc1]
        by_cases k1:x.f2=0 <;> by_cases k2:nn=0 <;> cases b <;> cases c <;> simp [k1,k2]
  · rw [if_neg e3,if_neg e3]
    by_cases e:x.f1=1∨x.f1=2
    · rw [if_pos e,if_pos e]
      have hw:wrap64 (2 - x.f1)=2 - x.f1:=qh _ (by rcases e with e|e <;> omega)
      have hg:(giv l x.f0 (wrap64 (2 - x.f1))).2=0:=qd6 h h15 h0 h1 (by rw [hw];rcases e with e|e <;> omega) (by rw [hw];rcases e with e|e <;> omega)
      rw [if_pos hg]
      by_cases k3:x.f3=0 <;> by_cases k4:x.f4=0 <;> cases hld l x.f2 <;> cases q9 (giv l x.f0 (wrap64 (2 - x.f1))).1 x.f5.f0 <;> simp [k3,k4]
    · rw [if_neg e,if_neg e]
theorem qdO {l:List S63} (h:VS l) {x:S42} (hr:rgt l x=true):(qm l).2=0:=by
  have key:∀ a,hld l a=true→(qm l).2=0:=fun a ha=>by
    rw [qdk h]
    unfold hld at ha
    rw [if_pos ((qg l).2 h)] at ha
    by_cases e1:a<0
    · rw [if_pos e1] at ha;cases ha
    · rw [if_neg e1] at ha
      by_cases e2:a≥16777216
      · rw [if_pos e2] at ha;cases ha
      · rw [if_neg e2] at ha
        unfold hsS at ha
        exact ⟨a.toNat,by simp only [Bool.and_eq_true] at ha;exact ha.2⟩
  unfold rgt at hr
  by_cases e3:x.f1=3
  · rw [if_pos e3] at hr
    unfold qbj at hr
    cases ha:hld l x.f3 with
    | true=>exact key _ ha
    | false=>rw [ha] at hr;simp at hr
  · rw [if_neg e3] at hr
    cases ha:hld l x.f2 with
    | true=>exact key _ ha
    | false=>rw [ha] at hr;simp at hr
theorem qbH (l:List S63) (hs:Sm l) (hl:l.length≤100) (h:VS l) (h15:l.length≤15) (X:List S42) (vs:List Int) (hlen:X.length=vs.length) (hv:∀ v,v∈vs→0≤v∧v<24) (hn:vs.length≤1000):∀ (d i:Nat),i+d=X.length→(0<i→(qm l).2=0)→
    Ev (fun k=>ancepsref41_Check.l0 k l X vs i) (if (X.drop i).map (fun x=>x.f0)=vs.drop i then (if (X.drop i).all (rgt l)=true then decide ((qm l).2=0) else false) else false)
  | 0,i,hi,hp=>by
    have e1:X.drop i=[]:=List.drop_eq_nil_of_le (by omega)
    have e2:vs.drop i=[]:=List.drop_eq_nil_of_le (by omega)
    rw [e1,e2,List.map_nil,if_pos rfl,List.all_nil,if_pos rfl]
    refine Ev.step (f:=fun k=>if (vs.length:Int)>0 then some true else (ancepsref41_solvable.f k l).bind fun t=>some t) (fun k=>by rw [ancepsref41_Check.l0,if_neg (by omega)]) ?_
    by_cases e:(vs.length:Int)>0
    · exact qa e (qf (Ev.now _) (decide_eq_true (hp (by omega))).symm)
    · refine qb e (Ev.bind (qdH l hs (by omega)) (qf (Ev.now _) ?_))
      by_cases e5:(qm l).2=0
      · rw [e5];rfl
      · rw [decide_eq_false e5];simpa using e5
  | d+1,i,hi,hp=>by
    have h1:i<X.length:=by omega
    have hw:=qc i X.length h1 (by omega)
    have hd:=q3 X i h1
    have hd2:=qi vs i (by omega)
    have ih:=qbH l hs hl h h15 X vs hlen hv hn d (i+1) (by omega)
    rw [hd,hd2,List.map_cons,List.all_cons]
    have hm:rd vs i∈vs:=List.mem_of_mem_drop (i:=i) (by rw [hd2];exact List.mem_cons_self)
    have hvv:=hv _ hm
    refine Ev.step (fun k=>by rw [ancepsref41_Check.l0,if_pos (by omega),if_pos (by omega),if_pos (by omega),hw]) ?_
    by_cases e:(rd_T42 X i).f0=rd vs i
    · have r1:=qc7 l hs hl (rd_T42 X i) (by omega)
      rw [qdN h h15 (by omega) (by omega)] at r1
      refine qa e (Ev.bind r1 ?_)
      cases hr:rgt l (rd_T42 X i) with
      | false=>
        refine qb (by decide) (qf (Ev.now _) ?_)
        rw [Bool.false_and]
        simp
      | true=>
        refine qa rfl (qf (ih (fun _=>qdO h hr)) ?_)
        rw [Bool.true_and,e]
        by_cases k:(X.drop (i+1)).map (fun x=>x.f0)=vs.drop (i+1)
        · rw [if_pos k,if_pos (show rd vs i :: (X.drop (i+1)).map (fun x=>x.f0)=rd vs i :: vs.drop (i+1) by rw [k])]
        · rw [if_neg k,if_neg (show ¬ rd vs i :: (X.drop (i+1)).map (fun x=>x.f0)=rd vs i :: vs.drop (i+1) from fun c=>k (List.cons.inj c).2)]
    · refine qb e (qf (Ev.now _) ?_)
      rw [if_neg (fun c=>e (List.cons.inj c).1)]
theorem qdn (l:List S63) (hs:Sm l) (hl:l.length≤100) (X:List S42) (hX:X.length≤1000):Ev (fun k=>ancepsref41_Check.f k l X) (qav l X):=by
  refine Ev.bind (qcz l hs (by omega)) ?_
  unfold qav
  refine qd (fun hg=>?_) (fun _=>Ev.now _)
  obtain ⟨hv,h15⟩:=qas hg
  refine Ev.bind (qcW l hs (by omega)) ?_
  have ho:=qdL hv
  by_cases e:X.length=(vrs l).length
  · refine qa (by omega) ?_
    have h:=qbH l hs hl hv h15 X (vrs l) e (fun v hvv=>hv.occ' v (by rwa [ho] at hvv)) (qcx l) X.length 0 (by omega) (fun c=>by omega)
    rw [List.drop_zero,List.drop_zero] at h
    refine qf h ?_
    by_cases k1:(qm l).2=0
    · rw [if_pos k1,decide_eq_true k1]
      by_cases k2:X.map (fun x=>x.f0)=vrs l
      · rw [if_pos k2,if_pos k2]
        cases X.all (rgt l) <;> simp
      · rw [if_neg k2,if_neg k2]
    · rw [if_neg k1,decide_eq_false k1]
      simp
  · refine qb (by omega) (qf (Ev.now _) ?_)
    rw [if_neg (fun c:X.map (fun x=>x.f0)=vrs l=>e (by rw [← c,List.length_map]))]
    simp
theorem qa7 (l:List S63) (X:List S42) (hX:X.length≤1000) (hV:∀ x,x∈X→Vl x) (acc:List S63) (i:Int) (hacc:acc.length≤1000) (r:List S63×Int):∀ (d j:Nat) (t:S63),j+d=X.length→VT t.f0 t.f1→Ev (fun k=>ancepsref41_Fix.l0 k l X (acc++[fxs t (X.drop j)]) (wrap64 (i+1))) r→Ev (fun k=>ancepsref41_Fix.l1 k l X acc i j t.f0 t.f1) r
  | 0,j,t,h,ht,H=>by
    rw [List.drop_eq_nil_of_le (by omega)] at H
    exact Ev.step (f:=fun k=>if acc.length<2932031007402 then ancepsref41_Fix.l0 k l X (acc++[t]) (wrap64 (i+1)) else none) (fun k=>by rw [ancepsref41_Fix.l1,if_neg (by omega)] <;> rfl) (qa (by omega) H)
  | d+1,j,t,h,ht,H=>by
    have hj:j<X.length:=by omega
    have hw:=qc j X.length hj (by omega)
    have hm:=qcC X j hj
    have hl:=ht.len
    have hr:=ht.rows_len
    rw [q3 X j hj] at H
    have ih:=qa7 l X hX hV acc i hacc r d (j+1)
    have hvl:=hV _ hm
    refine Ev.step (fun k=>by rw [ancepsref41_Fix.l1,if_pos (by omega),if_pos (by omega),hw]) ?_
    have e3:fxs t (rd_T42 X j :: X.drop (j+1))=fxs (fx1 t (rd_T42 X j)) (X.drop (j+1)):=rfl
    by_cases h3:(rd_T42 X j).f1=3
    · refine qa h3 (ih t (by omega) ht ?_)
      have e2:fx1 t (rd_T42 X j)=t:=by unfold fx1;rw [if_pos h3]
      rwa [e3,e2] at H
    · refine qb h3 (Ev.bind (qd1 t.f0 (by omega) _) ?_)
      by_cases hc:(rd_T42 X j).f0∈t.f0
      · have hw2:wrap64 ((rd_T42 X j).f1 - 1)=(rd_T42 X j).f1 - 1:=qh _ (by rcases hvl with e|e|e <;> omega)
        refine qa (decide_eq_true hc) ?_
        rw [hw2]
        refine Ev.bind (qdi t.f0 t.f1 (by omega) (by omega) _ _) ?_
        have e2:fx1 t (rd_T42 X j)=⟨(rst t.f0 t.f1 (rd_T42 X j).f0 ((rd_T42 X j).f1 - 1)).1,(rst t.f0 t.f1 (rd_T42 X j).f0 ((rd_T42 X j).f1 - 1)).2.1⟩:=by unfold fx1;rw [if_neg h3,if_pos hc]
        have hv2:=qch ht hvl
        have ih2:=ih (fx1 t (rd_T42 X j)) (by omega) hv2 (by rwa [e3] at H)
        rw [e2] at ih2
        exact ih2
      · refine qb (by simpa using hc) (ih t (by omega) ht ?_)
        have e2:fx1 t (rd_T42 X j)=t:=by unfold fx1;rw [if_neg h3,if_neg hc]
        rwa [e3,e2] at H
theorem qa8 (X:List S42) (hX:X.length≤1000) (hV:∀ x,x∈X→Vl x) (l:List S63) (hv:VS l) (hl:l.length≤100):∀ (d i:Nat) (acc:List S63),i+d=l.length→acc.length≤i→Ev (fun k=>ancepsref41_Fix.l0 k l X acc i) (acc++(l.drop i).map (fun t=>fxs t X),0)
  | 0,i,acc,h,ha=>by
    rw [List.drop_eq_nil_of_le (by omega)]
    exact Ev.step (f:=fun _=>some (acc,0)) (fun k=>by rw [ancepsref41_Fix.l0,if_neg (by omega)]) (qf (Ev.now _) (by simp))
  | d+1,i,acc,h,ha=>by
    have hi:i<l.length:=by omega
    have hw:=qc i l.length hi (by omega)
    have hm:=qj l i hi
    have ht:=hv.tab _ hm
    have ih:=qa8 X hX hV l hv hl d (i+1) (acc++[fxs (rd_T63 l i) X]) (by omega) (by simp;omega)
    rw [List.append_assoc,List.singleton_append,← List.map_cons (f:=fun t=>fxs t X),← qp l i hi,← hw] at ih
    refine Ev.step (f:=fun k=>ancepsref41_Fix.l1 k l X acc i 0 (rd_T63 l i).f0 (rd_T63 l i).f1) (fun k=>?_) ?_
    · rw [ancepsref41_Fix.l0,if_pos (by omega),if_pos (by omega)]
    · exact qa7 l X hX hV acc i (by omega) _ X.length 0 (rd_T63 l i) (by omega) ht (by rw [List.drop_zero];exact ih)
theorem qbk {l:List S63} {X:List S42} (h:qav l X=true):gvl l=0∧∀ x,x∈X→Vl x:=by
  unfold qav at h
  by_cases e:gvl l=0
  · rw [if_pos e] at h
    by_cases e1:(qm l).2=0
    · rw [if_pos e1] at h
      by_cases e2:X.map (fun x=>x.f0)=vrs l
      · rw [if_pos e2] at h
        refine ⟨e,fun x hx=>?_⟩
        have hr:=List.all_eq_true.1 h x hx
        unfold Vl
        unfold rgt at hr
        by_cases k3:x.f1=3
        · exact .inr (.inr k3)
        · rw [if_neg k3] at hr
          by_cases k:x.f1=1∨x.f1=2
          · rcases k with k|k
            · exact .inl k
            · exact .inr (.inl k)
          · rw [if_neg k] at hr;cases hr
      · rw [if_neg e2] at h;cases h
    · rw [if_neg e1] at h;cases h
  · rw [if_neg e] at h;cases h
def qaO (l:List S63) (X:List S42):List S63×Int:=if gvl l=0 then (if qav l X=true then (l.map (fun t=>fxs t X),0) else ([],1)) else ([],gvl l)
theorem qdo (l:List S63) (hs:Sm l) (hl:l.length≤100) (X:List S42) (hX:X.length≤1000):Ev (fun k=>shared_Fix.f k l X) (qaO l X):=by
  unfold qaO
  refine Ev.bind (qP l hs (by omega)) (qd (fun hg=>Ev.bind (qdm l hs hl X hX) (qd (fun hc=>?_) (fun _=>Ev.now _))) (fun _=>Ev.now _))
  have h:=qbG X hX (qbk hc).2 l (qas hg).1 hl l.length 0 [] (by omega) (by simp)
  rwa [List.drop_zero,List.nil_append] at h
theorem qdp (l:List S63) (hs:Sm l) (hl:l.length≤100) (X:List S42) (hX:X.length≤1000):Ev (fun k=>ancepsref41_Fix.f k l X) (qaO l X):=by
  unfold qaO
  refine Ev.bind (qcz l hs (by omega)) (qd (fun hg=>Ev.bind (qdn l hs hl X hX) (qd (fun hc=>?_) (fun _=>Ev.now _))) (fun _=>Ev.now _))
  have h:=qa8 X hX (qbk hc).2 l (qas hg).1 hl l.length 0 [] (by omega) (by simp)
  rwa [List.drop_zero,List.nil_append] at h
theorem qdP (l:List S63) (hl:l.length≤100) (X:List S42):Sm (qaO l X).1∧(qaO l X).1.length≤100:=by
  unfold qaO
  by_cases e:gvl l=0
  · rw [if_pos e]
    by_cases e1:qav l X=true
    · rw [if_pos e1]
      refine ⟨fun t ht=>?_,by rw [List.length_map];exact hl⟩
      obtain ⟨u,hu,rfl⟩:=List.mem_map.1 ht
      have h:=qc6 X ((qas e).1.tab u hu) (qbk e1).2
      have h1:=h.len
      have h2:=h.rows_len
      exact ⟨by omega,by omega⟩
    · rw [if_neg e1];exact ⟨fun t ht=>by simp at ht,by simp⟩
  · rw [if_neg e];exact ⟨fun t ht=>by simp at ht,by simp⟩
theorem qbI (X:List S42):∀ (d i:Nat),i+d=21→i≤20→∃ b,Ev (fun k=>ancepsref41_Few.l0 k X i) b∧(b=true→X.length≤12)
  | 0,i,h,hi=>by omega
  | d+1,i,h,hi=>by
    have fin:Ev (fun _=>some (decide ((X.length:Int)≤12))) (decide ((X.length:Int)≤12)):=Ev.now _
    by_cases e:i<X.length
    · by_cases e2:i<20
      · have hw:=qc i 21 (by omega) (by decide)
        have st:∀ {r:Bool},Ev (fun k=>if ((rd_T42 X i).f5.f0.length:Int)>2100 then some false else if (rd_T42 X i).f0<0 then some false else if (rd_T42 X i).f0≥24 then some false else ancepsref41_Few.l0 k X ((i+1:Nat):Int)) r→Ev (fun k=>ancepsref41_Few.l0 k X i) r:=fun H=>Ev.step (fun k=>by rw [ancepsref41_Few.l0,if_pos (by omega),if_pos (by omega),if_pos (by omega),hw]) H
        by_cases k1:((rd_T42 X i).f5.f0.length:Int)>2100
        · exact ⟨false,st (qa k1 (Ev.now _)),fun c=>by cases c⟩
        · by_cases k2:(rd_T42 X i).f0<0
          · exact ⟨false,st (qb k1 (qa k2 (Ev.now _))),fun c=>by cases c⟩
          · by_cases k3:(rd_T42 X i).f0≥24
            · exact ⟨false,st (qb k1 (qb k2 (qa k3 (Ev.now _)))),fun c=>by cases c⟩
            · obtain ⟨b,h1,h2⟩:=qbI X d (i+1) (by omega) (by omega)
              exact ⟨b,st (qb k1 (qb k2 (qb k3 h1))),h2⟩
      · exact ⟨_,Ev.step (fun k=>by rw [ancepsref41_Few.l0,if_pos (by omega),if_neg (by omega)]) fin,fun c=>by have:=of_decide_eq_true c;omega⟩
    · exact ⟨_,Ev.step (fun k=>by rw [ancepsref41_Few.l0,if_neg (by omega)]) fin,fun c=>by have:=of_decide_eq_true c;omega⟩
theorem qdQ (X:List S42):∃ b,Ev (fun k=>ancepsref41_Few.f k X) b∧(b=true→X.length≤12):=qbI X 21 0 rfl (by decide)
theorem qbJ (l:List S63) (hs:Sm l) (hl:l.length≤1000):∀ (d i:Nat),i+d=l.length→Ev (fun k=>ancepsref40_SameTables.l0 k l l i) true
  | 0,i,h=>Ev.step (f:=fun _=>some true) (fun k=>by rw [ancepsref40_SameTables.l0,if_neg (by omega)]) (Ev.now _)
  | d+1,i,h=>by
    have hi:i<l.length:=by omega
    have hw:=qc i l.length hi (by omega)
    have hm:=hs _ (qj l i hi)
    exact Ev.step (fun k=>by rw [ancepsref40_SameTables.l0,if_pos (by omega),if_pos (by omega),if_pos (by omega),hw]) (Ev.bind (qdg _ _ (by omega) (by omega)) (qa rfl (qbJ l hs hl d (i+1) (by omega))))
theorem qdR (l:List S63) (hs:Sm l) (hl:l.length≤1000):Ev (fun k=>ancepsref40_SameTables.f k l l) true:=qa rfl (qbJ l hs hl l.length 0 (by omega))
theorem qci (l:List S63) (X:List S42):Ev (fun k=>ancepslaw41_SharedFix.f k l X) true:=by
  refine Ev.bind qcg (qa rfl ?_)
  obtain ⟨b,hb,hq⟩:=qdG l
  refine Ev.bind hb ?_
  cases b with
  | false=>exact qb (by simp) qa6
  | true=>
    obtain ⟨hS,h18⟩:=hq rfl
    obtain ⟨c,hc,hx⟩:=qdQ X
    refine qa rfl (Ev.bind hc ?_)
    cases c with
    | false=>exact qb (by simp) qa6
    | true=>
      have h12:=hx rfl
      have o:=qd0 l hS (by omega)
      obtain ⟨s1,s2⟩:=qdP l (by omega) X
      exact qa rfl (Ev.bind o (Ev.bind (qdo l hS (by omega) X (by omega)) (Ev.bind (qdp l hS (by omega) X (by omega)) (qa rfl (Ev.bind (qdR _ s1 (by omega)) (Ev.now _))))))
theorem SharedFix (l0:List (S63)) (l1:List S42) (w_l0:∀ x,x∈l0→(∀ y,y∈x.f0→(Lit.int .i64 y).wf=true)∧(∀ y,y∈x.f1→(Lit.int .i64 y).wf=true)) (w_l1:∀ x,x∈l1→(Lit.int .i64 x.f0).wf=true∧(Lit.int .i64 x.f1).wf=true∧(Lit.int .i64 x.f2).wf=true∧(Lit.int .i64 x.f3).wf=true∧(Lit.int .i64 x.f4).wf=true∧(∀ y,y∈x.f5.f0→(Lit.int .i64 y.f0).wf=true∧(Lit.int .i64 y.f1).wf=true∧(Lit.int .i64 y.f2).wf=true∧(Lit.int .i64 y.f3).wf=true)):∃ k,F.ancepslaw41_SharedFix.f k l0 l1=some true:=qcP (qci l0 l1)

end Go.Proofs.YtngpkbbljnbojaaGreat.Pure
