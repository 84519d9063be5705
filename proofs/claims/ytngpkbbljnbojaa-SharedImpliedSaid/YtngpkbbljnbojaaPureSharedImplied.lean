import Derived.Test.YtngpkbbljnbojaaI0
import Derived.Test.YtngpkbbljnbojaaI2
import Derived.Test.YtngpkbbljnbojaaI3
import Derived.Test.YtngpkbbljnbojaaI4
import Derived.Test.YtngpkbbljnbojaaI5
import Derived.Test.YtngpkbbljnbojaaI6
import Derived.Test.YtngpkbbljnbojaaI7
import Derived.Test.YtngpkbbljnbojaaI8
import Derived.Test.YtngpkbbljnbojaaI9
import Derived.Test.YtngpkbbljnbojaaI10
import Derived.Test.YtngpkbbljnbojaaI11
import Derived.Test.YtngpkbbljnbojaaI12
import Derived.Test.YtngpkbbljnbojaaI13
import Derived.Test.YtngpkbbljnbojaaI14
namespace Go.Proofs.Ytngpkbbljnbojaa.Pure
open Go.RowKit Go.Proofs.YtngpkbbljnbojaaW.PrintWords Go.Proofs.Ytngpkbbljnbojaa.I
set_option linter.unusedVariables false
set_option linter.unusedSimpArgs false
theorem qh (n:Int) (h : -9223372036854775808≤n∧n≤9223372036854775807):wrap64 n=n:=by unfold wrap64;omega
theorem qb (i n:Nat) (hi:i<n) (hn:(n:Int)≤9223372036854775807):wrap64 ((i:Int)+1)=((i+1:Nat):Int):=by
  rw [qh _ (by omega)];omega
theorem qaz {α:Type} (l:List α) (i:Nat) (z:α) (hi:i<l.length):l.drop i=l.getD i z :: l.drop (i+1):=by
  rw [List.drop_eq_getElem_cons hi]
  simp [List.getD,List.getElem?_eq_getElem hi]
theorem qa {α:Type} {c:Prop} [Decidable c] {g f:Nat→Option α} {r:α} (h:c) (e:Ev g r):Ev (fun k=>if c then g k else f k) r:=Ev.congr (fun k=>if_pos h) e
theorem qc {α:Type} {c:Prop} [Decidable c] {g f:Nat→Option α} {r:α} (h:¬ c) (e:Ev f r):Ev (fun k=>if c then g k else f k) r:=Ev.congr (fun k=>if_neg h) e
theorem qf {α:Type} {g:Nat→Option α} {r s:α} (e:Ev g r) (h:r=s):Ev g s:=h ▸ e
theorem qd {α:Type} {c:Prop} [Decidable c] {g f:Nat→Option α} {r s:α} (h1:c→Ev g r) (h2:¬ c→Ev f s):Ev (fun k=>if c then g k else f k) (if c then r else s):=by
  by_cases h:c
  · rw [if_pos h];exact qa h (h1 h)
  · rw [if_neg h];exact qc h (h2 h)
theorem qbC {α:Type} {g:Nat→Option α} {r:α} (h:Ev g r):∃ k,g k=some r:=h.elim fun K h=>⟨K,h K (Nat.le_refl _)⟩

def chk (hi:Int):Option Int→List Int→Int
  | _,[]=>0
  | none,x :: xs=>if x<0∨hi≤x then 6 else chk hi (some x) xs
  | some q,x :: xs=>if x<0∨hi≤x then 6 else if x≤q then 18 else chk hi (some x) xs
def Chn (hi:Int):Option Int→List Int→Prop
  | _,[]=>True
  | p,x :: xs=>0≤x∧x<hi∧(∀ q,p=some q→q<x)∧Chn hi (some x) xs
theorem qar (hi:Int):∀ (xs:List Int) (p:Option Int),chk hi p xs=0↔Chn hi p xs
  | [],p=>by cases p <;> simp [chk,Chn]
  | x :: xs,p=>by
    have ih:=qar hi xs (some x)
    cases p with
    | none=>
      simp only [chk,Chn]
      by_cases h:x<0∨hi≤x
      · rw [if_pos h];exact ⟨fun h=>by omega,fun h2=>by omega⟩
      · rw [if_neg h,ih];exact ⟨fun h2=>⟨by omega,by omega,(fun q hq=>by cases hq),h2⟩,fun h2=>h2.2.2.2⟩
    | some q=>
      simp only [chk,Chn]
      by_cases h:x<0∨hi≤x
      · rw [if_pos h];exact ⟨fun h=>by omega,fun h2=>by omega⟩
      · rw [if_neg h]
        by_cases h1:x≤q
        · rw [if_pos h1];exact ⟨fun h=>by omega,fun h2=>by have:=h2.2.2.1 q rfl;omega⟩
        · rw [if_neg h1,ih];exact ⟨fun h2=>⟨by omega,by omega,fun q' hq=>by injection hq;omega,h2⟩,fun h2=>h2.2.2.2⟩
def prv (xs:List Int) (i:Nat):Option Int:=if i=0 then none else some (rd xs ((i:Int) - 1))
theorem qI (xs:List Int) (i:Nat):prv xs (i+1)=some (rd xs i):=by
  unfold prv;rw [if_neg (by omega)];congr 2;omega
theorem qm (l:List Int) (i:Nat) (hi:i<l.length):l.drop i=rd l i :: l.drop (i+1):=qaz l i 0 hi
theorem qF (ps:List Int) (i:Nat) (hi:i<ps.length):rd ps i∈ps:=by
  unfold rd
  simp only [Int.toNat_natCast,List.getD,List.getElem?_eq_getElem hi,Option.getD_some]
  exact List.getElem_mem hi
theorem qJ (n:Nat) (h:n≤60):shl .i64 1 (n:Int)=((2 ^ n:Nat):Int):=by
  have h2:(2:Nat) ^ n≤2 ^ 60:=Nat.pow_le_pow_right (by decide) h
  unfold shl
  have e:min ((n:Int)).toNat IntKind.i64.bits=n:=by
    have:IntKind.i64.bits=64:=rfl
    rw [this];omega
  rw [e,Int.one_mul,show ((2:Int) ^ n)=((2 ^ n:Nat):Int) by simp]
  have h3:(2:Nat) ^ 60=1152921504606846976:=by decide
  rw [h3] at h2
  generalize (2:Nat) ^ n=z at h2 ⊢
  rw [IntKind.wrap_i64]
  omega
def asc (vs:List Int):Int:=if (vs.length:Int)>10 then 3 else chk 24 none vs
def qu (vs rs:List Int):Int:=if asc vs=0 then chk ((2 ^ vs.length:Nat):Int) none rs else asc vs
theorem qaT (vs:List Int) (hl:(vs.length:Int)≤9223372036854775807):∀ (d i:Nat),i+d=vs.length→Ev (fun k=>table_ascending.l0 k vs vs vs.length i) (chk 24 (prv vs i) (vs.drop i))
  | 0,i,h=>by
    rw [List.drop_eq_nil_of_le (by omega)]
    refine Ev.step (f:=fun _=>some 0) (fun k=>by rw [table_ascending.l0,if_neg (by omega)]) ?_
    cases prv vs i <;> exact Ev.now _
  | d+1,i,h=>by
    have hi:i<vs.length:=by omega
    have hw:=qb i vs.length hi hl
    have ih:=qaT vs hl d (i+1) (by omega)
    rw [qI] at ih
    rw [qm vs i hi]
    have hj:rd vs i<0∨24≤rd vs i→∀ p,chk 24 p (rd vs i :: vs.drop (i+1))=6:=fun h p=>by cases p <;> simp only [chk] <;> rw [if_pos h]
    by_cases h0:rd vs i<0
    · rw [hj (.inl h0)]
      exact Ev.step (f:=fun _=>some 6) (fun k=>by rw [table_ascending.l0,if_pos (by omega),if_pos (by omega),if_pos (by omega),if_pos h0]) (Ev.now _)
    · by_cases h1:rd vs i≥24
      · rw [hj (.inr h1)]
        exact Ev.step (f:=fun _=>some 6) (fun k=>by rw [table_ascending.l0,if_pos (by omega),if_pos (by omega),if_pos (by omega),if_neg h0,if_pos h1]) (Ev.now _)
      · by_cases e:i=0
        · have ep:prv vs i=none:=by unfold prv;rw [if_pos e]
          rw [ep]
          simp only [chk]
          rw [if_neg (by omega)]
          refine Ev.step (fun k=>by rw [table_ascending.l0,if_pos (by omega),if_pos (by omega),if_pos (by omega),if_neg h0,if_neg h1,if_neg (by omega),hw]) ih
        · have ep:prv vs i=some (rd vs ((i:Int) - 1)):=by unfold prv;rw [if_neg e]
          rw [ep]
          simp only [chk]
          rw [if_neg (by omega)]
          by_cases h2:rd vs i≤rd vs ((i:Int) - 1)
          · rw [if_pos h2]
            exact Ev.step (f:=fun _=>some 18) (fun k=>by rw [table_ascending.l0,if_pos (by omega),if_pos (by omega),if_pos (by omega),if_neg h0,if_neg h1,if_pos (by omega),qh ((i:Int) - 1) (by omega),if_pos (by omega),if_pos (by omega),if_pos (by omega)]) (Ev.now _)
          · rw [if_neg h2]
            refine Ev.step (fun k=>by rw [table_ascending.l0,if_pos (by omega),if_pos (by omega),if_pos (by omega),if_neg h0,if_neg h1,if_pos (by omega),qh ((i:Int) - 1) (by omega),if_pos (by omega),if_pos (by omega),if_neg (by omega),hw]) ih
theorem qcd (vs:List Int) (hl:(vs.length:Int)≤9223372036854775807):Ev (fun k=>table_ascending.f k vs) (asc vs):=by
  unfold asc table_ascending.f
  refine qd (fun _=>Ev.now _) (fun _=>?_)
  simpa [prv] using qaT vs hl vs.length 0 (by omega)
theorem qah (vs rs:List Int) (hv:vs.length≤10) (hl:(rs.length:Int)≤9223372036854775807):∀ (d i:Nat),i+d=rs.length→Ev (fun k=>table_Valid.l0 k rs rs.length i vs rs) (chk ((2 ^ vs.length:Nat):Int) (prv rs i) (rs.drop i))
  | 0,i,h=>by
    rw [List.drop_eq_nil_of_le (by omega)]
    refine Ev.step (f:=fun _=>some 0) (fun k=>by rw [table_Valid.l0,if_neg (by omega)]) ?_
    cases prv rs i <;> exact Ev.now _
  | d+1,i,h=>by
    have hi:i<rs.length:=by omega
    have hw:=qb i rs.length hi hl
    have ih:=qah vs rs hv hl d (i+1) (by omega)
    have hs:=qJ vs.length (by omega)
    rw [qI] at ih
    rw [qm rs i hi]
    have hj:rd rs i<0∨((2 ^ vs.length:Nat):Int)≤rd rs i→∀ p,chk ((2 ^ vs.length:Nat):Int) p (rd rs i :: rs.drop (i+1))=6:=fun h p=>by cases p <;> simp only [chk] <;> rw [if_pos h]
    by_cases h0:rd rs i<0
    · rw [hj (.inl h0)]
      exact Ev.step (f:=fun _=>some 6) (fun k=>by rw [table_Valid.l0,if_pos (by omega),if_pos (by omega),if_pos (by omega),if_pos h0]) (Ev.now _)
    · by_cases h1:rd rs i≥((2 ^ vs.length:Nat):Int)
      · rw [hj (.inr h1)]
        exact Ev.step (f:=fun _=>some 6) (fun k=>by rw [table_Valid.l0,if_pos (by omega),if_pos (by omega),if_pos (by omega),if_neg h0,hs,if_pos h1]) (Ev.now _)
      · by_cases e:i=0
        · have ep:prv rs i=none:=by unfold prv;rw [if_pos e]
          rw [ep]
          simp only [chk]
          rw [if_neg (by omega)]
          refine Ev.step (fun k=>by rw [table_Valid.l0,if_pos (by omega),if_pos (by omega),if_pos (by omega),if_neg h0,hs,if_neg h1,if_neg (by omega),hw]) ih
        · have ep:prv rs i=some (rd rs ((i:Int) - 1)):=by unfold prv;rw [if_neg e]
          rw [ep]
          simp only [chk]
          rw [if_neg (by omega)]
          by_cases h2:rd rs i≤rd rs ((i:Int) - 1)
          · rw [if_pos h2]
            exact Ev.step (f:=fun _=>some 18) (fun k=>by rw [table_Valid.l0,if_pos (by omega),if_pos (by omega),if_pos (by omega),if_neg h0,hs,if_neg h1,if_pos (by omega),qh ((i:Int) - 1) (by omega),if_pos (by omega),if_pos (by omega),if_pos (by omega)]) (Ev.now _)
          · rw [if_neg h2]
            refine Ev.step (fun k=>by rw [table_Valid.l0,if_pos (by omega),if_pos (by omega),if_pos (by omega),if_neg h0,hs,if_neg h1,if_pos (by omega),qh ((i:Int) - 1) (by omega),if_pos (by omega),if_pos (by omega),if_neg (by omega),hw]) ih
theorem qbb {vs:List Int} (h:asc vs=0):vs.length≤10:=by
  unfold asc at h
  by_cases h1:(vs.length:Int)>10
  · rw [if_pos h1] at h;omega
  · omega
theorem qab (vs rs:List Int) (hl:(vs.length:Int)≤9223372036854775807) (hr:(rs.length:Int)≤9223372036854775807):Ev (fun k=>table_Valid.f k vs rs) (qu vs rs):=by
  unfold qu
  refine Ev.bind (qcd vs hl) ?_
  refine qd (fun h=>?_) (fun _=>Ev.now _)
  simpa [prv] using qah vs rs (qbb h) hr rs.length 0 (by omega)
structure VT (vs rs:List Int):Prop where
  len:vs.length≤10
  vars:Chn 24 none vs
  rows:Chn ((2 ^ vs.length:Nat):Int) none rs
theorem qbc (vs:List Int):asc vs=0↔vs.length≤10∧Chn 24 none vs:=by
  unfold asc
  by_cases h1:(vs.length:Int)>10
  · rw [if_pos h1];exact ⟨fun h=>by omega,fun h=>by omega⟩
  · rw [if_neg h1,qar];exact ⟨fun h=>⟨by omega,h⟩,fun h=>h.2⟩
theorem qA (vs rs:List Int):qu vs rs=0↔VT vs rs:=by
  unfold qu
  by_cases h:asc vs=0
  · rw [if_pos h,qar]
    have:=(qbc vs).1 h
    exact ⟨fun h=>⟨this.1,this.2,h⟩,fun h=>h.rows⟩
  · rw [if_neg h]
    exact ⟨fun h2=>absurd h2 h,fun h2=>absurd ((qbc vs).2 ⟨h2.len,h2.vars⟩) h⟩
theorem Chn.mem {hi:Int}:∀ {ns:List Int} {p:Option Int},Chn hi p ns→∀ n,n∈ns→0≤n∧n<hi∧∀ q,p=some q→q<n
  | [],_,_,n,h=>by simp at h
  | m :: ns,p,⟨h0,h1,h2,h3⟩,n,h=>by
    rcases List.mem_cons.1 h with rfl|h
    · exact ⟨h0,h1,h2⟩
    · have:=Chn.mem h3 n h
      exact ⟨this.1,this.2.1,fun q hq=>by have:=this.2.2 m rfl;have:=h2 q hq;omega⟩
theorem Chn.same {hi hi':Int}:∀ {xs ys:List Int} {p q:Option Int},Chn hi p xs→Chn hi' q ys→(∀ n,n∈xs↔n∈ys)→xs=ys
  | [],[],_,_,_,_,_=>rfl
  | [],y :: ys,_,_,_,_,h=>by have:=(h y).2 List.mem_cons_self;simp at this
  | x :: xs,[],_,_,_,_,h=>by have:=(h x).1 List.mem_cons_self;simp at this
  | x :: xs,y :: ys,p,q,⟨a0,a1,a2,a3⟩,⟨b0,b1,b2,b3⟩,h=>by
    have e:x=y:=by
      rcases List.mem_cons.1 ((h x).1 List.mem_cons_self) with h1|h1
      · exact h1
      · rcases List.mem_cons.1 ((h y).2 List.mem_cons_self) with h2|h2
        · exact h2.symm
        · have:=(b3.mem x h1).2.2 y rfl
          have:=(a3.mem y h2).2.2 x rfl
          omega
    subst e
    refine congrArg (x :: ·) (Chn.same a3 b3 (fun n=>⟨fun hn=>?_,fun hn=>?_⟩))
    · rcases List.mem_cons.1 ((h n).1 (List.mem_cons_of_mem _ hn)) with h1|h1
      · have:=(a3.mem n hn).2.2 x rfl;omega
      · exact h1
    · rcases List.mem_cons.1 ((h n).2 (List.mem_cons_of_mem _ hn)) with h1|h1
      · have:=(b3.mem n hn).2.2 x rfl;omega
      · exact h1
theorem Chn.filter {hi:Int} (f:Int→Bool):∀ {xs:List Int} {p:Option Int},Chn hi p xs→Chn hi p (xs.filter f)
  | [],_,h=>h
  | x :: xs,p,⟨h0,h1,h2,h3⟩=>by
    have ih:=h3.filter f
    rw [List.filter_cons]
    split
    · exact ⟨h0,h1,h2,ih⟩
    · revert ih
      generalize xs.filter f=zs
      intro ih
      cases zs with
      | nil=>trivial
      | cons z zs=>exact ⟨ih.1,ih.2.1,fun q hq=>by have:=h2 q hq;have:=ih.2.2.1 x rfl;omega,ih.2.2.2⟩
theorem qas (b:Bool) (out i:Nat) (h:out<2 ^ i) (j:Nat):(out+b.toNat * 2 ^ i).testBit j=(out.testBit j||(b&&decide (j=i))):=by
  rw [show out+b.toNat * 2 ^ i=2 ^ i * b.toNat+out by rw [Nat.mul_comm,Nat.add_comm],Nat.testBit_two_pow_mul_add _ h]
  by_cases hj:j<i
  · rw [if_pos hj]
    have:decide (j=i)=false:=decide_eq_false (by omega)
    rw [this,Bool.and_false,Bool.or_false]
  · rw [if_neg hj]
    have h1:out.testBit j=false:=Nat.testBit_lt_two_pow (Nat.lt_of_lt_of_le h (Nat.pow_le_pow_right (by decide) (by omega)))
    rw [h1,Bool.false_or]
    by_cases e:j=i
    · subst e;rw [Nat.sub_self];cases b <;> simp
    · have:decide (j=i)=false:=decide_eq_false e
      rw [this,Bool.and_false]
      refine Nat.testBit_lt_two_pow ?_
      have h2:b.toNat<2:=by cases b <;> simp
      have h3:2 ^ 1≤2 ^ (j - i):=Nat.pow_le_pow_right (by decide) (by omega)
      omega
theorem qB (b:Bool) (out i:Nat) (h:out<2 ^ i):out+b.toNat * 2 ^ i<2 ^ (i+1):=by
  rw [Nat.pow_succ]
  cases b
  · simp;omega
  · simp;omega
theorem qce (x n i:Nat) (out:Nat) (hx:x<2 ^ 60) (hn:n≤60) (hi:i≤60) (ho:out<2 ^ i) :
    Go.bits .or .i64 (out:Int) (shl .i64 (Go.bits .and .i64 (shr .i64 (x:Int) (n:Int)) 1) (i:Int))=((out+(x.testBit n).toNat * 2 ^ i:Nat):Int):=by
  have hw:∀ z:Int,0≤z→z<2 ^ 62→IntKind.i64.wrap z=z:=fun z h0 h1=>by
    rw [IntKind.wrap_i64]
    have:(2:Int) ^ 62=4611686018427387904:=by decide
    omega
  have hb:IntKind.i64.bits=64:=rfl
  have h1:shr .i64 (x:Int) (n:Int)=((x / 2 ^ n:Nat):Int):=by
    unfold shr
    rw [hb,show min ((n:Int)).toNat 64=n by omega]
    simp
  have hxd:x / 2 ^ n<2 ^ 62:=Nat.lt_of_le_of_lt (Nat.div_le_self _ _) (Nat.lt_of_lt_of_le hx (by decide))
  have h2:Go.bits .and .i64 ((x / 2 ^ n:Nat):Int) 1=(((x.testBit n).toNat:Nat):Int):=by
    have:=(bits_nat .i64 62 (by decide) hw (x / 2 ^ n) 1 hxd (by decide)).1
    rw [Nat.and_one_is_mod,← Nat.toNat_testBit] at this
    exact this
  have hip:(2:Nat) ^ i≤2 ^ 60:=Nat.pow_le_pow_right (by decide) hi
  have h60:(2:Nat) ^ 60=1152921504606846976:=by decide
  have hbl:(x.testBit n).toNat * 2 ^ i≤2 ^ i:=by cases x.testBit n <;> simp
  have h3:shl .i64 (((x.testBit n).toNat:Nat):Int) (i:Int)=(((x.testBit n).toNat * 2 ^ i:Nat):Int):=by
    unfold shl
    rw [hb,show min ((i:Int)).toNat 64=i by omega]
    have e:(((x.testBit n).toNat:Nat):Int) * 2 ^ i=(((x.testBit n).toNat * 2 ^ i:Nat):Int):=by simp
    rw [e]
    exact hw _ (by omega) (by have:(2:Int) ^ 62=4611686018427387904:=by decide
                              omega)
  rw [h1,h2,h3]
  have h62:(2:Nat) ^ 62=4611686018427387904:=by decide
  rw [(bits_nat .i64 62 (by decide) hw out _ (by omega) (by omega)).2]
  congr 1
  rw [Nat.or_comm,Nat.mul_comm,← Nat.two_pow_add_eq_or_of_lt ho,Nat.add_comm]
def qC (a:Nat):List Int→Nat→Nat→Nat
  | [],_,out=>out
  | v :: vs,i,out=>qC a vs (i+1) (out+(a.testBit v.toNat).toNat * 2 ^ i)
def qK (r:Nat):List Int→Nat→Nat→Nat
  | [],_,out=>out
  | v :: vs,i,out=>qK r vs (i+1) (out+(r.testBit i).toNat * 2 ^ v.toNat)
theorem qbd (a:Nat):∀ (vs:List Int) (i out:Nat),out<2 ^ i→qC a vs i out<2 ^ (i+vs.length)
  | [],_,_,h=>h
  | v :: vs,i,out,h=>by
    have:=qbd a vs (i+1) _ (qB (a.testBit v.toNat) out i h)
    rw [qC,List.length_cons,show i+(vs.length+1)=i+1+vs.length by omega]
    exact this
theorem qaU (a:Nat):∀ (vs:List Int) (i out:Nat),out<2 ^ i→∀ j,((qC a vs i out).testBit j=true↔out.testBit j=true∨∃ m v,vs[m]?=some v∧j=i+m∧a.testBit v.toNat=true)
  | [],_,_,_,j=>by simp [qC]
  | v :: vs,i,out,h,j=>by
    rw [qC,qaU a vs (i+1) _ (qB (a.testBit v.toNat) out i h) j,qas _ _ _ h]
    constructor
    · rintro (h1|⟨m,u,h1,h2,h3⟩)
      · rcases Bool.or_eq_true_iff.1 h1 with h1|h1
        · exact .inl h1
        · rw [Bool.and_eq_true,decide_eq_true_eq] at h1
          exact .inr ⟨0,v,rfl,by omega,h1.1⟩
      · exact .inr ⟨m+1,u,by simpa using h1,by omega,h3⟩
    · rintro (h1|⟨m,u,h1,h2,h3⟩)
      · exact .inl (by rw [h1];rfl)
      · cases m with
        | zero=>
          obtain rfl:v=u:=by simpa using h1
          exact .inl (by rw [h3,decide_eq_true (show j=i by omega)];simp)
        | succ m=>exact .inr ⟨m,u,by simpa using h1,by omega,h3⟩
def q2 (out:Nat):List Int→Prop
  | []=>True
  | v :: _=>out<2 ^ v.toNat
theorem qL {hi:Int} {v:Int} {vs:List Int} (h:Chn hi (some v) vs) (h0:0≤v) {out:Nat} (ho:out<2 ^ (v.toNat+1)):q2 out vs:=by
  cases vs with
  | nil=>trivial
  | cons u us=>
    have:=h.2.2.1 v rfl
    exact Nat.lt_of_lt_of_le ho (Nat.pow_le_pow_right (by decide) (by omega))
theorem qaV (r:Nat) {hi:Int}:∀ (vs:List Int) (p:Option Int) (i out:Nat),Chn hi p vs→q2 out vs→∀ j,((qK r vs i out).testBit j=true↔out.testBit j=true∨∃ m v,vs[m]?=some v∧j=v.toNat∧r.testBit (i+m)=true)
  | [],_,_,_,_,_,j=>by simp [qK]
  | v :: vs,p,i,out,⟨h0,h1,h2,h3⟩,hu,j=>by
    have hl:=qB (r.testBit i) out v.toNat hu
    rw [qK,qaV r vs (some v) (i+1) _ h3 (qL h3 h0 hl) j,qas _ _ _ hu]
    constructor
    · rintro (h1|⟨m,u,h1,h2,h3⟩)
      · rcases Bool.or_eq_true_iff.1 h1 with h1|h1
        · exact .inl h1
        · rw [Bool.and_eq_true,decide_eq_true_eq] at h1
          exact .inr ⟨0,v,rfl,h1.2,h1.1⟩
      · exact .inr ⟨m+1,u,by simpa using h1,h2,by rw [show i+(m+1)=i+1+m by omega];exact h3⟩
    · rintro (h1|⟨m,u,h1,h2,h3⟩)
      · exact .inl (by rw [h1];rfl)
      · cases m with
        | zero=>
          obtain rfl:v=u:=by simpa using h1
          rw [Nat.add_zero] at h3
          exact .inl (by rw [h3,decide_eq_true h2];simp)
        | succ m=>exact .inr ⟨m,u,by simpa using h1,h2,by rw [show i+1+m=i+(m+1) by omega];exact h3⟩
theorem qbe (r:Nat) {hi:Int} (hhi:0≤hi):∀ (vs:List Int) (p:Option Int) (i out:Nat),Chn hi p vs→q2 out vs→out<2 ^ hi.toNat→qK r vs i out<2 ^ hi.toNat
  | [],_,_,_,_,_,ho=>ho
  | v :: vs,p,i,out,⟨h0,h1,h2,h3⟩,hu,_=>by
    have hl:=qB (r.testBit i) out v.toNat hu
    rw [qK]
    refine qbe r hhi vs (some v) (i+1) _ h3 (qL h3 h0 hl) (Nat.lt_of_lt_of_le hl (Nat.pow_le_pow_right (by decide) (by omega)))
def row (vs:List Int) (a:Nat):Nat:=qC a vs 0 0
def asg (vs:List Int) (r:Nat):Nat:=qK r vs 0 0
theorem qQ (vs:List Int) (a:Nat):row vs a<2 ^ vs.length:=by
  have:=qbd a vs 0 0 (by decide)
  rw [Nat.zero_add] at this
  exact this
theorem ql (vs:List Int) (a j:Nat):(row vs a).testBit j=true↔∃ v,vs[j]?=some v∧a.testBit v.toNat=true:=by
  unfold row
  rw [qaU a vs 0 0 (by decide)]
  constructor
  · rintro (h|⟨m,v,h1,h2,h3⟩)
    · simp at h
    · obtain rfl:j=m:=by omega
      exact ⟨v,h1,h3⟩
  · rintro ⟨v,h1,h2⟩
    exact .inr ⟨j,v,h1,by omega,h2⟩
theorem qM (vs:List Int):q2 0 vs:=by cases vs <;> simp [q2,Nat.two_pow_pos]
theorem qj {hi:Int} {vs:List Int} (h:Chn hi none vs) (r j:Nat):(asg vs r).testBit j=true↔∃ m v,vs[m]?=some v∧j=v.toNat∧r.testBit m=true:=by
  unfold asg
  rw [qaV r vs none 0 0 h (qM vs)]
  simp
theorem qcf {vs:List Int} (h:Chn 24 none vs) (r:Nat):asg vs r<2 ^ 24:=qbe r (by decide) vs none 0 0 h (qM vs) (Nat.two_pow_pos _)
theorem Chn.inj {hi:Int}:∀ {vs:List Int} {p:Option Int},Chn hi p vs→∀ (i j:Nat) (u v:Int),vs[i]?=some u→vs[j]?=some v→u.toNat=v.toNat→i=j
  | [],_,_,i,j,u,v,h,_,_=>by simp at h
  | x :: xs,p,⟨h0,h1,h2,h3⟩,i,j,u,v,hi,hj,e=>by
    cases i with
    | zero=>
      obtain rfl:x=u:=by simpa using hi
      cases j with
      | zero=>rfl
      | succ j=>
        have hj':xs[j]?=some v:=by simpa using hj
        have:=h3.mem v (List.mem_of_getElem? hj')
        have:=this.2.2 x rfl
        omega
    | succ i=>
      have hi':xs[i]?=some u:=by simpa using hi
      cases j with
      | zero=>
        obtain rfl:x=v:=by simpa using hj
        have:=h3.mem u (List.mem_of_getElem? hi')
        have:=this.2.2 x rfl
        omega
      | succ j=>rw [Chn.inj h3 i j u v hi' (by simpa using hj) e]
theorem qbf {hi:Int} {vs:List Int} (h:Chn hi none vs) {r:Nat} (hr:r<2 ^ vs.length):row vs (asg vs r)=r:=by
  apply Nat.eq_of_testBit_eq
  intro j
  rw [Bool.eq_iff_iff,ql]
  constructor
  · rintro ⟨v,hv,hb⟩
    obtain ⟨m,u,hm,e,hr⟩:=(qj h r _).1 hb
    rw [h.inj j m v u hv hm e];exact hr
  · intro hb
    have hj:j<vs.length:=by
      rcases Nat.lt_or_ge j vs.length with h1|h1
      · exact h1
      · rw [Nat.testBit_lt_two_pow (Nat.lt_of_lt_of_le hr (Nat.pow_le_pow_right (by decide) h1))] at hb;exact absurd hb (by simp)
    exact ⟨vs[j],List.getElem?_eq_getElem hj,(qj h r _).2 ⟨j,vs[j],List.getElem?_eq_getElem hj,rfl,hb⟩⟩

theorem qo {v:Int} (h:0≤v):v=((v.toNat:Nat):Int):=by omega
theorem Chn.below {hi:Int}:∀ {xs:List Int} {p:Option Int},Chn hi p xs→∀ (i j:Nat) (x y:Int),i<j→xs[i]?=some x→xs[j]?=some y→x<y
  | [],_,_,i,j,x,y,_,h,_=>by simp at h
  | z :: zs,p,⟨_,_,_,h3⟩,i,j,x,y,hij,hx,hy=>by
    cases j with
    | zero=>omega
    | succ j=>
      have hy':zs[j]?=some y:=by simpa using hy
      cases i with
      | zero=>
        obtain rfl:z=x:=by simpa using hx
        exact (h3.mem y (List.mem_of_getElem? hy')).2.2 z rfl
      | succ i=>exact Chn.below h3 i j x y (by omega) (by simpa using hx) hy'
theorem qcg (xs:List Int) (i:Nat) (h:i<xs.length):xs[i]?=some (rd xs i):=by
  simp [rd,List.getD,List.getElem?_eq_getElem h]
def hs (vs rs:List Int) (a:Nat):Bool:=decide (((row vs a:Nat):Int)∈rs)
theorem VT.vars' {vs rs:List Int} (h:VT vs rs):∀ v,v∈vs→0≤v∧v<24:=fun v hv=>by have:=h.vars.mem v hv;omega
theorem Chn.len1 {hi:Int}:∀ {xs:List Int} {q:Int},Chn hi (some q) xs→0≤q→q<hi→(xs.length:Int)≤hi - 1 - q
  | [],_,_,_,_=>by simp;omega
  | x :: xs,q,⟨h0,h1,h2,h3⟩,_,_=>by
    have:=Chn.len1 h3 h0 h1
    have:=h2 q rfl
    simp only [List.length_cons]
    omega
theorem Chn.len {hi:Int} {xs:List Int} (h:Chn hi none xs) (h0:0≤hi):(xs.length:Int)≤hi:=by
  cases xs with
  | nil=>simpa using h0
  | cons x xs=>
    have:=Chn.len1 h.2.2.2 h.1 h.2.1
    have:=h.1
    simp only [List.length_cons]
    omega
theorem qaR {n:Nat} (h:n≤10):2 ^ n≤1024:=by
  have:(2:Nat) ^ n≤2 ^ 10:=Nat.pow_le_pow_right (by decide) h
  omega
theorem VT.rows_len {vs rs:List Int} (h:VT vs rs):(rs.length:Int)≤1024:=by
  have h1:=h.rows.len (Int.natCast_nonneg _)
  have h2:=qaR h.len
  generalize (2:Nat) ^ vs.length=z at h1 h2
  omega
def flt (t:Nat→Bool):Nat→Nat→List Int
  | 0,_=>[]
  | d+1,r=>if t r=true then (r:Int) :: flt t d (r+1) else flt t d (r+1)
theorem q3 (t:Nat→Bool):∀ (d r:Nat) (x:Int),x∈flt t d r↔∃ m:Nat,r≤m∧m<r+d∧t m=true∧x=m
  | 0,r,x=>by simp [flt];omega
  | d+1,r,x=>by
    have ih:=q3 t d (r+1) x
    rw [flt]
    by_cases h:t r=true
    · rw [if_pos h,List.mem_cons,ih]
      constructor
      · rintro (rfl|⟨m,h1,h2,h3⟩)
        · exact ⟨r,by omega,by omega,h,rfl⟩
        · exact ⟨m,by omega,by omega,h3⟩
      · rintro ⟨m,h1,h2,h3,h4⟩
        by_cases e:m=r
        · exact .inl (by rw [h4,e])
        · exact .inr ⟨m,by omega,by omega,h3,h4⟩
    · rw [if_neg h,ih]
      constructor
      · rintro ⟨m,h1,h2,h3⟩;exact ⟨m,by omega,by omega,h3⟩
      · rintro ⟨m,h1,h2,h3,h4⟩
        by_cases e:m=r
        · subst e;exact absurd h3 h
        · exact ⟨m,by omega,by omega,h3,h4⟩
theorem qG (t:Nat→Bool):∀ (d r:Nat) (p:Option Int),(∀ q,p=some q→q<r)→Chn ((r+d:Nat):Int) p (flt t d r)
  | 0,_,_,_=>trivial
  | d+1,r,p,hp=>by
    have e:((r+(d+1):Nat):Int)=((r+1+d:Nat):Int):=by omega
    rw [flt,e]
    by_cases h:t r=true
    · rw [if_pos h]
      exact ⟨by omega,by omega,hp,qG t d (r+1) _ (fun q hq=>by injection hq;omega)⟩
    · rw [if_neg h]
      exact qG t d (r+1) p (fun q hq=>by have:=hp q hq;omega)
theorem qbg (t:Nat→Bool):∀ (d r:Nat),(flt t d r).length≤d
  | 0,_=>by simp [flt]
  | d+1,r=>by have:=qbg t d (r+1);rw [flt];split <;> simp <;> omega
theorem qaW {hi:Int} {x:Int} (h0:0≤x) (h1:x<hi):∀ {l:List Int} {p:Option Int},Chn hi p l→(∀ y,y∈l→y<x)→(∀ q,p=some q→q<x)→Chn hi p (l++[x])
  | [],_,_,_,hp=>⟨h0,h1,hp,trivial⟩
  | y :: l,p,⟨a0,a1,a2,a3⟩,hl,hp=>⟨a0,a1,a2,qaW h0 h1 a3 (fun z hz=>hl z (List.mem_cons_of_mem _ hz)) (fun q hq=>by injection hq with hq;rw [← hq];exact hl y List.mem_cons_self)⟩
theorem qR {hi:Int} (d:Array Int) (hd:∀ i j,i≤j→j<d.size→d[i]!≤d[j]!) (hr:∀ i,i<d.size→0≤d[i]!∧d[i]!<hi):∀ m,m≤d.size→Chn hi none (Lib.compactUpTo d m)∧∀ n,n∈Lib.compactUpTo d m↔∃ j,j<m∧d[j]! = n
  | 0,_=>⟨by simp [Lib.compactUpTo,Chn],fun n=>by simp [Lib.compactUpTo]⟩
  | m+1,hm=>by
    obtain ⟨h1,h2⟩:=qR d hd hr m (by omega)
    have hrm:=hr m (by omega)
    rw [Lib.compactUpTo_succ]
    by_cases hk:Lib.keeps d m=true
    · rw [if_pos hk]
      have hk2:m=0∨d[m]!≠d[m - 1]!:=by simpa [Lib.keeps] using hk
      refine ⟨qaW hrm.1 hrm.2 h1 (fun y hy=>?_) (fun q hq=>by cases hq),fun n=>?_⟩
      · obtain ⟨j,hj,rfl⟩:=(h2 y).1 hy
        have a1:=hd j (m - 1) (by omega) (by omega)
        have a2:=hd (m - 1) m (by omega) (by omega)
        rcases hk2 with h|h
        · omega
        · omega
      · rw [List.mem_append,h2]
        constructor
        · rintro (⟨j,hj,e⟩|h)
          · exact ⟨j,by omega,e⟩
          · exact ⟨m,by omega,by simpa using Eq.symm (List.mem_singleton.1 h)⟩
        · rintro ⟨j,hj,e⟩
          by_cases ej:j=m
          · subst ej;exact .inr (by simp [e])
          · exact .inl ⟨j,by omega,e⟩
    · rw [if_neg hk,List.append_nil]
      have hk2:¬ (m=0∨d[m]!≠d[m - 1]!):=by simpa [Lib.keeps] using hk
      refine ⟨h1,fun n=>?_⟩
      rw [h2]
      constructor
      · rintro ⟨j,hj,e⟩;exact ⟨j,by omega,e⟩
      · rintro ⟨j,hj,e⟩
        by_cases ej:j=m
        · subst ej
          exact ⟨j - 1,by omega,by rw [← e];exact (Classical.byContradiction fun hne=>hk2 (.inr (fun h=>hne h.symm)))⟩
        · exact ⟨j,by omega,e⟩
theorem qat {hi:Int} (l:List Int) (hr:∀ x,x∈l→0≤x∧x<hi):Chn hi none (Lib.compact (l.mergeSort fun x y=>decide (x≤y)))∧∀ n,n∈Lib.compact (l.mergeSort fun x y=>decide (x≤y))↔n∈l:=by
  have hp:=List.pairwise_mergeSort (le:=fun x y:Int=>decide (x≤y)) (fun a b c h1 h2=>by simp at *;omega) (fun a b=>by simp;omega) l
  have hperm:=List.mergeSort_perm l (fun x y:Int=>decide (x≤y))
  generalize hs:l.mergeSort (fun x y=>decide (x≤y))=s at hp hperm
  have hget:∀ i,i<s.length→s.toArray[i]! = s[i]!:=fun i hi=>by simp
  have key:=qR (hi:=hi) s.toArray (fun i j hij hj=>by
    have hj':j<s.length:=by simpa using hj
    rw [hget i (by omega),hget j hj',List.getElem!_eq_getElem?_getD,List.getElem!_eq_getElem?_getD,List.getElem?_eq_getElem hj',List.getElem?_eq_getElem (show i<s.length by omega)]
    by_cases e:i=j
    · subst e;exact Int.le_refl _
    · have:=List.pairwise_iff_getElem.1 hp i j (by omega) hj' (by omega)
      simpa using this) (fun i hi2=>by
    have hi':i<s.length:=by simpa using hi2
    rw [hget i hi',List.getElem!_eq_getElem?_getD,List.getElem?_eq_getElem hi']
    exact hr _ (hperm.mem_iff.1 (List.getElem_mem hi'))) s.length (by simp)
  refine ⟨key.1,fun n=>?_⟩
  have h2:=key.2 n
  unfold Lib.compact
  rw [h2,← hperm.mem_iff]
  constructor
  · rintro ⟨j,hj,e⟩
    rw [hget j hj,List.getElem!_eq_getElem?_getD,List.getElem?_eq_getElem hj] at e
    exact e ▸ List.getElem_mem hj
  · intro hn
    obtain ⟨j,hj,e⟩:=List.getElem_of_mem hn
    exact ⟨j,hj,by rw [hget j hj,List.getElem!_eq_getElem?_getD,List.getElem?_eq_getElem hj];exact e⟩
theorem qbD (vs:List Int) {x y:Nat} (h:∀ w,w∈vs→x.testBit w.toNat=y.testBit w.toNat):row vs x=row vs y:=by
  apply Nat.eq_of_testBit_eq
  intro j
  rw [Bool.eq_iff_iff,ql,ql]
  constructor
  · rintro ⟨v,hv,hb⟩;exact ⟨v,hv,by rw [← h v (List.mem_of_getElem? hv)];exact hb⟩
  · rintro ⟨v,hv,hb⟩;exact ⟨v,hv,by rw [h v (List.mem_of_getElem? hv)];exact hb⟩
theorem qch {hi:Int} {vs:List Int} (h:Chn hi none vs) (x:Nat) {w:Int} (hw:w∈vs):(asg vs (row vs x)).testBit w.toNat=x.testBit w.toNat:=by
  rw [Bool.eq_iff_iff,qj h]
  obtain ⟨i,hi2⟩:=List.getElem?_of_mem hw
  constructor
  · rintro ⟨m,v,hv,e,hb⟩
    obtain ⟨u,hu,hb⟩:=(ql vs x m).1 hb
    rw [hv] at hu
    injection hu with hu
    rw [e,hu];exact hb
  · intro hb
    exact ⟨i,w,hi2,rfl,(ql vs x i).2 ⟨w,hi2,hb⟩⟩
theorem qbP (vs rs:List Int) {x y:Nat} (h:∀ w,w∈vs→x.testBit w.toNat=y.testBit w.toNat):hs vs rs x=hs vs rs y:=by
  unfold hs;rw [qbD vs h]
theorem VT.row_of {vs rs:List Int} (h:VT vs rs) {r:Int} (hr:r∈rs):0≤r∧r.toNat<2 ^ vs.length∧row vs (asg vs r.toNat)=r.toNat:=by
  have h1:=h.rows.mem r hr
  have h2:r.toNat<2 ^ vs.length:=by
    have:=h1.2.1
    generalize 2 ^ vs.length=z at *
    omega
  exact ⟨h1.1,h2,qbf h.vars h2⟩
theorem qaA (vs:List Int) (hl:(vs.length:Int)≤9223372036854775807):∀ (d i:Nat),i+d=vs.length→Ev (fun k=>ancepsref38_Variables.l0 k vs i) (chk 24 (prv vs i) (vs.drop i))
  | 0,i,h=>by
    rw [List.drop_eq_nil_of_le (by omega)]
    refine Ev.step (f:=fun _=>some 0) (fun k=>by rw [ancepsref38_Variables.l0,if_neg (by omega)]) ?_
    cases prv vs i <;> exact Ev.now _
  | d+1,i,h=>by
    have hi:i<vs.length:=by omega
    have hw:=qb i vs.length hi hl
    have ih:=qaA vs hl d (i+1) (by omega)
    rw [qI] at ih
    rw [qm vs i hi]
    have hj:rd vs i<0∨24≤rd vs i→∀ p,chk 24 p (rd vs i :: vs.drop (i+1))=6:=fun h p=>by cases p <;> simp only [chk] <;> rw [if_pos h]
    by_cases h0:rd vs i<0
    · rw [hj (.inl h0)]
      exact Ev.step (f:=fun _=>some 6) (fun k=>by rw [ancepsref38_Variables.l0,if_pos (by omega),if_pos (by omega),if_pos h0]) (Ev.now _)
    · by_cases h1:rd vs i>23
      · rw [hj (.inr (by omega))]
        exact Ev.step (f:=fun _=>some 6) (fun k=>by rw [ancepsref38_Variables.l0,if_pos (by omega),if_pos (by omega),if_neg h0,if_pos h1]) (Ev.now _)
      · by_cases e:i=0
        · have ep:prv vs i=none:=by unfold prv;rw [if_pos e]
          rw [ep]
          simp only [chk]
          rw [if_neg (by omega)]
          refine Ev.step (fun k=>by rw [ancepsref38_Variables.l0,if_pos (by omega),if_pos (by omega),if_neg h0,if_neg h1,if_neg (by omega),hw]) ih
        · have ep:prv vs i=some (rd vs ((i:Int) - 1)):=by unfold prv;rw [if_neg e]
          rw [ep]
          simp only [chk]
          rw [if_neg (by omega)]
          by_cases h2:rd vs i≤rd vs ((i:Int) - 1)
          · rw [if_pos h2]
            exact Ev.step (f:=fun _=>some 18) (fun k=>by rw [ancepsref38_Variables.l0,if_pos (by omega),if_pos (by omega),if_neg h0,if_neg h1,if_pos (by omega),qh ((i:Int) - 1) (by omega),if_pos (by omega),if_pos (by omega),if_pos h2]) (Ev.now _)
          · rw [if_neg h2]
            refine Ev.step (fun k=>by rw [ancepsref38_Variables.l0,if_pos (by omega),if_pos (by omega),if_neg h0,if_neg h1,if_pos (by omega),qh ((i:Int) - 1) (by omega),if_pos (by omega),if_pos (by omega),if_neg h2,hw]) ih
theorem qb1 (vs:List Int) (hl:(vs.length:Int)≤9223372036854775807):Ev (fun k=>ancepsref38_Variables.f k vs) (asc vs):=by
  unfold asc ancepsref38_Variables.f
  refine qd (fun _=>Ev.now _) (fun _=>?_)
  simpa [prv] using qaA vs hl vs.length 0 (by omega)
theorem q7 (vs rs:List Int) (hv:vs.length≤10) (hl:(rs.length:Int)≤9223372036854775807):∀ (d i:Nat),i+d=rs.length→Ev (fun k=>ancepsref38_Valid.l0 k i vs rs) (chk ((2 ^ vs.length:Nat):Int) (prv rs i) (rs.drop i))
  | 0,i,h=>by
    rw [List.drop_eq_nil_of_le (by omega)]
    refine Ev.step (f:=fun _=>some 0) (fun k=>by rw [ancepsref38_Valid.l0,if_neg (by omega)]) ?_
    cases prv rs i <;> exact Ev.now _
  | d+1,i,h=>by
    have hi:i<rs.length:=by omega
    have hw:=qb i rs.length hi hl
    have ih:=q7 vs rs hv hl d (i+1) (by omega)
    have hs:=qJ vs.length (by omega)
    rw [qI] at ih
    rw [qm rs i hi]
    have hj:rd rs i<0∨((2 ^ vs.length:Nat):Int)≤rd rs i→∀ p,chk ((2 ^ vs.length:Nat):Int) p (rd rs i :: rs.drop (i+1))=6:=fun h p=>by cases p <;> simp only [chk] <;> rw [if_pos h]
    by_cases h0:rd rs i<0
    · rw [hj (.inl h0)]
      exact Ev.step (f:=fun _=>some 6) (fun k=>by rw [ancepsref38_Valid.l0,if_pos (by omega),if_pos (by omega),if_pos h0]) (Ev.now _)
    · by_cases h1:rd rs i≥((2 ^ vs.length:Nat):Int)
      · rw [hj (.inr h1)]
        exact Ev.step (f:=fun _=>some 6) (fun k=>by rw [ancepsref38_Valid.l0,if_pos (by omega),if_pos (by omega),if_neg h0,hs,if_pos h1]) (Ev.now _)
      · by_cases e:i=0
        · have ep:prv rs i=none:=by unfold prv;rw [if_pos e]
          rw [ep]
          simp only [chk]
          rw [if_neg (by omega)]
          refine Ev.step (fun k=>by rw [ancepsref38_Valid.l0,if_pos (by omega),if_pos (by omega),if_neg h0,hs,if_neg h1,if_neg (by omega),hw]) ih
        · have ep:prv rs i=some (rd rs ((i:Int) - 1)):=by unfold prv;rw [if_neg e]
          rw [ep]
          simp only [chk]
          rw [if_neg (by omega)]
          by_cases h2:rd rs i≤rd rs ((i:Int) - 1)
          · rw [if_pos h2]
            exact Ev.step (f:=fun _=>some 18) (fun k=>by rw [ancepsref38_Valid.l0,if_pos (by omega),if_pos (by omega),if_neg h0,hs,if_neg h1,if_pos (by omega),qh ((i:Int) - 1) (by omega),if_pos (by omega),if_pos (by omega),if_pos h2]) (Ev.now _)
          · rw [if_neg h2]
            refine Ev.step (fun k=>by rw [ancepsref38_Valid.l0,if_pos (by omega),if_pos (by omega),if_neg h0,hs,if_neg h1,if_pos (by omega),qh ((i:Int) - 1) (by omega),if_pos (by omega),if_pos (by omega),if_neg h2,hw]) ih
theorem qaB (vs rs:List Int) (hl:(vs.length:Int)≤9223372036854775807) (hr:(rs.length:Int)≤9223372036854775807):Ev (fun k=>ancepsref38_Valid.f k vs rs) (qu vs rs):=by
  unfold qu
  refine Ev.bind (qb1 vs hl) ?_
  refine qd (fun h=>?_) (fun _=>Ev.now _)
  simpa [prv] using q7 vs rs (qbb h) hr rs.length 0 (by omega)
theorem qaX (x n i out:Nat) (hn:n≤60) (hi:i≤30) (ho:out<2 ^ i):wrap64 ((out:Int)+shl .i64 (Int.tmod (shr .i64 (x:Int) (n:Int)) 2) (i:Int))=((out+(x.testBit n).toNat * 2 ^ i:Nat):Int):=by
  have hb:IntKind.i64.bits=64:=rfl
  have h1:shr .i64 (x:Int) (n:Int)=((x / 2 ^ n:Nat):Int):=by
    unfold shr
    rw [hb,show min ((n:Int)).toNat 64=n by omega]
    simp
  have h2:Int.tmod ((x / 2 ^ n:Nat):Int) 2=(((x.testBit n).toNat:Nat):Int):=by
    rw [Nat.toNat_testBit,Int.tmod_eq_emod_of_nonneg (Int.natCast_nonneg _)]
    simp
  have hip:(2:Nat) ^ i≤2 ^ 30:=Nat.pow_le_pow_right (by decide) hi
  have h30:(2:Nat) ^ 30=1073741824:=by decide
  have hbl:(x.testBit n).toNat * 2 ^ i≤2 ^ i:=by cases x.testBit n <;> simp
  have h3:shl .i64 (((x.testBit n).toNat:Nat):Int) (i:Int)=(((x.testBit n).toNat * 2 ^ i:Nat):Int):=by
    unfold shl
    rw [hb,show min ((i:Int)).toNat 64=i by omega]
    have e:(((x.testBit n).toNat:Nat):Int) * 2 ^ i=(((x.testBit n).toNat * 2 ^ i:Nat):Int):=by simp
    rw [e,IntKind.wrap_i64]
    omega
  rw [h1,h2,h3,qh _ (by omega)]
  omega
theorem qaC (vs:List Int) (hv:∀ v,v∈vs→0≤v∧v<24) (hl:vs.length≤24) (a:Nat):∀ (d i out:Nat),i+d=vs.length→out<2 ^ i→
    Ev (fun k=>ancepsref38_Row.l0 k vs (a:Int) (out:Int) i) ((qC a (vs.drop i) i out:Nat):Int)
  | 0,i,out,h,ho=>by
    rw [List.drop_eq_nil_of_le (by omega)]
    exact Ev.step (f:=fun _=>some (out:Int)) (fun k=>by rw [ancepsref38_Row.l0,if_neg (by omega)]) (Ev.now _)
  | d+1,i,out,h,ho=>by
    have hi:i<vs.length:=by omega
    have hw:=qb i vs.length hi (by omega)
    have hm:=hv _ (qF vs i hi)
    have ih:=qaC vs hv hl a d (i+1) _ (by omega) (qB (a.testBit (rd vs i).toNat) out i ho)
    rw [qm vs i hi,qC]
    refine Ev.step (fun k=>?_) ih
    rw [ancepsref38_Row.l0,if_pos (by omega),if_pos (by omega),if_pos (by omega),hw]
    have hb:=qaX a (rd vs i).toNat i out (by omega) (by omega) ho
    rw [← qo hm.1] at hb
    rw [hb]
theorem qb2 (vs:List Int) (hv:∀ v,v∈vs→0≤v∧v<24) (hl:vs.length≤24) (a:Nat):Ev (fun k=>ancepsref38_Row.f k vs (a:Int)) ((row vs a:Nat):Int):=by
  have:=qaC vs hv hl a vs.length 0 0 (by omega) (by decide)
  exact this
theorem qaD {vs:List Int} (r:Nat) (hl:vs.length≤24):∀ (d i out:Nat) (p:Option Int),i+d=vs.length→Chn 24 p (vs.drop i)→q2 out (vs.drop i)→
    Ev (fun k=>ancepsref38_Assignment.l0 k vs (r:Int) (out:Int) i) ((qK r (vs.drop i) i out:Nat):Int)
  | 0,i,out,p,h,hc,ho=>by
    rw [List.drop_eq_nil_of_le (by omega)]
    exact Ev.step (f:=fun _=>some (out:Int)) (fun k=>by rw [ancepsref38_Assignment.l0,if_neg (by omega)]) (Ev.now _)
  | d+1,i,out,p,h,hc,ho=>by
    have hi:i<vs.length:=by omega
    have hw:=qb i vs.length hi (by omega)
    rw [qm vs i hi] at hc ho ⊢
    have hx:=qB (r.testBit i) out (rd vs i).toNat ho
    have ih:=qaD r hl d (i+1) _ (some (rd vs i)) (by omega) hc.2.2.2 (qL hc.2.2.2 hc.1 hx)
    rw [qK]
    refine Ev.step (fun k=>?_) ih
    have h0:=hc.1
    have h1:=hc.2.1
    rw [ancepsref38_Assignment.l0,if_pos (by omega),if_pos (by omega),if_pos (by omega),hw]
    have hb:=qaX r i (rd vs i).toNat out (by omega) (by omega) ho
    rw [← qo h0] at hb
    rw [hb]
theorem qb3 {vs:List Int} (hc:Chn 24 none vs) (hl:vs.length≤24) (r:Nat):Ev (fun k=>ancepsref38_Assignment.f k vs (r:Int)) ((asg vs r:Nat):Int):=by
  have:=qaD r hl vs.length 0 0 none (by omega) hc (qM _)
  exact this
theorem qbh (rs:List Int) (hl:(rs.length:Int)≤9223372036854775807) (x:Int):∀ (d i:Nat),i+d=rs.length→Ev (fun k=>ancepsref38_in.l0 k rs x i) (decide (x∈rs.drop i))
  | 0,i,h=>by
    rw [List.drop_eq_nil_of_le (by omega)]
    exact Ev.step (f:=fun _=>some false) (fun k=>by rw [ancepsref38_in.l0,if_neg (by omega)]) (by simpa using Ev.now _)
  | d+1,i,h=>by
    have hi:i<rs.length:=by omega
    have hw:=qb i rs.length hi hl
    have ih:=qbh rs hl x d (i+1) (by omega)
    rw [qm rs i hi]
    by_cases e:rd rs i=x
    · have:decide (x∈rd rs i :: rs.drop (i+1))=true:=by simp [e]
      rw [this]
      exact Ev.step (f:=fun _=>some true) (fun k=>by rw [ancepsref38_in.l0,if_pos (by omega),if_pos (by omega),if_pos e]) (Ev.now _)
    · have:decide (x∈rd rs i :: rs.drop (i+1))=decide (x∈rs.drop (i+1)):=by
        rw [decide_eq_decide,List.mem_cons]
        exact ⟨fun h=>by rcases h with h|h;exact absurd h.symm e;exact h,.inr⟩
      rw [this]
      exact Ev.step (fun k=>by rw [ancepsref38_in.l0,if_pos (by omega),if_pos (by omega),if_neg e,hw]) ih
theorem qct (rs:List Int) (hl:(rs.length:Int)≤9223372036854775807) (x:Int):Ev (fun k=>ancepsref38_in.f k rs x) (decide (x∈rs)):=by
  have:=qbh rs hl x rs.length 0 (by omega)
  rw [List.drop_zero] at this
  exact this
theorem qaY (vs rs:List Int):∃ b,ancepsref38_Few.f vs rs=some b∧(b=true→vs.length≤12∧rs.length≤1030):=by
  unfold ancepsref38_Few.f
  by_cases h1:(vs.length:Int)≤12
  · rw [if_pos h1];exact ⟨_,rfl,fun h=>by have:=of_decide_eq_true h;omega⟩
  · rw [if_neg h1];exact ⟨_,rfl,fun h=>by simp at h⟩
theorem qb4 (o:List Bool) (m n:Nat) (v:Bool) (hl:m<o.length):rdOf false (o.set m v) (n:Int)=if m=n then v else rdOf false o (n:Int):=by
  unfold rdOf
  rw [Int.toNat_natCast]
  by_cases h:m=n
  · subst h;rw [if_pos rfl,List.getD,List.getElem?_set_self hl];rfl
  · rw [if_neg h];simp [List.getD,List.getElem?_set_ne h]
theorem qbQ {vs rs:List Int} (h:VT vs rs) (a:Nat):Ev (fun k=>ancepsref38_Holds.f k vs rs (a:Int)) (hs vs rs a):=by
  have h1:=h.rows_len
  have h2:=h.len
  exact Ev.bind (qb2 vs h.vars' (by omega) a) (Ev.bind (qct rs (by omega) _) (Ev.now _))
theorem qaE (vs rs:List Int) (hv:∀ v,v∈vs→0≤v∧v<24) (hl:vs.length≤24) (a:Nat) (ha:a<2 ^ 60):∀ (d i out:Nat),i+d=vs.length→out<2 ^ i→
    Ev (fun k=>solve_row.l0 k (a:Int) (out:Int) vs vs.length i) ((qC a (vs.drop i) i out:Nat):Int)
  | 0,i,out,h,ho=>by
    rw [List.drop_eq_nil_of_le (by omega)]
    exact Ev.step (f:=fun _=>some (out:Int)) (fun k=>by rw [solve_row.l0,if_neg (by omega)]) (Ev.now _)
  | d+1,i,out,h,ho=>by
    have hi:i<vs.length:=by omega
    have hw:=qb i vs.length hi (by omega)
    have hm:=hv _ (qF vs i hi)
    have ih:=qaE vs rs hv hl a ha d (i+1) _ (by omega) (qB (a.testBit (rd vs i).toNat) out i ho)
    rw [qm vs i hi,qC]
    refine Ev.step (fun k=>?_) ih
    rw [solve_row.l0,if_pos (by omega),if_pos (by omega),if_pos (by omega),if_pos (by omega),hw]
    have hb:=qce a (rd vs i).toNat i out ha (by omega) (by omega) ho
    rw [← qo hm.1] at hb
    rw [hb]
theorem qau (vs rs:List Int) (hv:∀ v,v∈vs→0≤v∧v<24) (hl:vs.length≤24) (a:Nat) (ha:a<2 ^ 60):Ev (fun k=>solve_row.f k vs rs (a:Int)) ((row vs a:Nat):Int):=by
  have:=qaE vs rs hv hl a ha vs.length 0 0 (by omega) (by decide)
  exact this
theorem qs (l:List S34) (i:Nat) (hi:i<l.length):l.drop i=rd_T34 l i :: l.drop (i+1):=qaz l i z34 hi
theorem qq (l:List S34) (i:Nat) (hi:i<l.length):rd_T34 l i∈l:=by
  unfold rd_T34
  simp only [Int.toNat_natCast,List.getD,List.getElem?_eq_getElem hi,Option.getD_some]
  exact List.getElem_mem hi
def qp:List S34→Int
  | []=>0
  | t :: ts=>if qu t.f0 t.f1=0 then qp ts else qu t.f0 t.f1
def qi (l:List S34):Int:=if (l.length:Int)>16 then 3 else qp l
def Sm (l:List S34):Prop:=∀ t,t∈l→t.f0.length≤1030∧t.f1.length≤1030
structure VS (l:List S34):Prop where
  len:l.length≤16
  tab:∀ t,t∈l→VT t.f0 t.f1
theorem qaF:∀ l:List S34,qp l=0↔∀ t,t∈l→VT t.f0 t.f1
  | []=>by simp [qp]
  | t :: ts=>by
    have ih:=qaF ts
    unfold qp
    by_cases h:qu t.f0 t.f1=0
    · rw [if_pos h,ih]
      exact ⟨fun h2 x hx=>by rcases List.mem_cons.1 hx with rfl|hx;exact (qA _ _).1 h;exact h2 x hx,fun h2 x hx=>h2 x (List.mem_cons_of_mem _ hx)⟩
    · rw [if_neg h]
      exact ⟨fun h2=>absurd h2 h,fun h2=>absurd ((qA _ _).2 (h2 t List.mem_cons_self)) h⟩
theorem qe (l:List S34):qi l=0↔VS l:=by
  unfold qi
  by_cases h:(l.length:Int)>16
  · rw [if_pos h];exact ⟨fun h2=>by omega,fun h2=>by have:=h2.len;omega⟩
  · rw [if_neg h,qaF];exact ⟨fun h2=>⟨by omega,h2⟩,fun h2=>h2.tab⟩
theorem q8 (l:List S34) (hs:Sm l) (hl:l.length≤1000):∀ (d i:Nat),i+d=l.length→Ev (fun k=>solve_valid.l0 k l l.length i) (qp (l.drop i))
  | 0,i,h=>by
    rw [List.drop_eq_nil_of_le (by omega)]
    exact Ev.step (f:=fun _=>some 0) (fun k=>by rw [solve_valid.l0,if_neg (by omega)]) (Ev.now _)
  | d+1,i,h=>by
    have hi:i<l.length:=by omega
    have hw:=qb i l.length hi (by omega)
    have hm:=hs _ (qq l i hi)
    rw [qs l i hi,qp]
    refine Ev.step (fun k=>by rw [solve_valid.l0,if_pos (by omega),if_pos (by omega),if_pos (by omega),hw]) (Ev.bind (qab _ _ (by omega) (by omega)) ?_)
    exact qd (fun _=>q8 l hs hl d (i+1) (by omega)) (fun _=>Ev.now _)
theorem qv (l:List S34) (hs:Sm l) (hl:l.length≤1000):Ev (fun k=>solve_valid.f k l) (qi l):=by
  unfold qi solve_valid.f
  exact qd (fun _=>Ev.now _) (fun _=>by simpa using q8 l hs hl l.length 0 (by omega))
theorem qS (l:List S34) (hs:Sm l) (hl:l.length≤1000):∀ (d i:Nat),i+d=l.length→Ev (fun k=>ancepsref40_Valid.l0 k l i) (qp (l.drop i))
  | 0,i,h=>by
    rw [List.drop_eq_nil_of_le (by omega)]
    exact Ev.step (f:=fun _=>some 0) (fun k=>by rw [ancepsref40_Valid.l0,if_neg (by omega)]) (Ev.now _)
  | d+1,i,h=>by
    have hi:i<l.length:=by omega
    have hw:=qb i l.length hi (by omega)
    have hm:=hs _ (qq l i hi)
    rw [qs l i hi,qp]
    refine Ev.step (fun k=>by rw [ancepsref40_Valid.l0,if_pos (by omega),if_pos (by omega),hw]) (Ev.bind (qaB _ _ (by omega) (by omega)) ?_)
    exact qd (fun _=>qS l hs hl d (i+1) (by omega)) (fun _=>Ev.now _)
theorem qn (l:List S34) (hs:Sm l) (hl:l.length≤1000):Ev (fun k=>ancepsref40_Valid.f k l) (qi l):=by
  unfold qi ancepsref40_Valid.f
  exact qd (fun _=>Ev.now _) (fun _=>by simpa using qS l hs hl l.length 0 (by omega))
theorem qT (l:List S34) (Q:Prop) (rows:Int) (i:Nat) (hi:i<l.length) (hl:l.length≤18) (hv:(rd_T34 l i).f0.length≤1030)
    (H:∀ (seen:List Bool) (n:Int),seen.length=24→∃ b,Ev (fun k=>ancepsref40_Few.l0 k l seen n rows ((i+1:Nat):Int)) b∧(b=true→Q)) :
    ∀ (d j:Nat) (seen:List Bool) (n:Int),j+d=(rd_T34 l i).f0.length→seen.length=24→∃ b,Ev (fun k=>ancepsref40_Few.l1 k l seen n rows i j) b∧(b=true→Q)
  | 0,j,seen,n,h,hs=>by
    obtain ⟨b,hb,hq⟩:=H seen n hs
    have hw:=qb i l.length hi (by omega)
    exact ⟨b,Ev.step (fun k=>by rw [ancepsref40_Few.l1,if_pos (by omega),if_pos (by omega),if_neg (by omega),hw]) hb,hq⟩
  | d+1,j,seen,n,h,hs=>by
    have hj:j<(rd_T34 l i).f0.length:=by omega
    have hw:=qb j _ hj (by omega)
    by_cases h0:rd (rd_T34 l i).f0 j≥0
    · by_cases h1:rd (rd_T34 l i).f0 j<24
      · by_cases hb:rdOf false seen (rd (rd_T34 l i).f0 j)=true
        · obtain ⟨b,e,hq⟩:=qT l Q rows i hi hl hv H d (j+1) seen n (by omega) hs
          exact ⟨b,Ev.step (fun k=>by rw [ancepsref40_Few.l1,if_pos (by omega),if_pos (by omega),if_pos (by omega),if_pos (by omega),if_pos h0,if_pos h1,if_pos (by omega),if_pos (by omega),if_pos hb,hw]) e,hq⟩
        · obtain ⟨b,e,hq⟩:=qT l Q rows i hi hl hv H d (j+1) (seen.set (rd (rd_T34 l i).f0 j).toNat true) (wrap64 (n+1)) (by omega) (by rw [List.length_set];exact hs)
          exact ⟨b,Ev.step (fun k=>by rw [ancepsref40_Few.l1,if_pos (by omega),if_pos (by omega),if_pos (by omega),if_pos (by omega),if_pos h0,if_pos h1,if_pos (by omega),if_pos (by omega),if_neg hb,hw]) e,hq⟩
      · obtain ⟨b,e,hq⟩:=qT l Q rows i hi hl hv H d (j+1) seen n (by omega) hs
        exact ⟨b,Ev.step (fun k=>by rw [ancepsref40_Few.l1,if_pos (by omega),if_pos (by omega),if_pos (by omega),if_pos (by omega),if_pos h0,if_neg h1,hw]) e,hq⟩
    · obtain ⟨b,e,hq⟩:=qT l Q rows i hi hl hv H d (j+1) seen n (by omega) hs
      exact ⟨b,Ev.step (fun k=>by rw [ancepsref40_Few.l1,if_pos (by omega),if_pos (by omega),if_pos (by omega),if_pos (by omega),if_neg h0,hw]) e,hq⟩
theorem qbi (l:List S34) (hl:l.length≤18):∀ (d i:Nat) (seen:List Bool) (n rows:Int),i+d=l.length→seen.length=24→∃ b,Ev (fun k=>ancepsref40_Few.l0 k l seen n rows i) b∧(b=true→Sm (l.drop i))
  | 0,i,seen,n,rows,h,hs=>by
    rw [List.drop_eq_nil_of_le (by omega)]
    have hq:Sm []:=fun t ht=>by simp at ht
    by_cases hn:n≤10
    · exact ⟨_,Ev.step (f:=fun _=>some (decide (rows≤2000))) (fun k=>by rw [ancepsref40_Few.l0,if_neg (by omega),if_pos hn]) (Ev.now _),fun _=>hq⟩
    · exact ⟨false,Ev.step (f:=fun _=>some false) (fun k=>by rw [ancepsref40_Few.l0,if_neg (by omega),if_neg hn]) (Ev.now _),fun h=>by cases h⟩
  | d+1,i,seen,n,rows,h,hs=>by
    have hi:i<l.length:=by omega
    obtain ⟨b,hb,hf⟩:=qaY (rd_T34 l i).f0 (rd_T34 l i).f1
    cases b with
    | false=>exact ⟨false,Ev.step (f:=fun _=>some false) (fun k=>by rw [ancepsref40_Few.l0,if_pos (by omega),if_pos (by omega),hb];rfl) (Ev.now _),fun h=>by cases h⟩
    | true=>
      obtain ⟨f1,f2⟩:=hf rfl
      obtain ⟨b,e,hq⟩:=qT l (Sm (l.drop (i+1))) (wrap64 (rows+((rd_T34 l i).f1.length:Int))) i hi hl (by omega)
        (fun seen n hs=>qbi l hl d (i+1) seen n _ (by omega) hs) (rd_T34 l i).f0.length 0 seen n (by omega) hs
      refine ⟨b,Ev.step (fun k=>by rw [ancepsref40_Few.l0,if_pos (by omega),if_pos (by omega),hb];rfl) e,fun h=>?_⟩
      rw [qs l i hi]
      intro t ht
      rcases List.mem_cons.1 ht with rfl|ht
      · omega
      · exact hq h t ht
theorem qb5 (l:List S34):∃ b,Ev (fun k=>ancepsref40_Few.f k l) b∧(b=true→Sm l∧l.length≤18):=by
  unfold ancepsref40_Few.f
  by_cases h:(l.length:Int)>18
  · exact ⟨false,qa h (Ev.now _),fun h=>by cases h⟩
  · obtain ⟨b,e,hq⟩:=qbi l (by omega) l.length 0 (List.replicate 24 false) 0 0 (by omega) (by simp)
    exact ⟨b,qc h (qa (by decide) (by simpa using e)),fun h2=>⟨by simpa using hq h2,by omega⟩⟩
def flat (l:List S34):List Int:=l.flatMap (·.f0)
def occ (l:List S34):List Int:=Lib.compact ((flat l).mergeSort fun x y=>decide (x≤y))
theorem VS.flat {l:List S34} (h:VS l):∀ v,v∈flat l→0≤v∧v<24:=fun v hv=>by
  obtain ⟨t,ht,hv⟩:=List.mem_flatMap.1 hv
  exact (h.tab t ht).vars' v hv
theorem VS.occ {l:List S34} (h:VS l):Chn 24 none (occ l)∧∀ v,v∈occ l↔v∈Pure.flat l:=qat (Pure.flat l) h.flat
theorem qaG (t:S34) (l:List S34):flat (t :: l)=t.f0++flat l:=by simp [flat]
theorem qaZ (l:List S34) (hs:Sm l) (hl:l.length≤1000):∀ (d i:Nat) (acc:List Int),i+d=l.length→acc.length≤1030 * i→Ev (fun k=>solve_occurring.l0 k acc l l.length i) (Lib.compact ((acc++flat (l.drop i)).mergeSort fun x y=>decide (x≤y)))
  | 0,i,acc,h,ha=>by
    rw [List.drop_eq_nil_of_le (by omega),show flat []=[] from rfl,List.append_nil]
    refine Ev.step (fun k=>by rw [solve_occurring.l0,if_neg (by omega)]) ?_
    have hs:slices_Sort_int_int.f acc=some (acc.mergeSort fun x y=>decide (x≤y)):=by
      unfold slices_Sort_int_int.f
      rw [if_pos (by omega)]
    simp only [hs,Option.bind_some]
    exact Ev.now _
  | d+1,i,acc,h,ha=>by
    have hi:i<l.length:=by omega
    have hw:=qb i l.length hi (by omega)
    have hm:=hs _ (qq l i hi)
    have ih:=qaZ l hs hl d (i+1) (acc++(rd_T34 l i).f0) (by omega) (by rw [List.length_append];omega)
    rw [qs l i hi,qaG,← List.append_assoc]
    exact Ev.step (fun k=>by rw [solve_occurring.l0,if_pos (by omega),if_pos (by omega),if_pos (by omega),if_pos (by omega),hw]) ih
theorem qai (l:List S34) (hs:Sm l) (hl:l.length≤1000):Ev (fun k=>solve_occurring.f k l) (occ l):=by
  have:=qaZ l hs hl l.length 0 [] (by omega) (by simp)
  rw [List.nil_append,List.drop_zero] at this
  exact this
def qk:List Int→List Bool→List Bool
  | [],s=>s
  | v :: vs,s=>qk vs (s.set v.toNat true)
theorem qU:∀ (vs:List Int) (s:List Bool),(qk vs s).length=s.length
  | [],_=>rfl
  | v :: vs,s=>by rw [qk,qU,List.length_set]
theorem qa0:∀ (vs:List Int) (s:List Bool),(∀ v,v∈vs→0≤v∧v<(s.length:Int))→∀ m:Nat,rdOf false (qk vs s) (m:Int)=(rdOf false s (m:Int)||decide ((m:Int)∈vs))
  | [],s,_,m=>by simp [qk]
  | v :: vs,s,h,m=>by
    have hv:=h v List.mem_cons_self
    rw [qk,qa0 vs _ (fun x hx=>by rw [List.length_set];exact h x (List.mem_cons_of_mem _ hx)),qb4 s v.toNat m true (by omega)]
    by_cases e:v.toNat=m
    · rw [if_pos e,Bool.true_or]
      have:(m:Int)=v:=by omega
      simp [this]
    · rw [if_neg e]
      have:(m:Int)≠v:=by omega
      simp [this]
theorem qbj (l:List S34) (i:Nat) (hi:i<l.length) (hl:l.length≤16) (hv:(rd_T34 l i).f0.length≤1030) (hr:∀ v,v∈(rd_T34 l i).f0→0≤v∧v<24) (r:List Int) :
    ∀ (d j:Nat) (seen:List Bool),j+d=(rd_T34 l i).f0.length→seen.length=24→Ev (fun k=>ancepsref40_Vars.l0 k l (qk ((rd_T34 l i).f0.drop j) seen) ((i+1:Nat):Int)) r→Ev (fun k=>ancepsref40_Vars.l1 k l seen i j) r
  | 0,j,seen,h,hs,H=>by
    rw [List.drop_eq_nil_of_le (by omega)] at H
    have hw:=qb i l.length hi (by omega)
    exact Ev.step (fun k=>by rw [ancepsref40_Vars.l1,if_pos (by omega),if_pos (by omega),if_neg (by omega),hw];rfl) H
  | d+1,j,seen,h,hs,H=>by
    have hj:j<(rd_T34 l i).f0.length:=by omega
    have hw:=qb j _ hj (by omega)
    have hm:=hr _ (qF (rd_T34 l i).f0 j hj)
    rw [qm _ j hj,qk] at H
    have ih:=qbj l i hi hl hv hr r d (j+1) (seen.set (rd (rd_T34 l i).f0 j).toNat true) (by omega) (by rw [List.length_set];exact hs) H
    exact Ev.step (fun k=>by rw [ancepsref40_Vars.l1,if_pos (by omega),if_pos (by omega),if_pos (by omega),if_pos (by omega),if_pos (by omega),if_pos (by omega),hw]) ih
theorem qac (seen:List Bool) (hs:seen.length=24):∀ (d v:Nat) (acc:List Int),v+d=24→acc.length≤v→Ev (fun k=>ancepsref40_Vars.l2 k seen acc v) (acc++flt (fun m=>rdOf false seen (m:Int)) d v)
  | 0,v,acc,h,ha=>by
    exact Ev.step (f:=fun _=>some acc) (fun k=>by rw [ancepsref40_Vars.l2,if_neg (by omega)]) (by simpa [flt] using Ev.now _)
  | d+1,v,acc,h,ha=>by
    have hw:wrap64 ((v:Int)+1)=((v+1:Nat):Int):=by rw [qh _ (by omega)];omega
    rw [flt]
    by_cases e:rdOf false seen (v:Int)=true
    · have ih:=qac seen hs d (v+1) (acc++[(v:Int)]) (by omega) (by simp;omega)
      rw [if_pos e]
      rw [List.append_assoc,List.singleton_append] at ih
      exact Ev.step (fun k=>by rw [ancepsref40_Vars.l2,if_pos (by omega),if_pos (by omega),if_pos (by omega),if_pos e,if_pos (by omega),hw]) ih
    · have ih:=qac seen hs d (v+1) acc (by omega) (by omega)
      rw [if_neg e]
      exact Ev.step (fun k=>by rw [ancepsref40_Vars.l2,if_pos (by omega),if_pos (by omega),if_pos (by omega),if_neg e,hw]) ih
theorem qaH (l:List S34) (h:VS l):∀ (d i:Nat) (seen:List Bool),i+d=l.length→seen.length=24→Ev (fun k=>ancepsref40_Vars.l0 k l seen i) (flt (fun m=>rdOf false (qk (flat (l.drop i)) seen) (m:Int)) 24 0)
  | 0,i,seen,hd,hs=>by
    rw [List.drop_eq_nil_of_le (by omega)]
    have:=qac seen hs 24 0 [] (by omega) (by simp)
    rw [List.nil_append] at this
    exact Ev.step (fun k=>by rw [ancepsref40_Vars.l0,if_neg (by omega)];rfl) this
  | d+1,i,seen,hd,hs=>by
    have hi:i<l.length:=by omega
    have hm:=h.tab _ (qq l i hi)
    have ih:=qaH l h d (i+1) (qk (rd_T34 l i).f0 seen) (by omega) (by rw [qU];exact hs)
    have hap:∀ (a b:List Int) (s:List Bool),qk (a++b) s=qk b (qk a s):=by
      intro a
      induction a with
      | nil=>intro b s;rfl
      | cons x xs ihx=>intro b s;rw [List.cons_append,qk,qk,ihx]
    rw [qs l i hi,qaG,hap]
    have key:=qbj l i hi h.len (by have:=hm.len;omega) hm.vars' _ (rd_T34 l i).f0.length 0 seen (by omega) hs (by rw [List.drop_zero];exact ih)
    exact Ev.step (fun k=>by rw [ancepsref40_Vars.l0,if_pos (by omega)];rfl) key
theorem qad {l:List S34} (h:VS l) (hs:Sm l):Ev (fun k=>ancepsref40_Vars.f k l) (occ l):=by
  have hl:=h.len
  refine Ev.bind (qn l hs (by omega)) (qa ((qe l).2 h) (qa (by decide) ?_))
  refine qf (qaH l h l.length 0 (List.replicate 24 false) (by omega) (by simp)) ?_
  rw [List.drop_zero]
  have h24:=qG (fun m=>rdOf false (qk (flat l) (List.replicate 24 false)) (m:Int)) 24 0 none (fun q hq=>by cases hq)
  refine Chn.same h24 h.occ.1 (fun n=>?_)
  rw [h.occ.2,q3]
  have hat:=qa0 (flat l) (List.replicate 24 false) (fun v hv=>by have:=h.flat v hv;simp;omega)
  have hz:∀ m:Nat,rdOf false (List.replicate 24 false) (m:Int)=false:=by
    intro m
    unfold rdOf
    simp only [Int.toNat_natCast,List.getD_eq_getElem?_getD,List.getElem?_replicate]
    split <;> rfl
  constructor
  · rintro ⟨m,_,hm,ht,rfl⟩
    rw [hat,hz,Bool.false_or,decide_eq_true_eq] at ht
    exact ht
  · intro hn
    have:=h.flat n hn
    refine ⟨n.toNat,by omega,by omega,?_,by omega⟩
    rw [hat,hz,Bool.false_or,decide_eq_true_eq,← qo this.1]
    exact hn

theorem qaj (l:List Int) (hl:(l.length:Int)≤9223372036854775807) (x:Int):∀ (d i:Nat),i+d=l.length→∃ q:Int,Ev (fun k=>slices_Index_int_int.l0 k l x l.length i) q∧decide (q≥0)=decide (x∈l.drop i)
  | 0,i,h=>by
    rw [List.drop_eq_nil_of_le (by omega)]
    exact ⟨-1,Ev.step (f:=fun _=>some (-1)) (fun k=>by rw [slices_Index_int_int.l0,if_neg (by omega)]) (Ev.now _),by simp⟩
  | d+1,i,h=>by
    have hi:i<l.length:=by omega
    have hw:=qb i l.length hi hl
    obtain ⟨q,hq,hq2⟩:=qaj l hl x d (i+1) (by omega)
    rw [qm l i hi]
    by_cases e:x=rd l i
    · exact ⟨i,Ev.step (f:=fun _=>some (i:Int)) (fun k=>by rw [slices_Index_int_int.l0,if_pos (by omega),if_pos (by omega),if_pos (by omega),if_pos e]) (Ev.now _),decide_eq_decide.2 ⟨fun _=>by rw [e];exact List.mem_cons_self,fun _=>by omega⟩⟩
    · refine ⟨q,Ev.step (fun k=>by rw [slices_Index_int_int.l0,if_pos (by omega),if_pos (by omega),if_pos (by omega),if_neg e,hw]) hq,?_⟩
      rw [hq2,decide_eq_decide,List.mem_cons]
      exact ⟨.inr,fun h=>by rcases h with h|h;exact absurd h e;exact h⟩
theorem qy (l:List Int) (hl:(l.length:Int)≤9223372036854775807) (x:Int):Ev (fun k=>slices_Contains_int_int.f k l x) (decide (x∈l)):=by
  obtain ⟨q,hq,hq2⟩:=qaj l hl x l.length 0 (by omega)
  rw [List.drop_zero] at hq2
  rw [← hq2]
  exact Ev.bind hq (Ev.now _)

theorem q9 (a b:Nat) (ha:a<2 ^ 62) (hb:b<2 ^ 62):Go.bits .andNot .i64 (a:Int) (b:Int)=((a&&& (a ^^^ b):Nat):Int):=by
  have h62:(2:Nat) ^ 62=4611686018427387904:=by decide
  have h64:(2:Nat) ^ IntKind.i64.bits=18446744073709551616:=by decide
  have hx:a&&& (a ^^^ b)≤a:=Nat.and_le_left
  have ha':a % 2 ^ IntKind.i64.bits=a:=Nat.mod_eq_of_lt (by omega)
  have hb':b % 2 ^ IntKind.i64.bits=b:=Nat.mod_eq_of_lt (by omega)
  have e:∀ x y:BitVec IntKind.i64.bits,x&&& ~~~y=x&&& (x ^^^ y):=by
    intro x y
    ext i hi
    simp only [BitVec.getElem_and,BitVec.getElem_not,BitVec.getElem_xor]
    cases x[i] <;> cases y[i] <;> rfl
  simp only [Go.bits,BitVec.ofInt_natCast,e,BitVec.toNat_and,BitVec.toNat_xor,BitVec.toNat_ofNat,ha',hb']
  rw [IntKind.wrap_i64]
  omega
def qg:List Int→Nat→Nat
  | [],m=>m
  | v :: vs,m=>qg vs (m||| 2 ^ v.toNat)
theorem qt:∀ (vs:List Int) (m j:Nat),(qg vs m).testBit j=(m.testBit j||vs.any fun v=>v.toNat == j)
  | [],m,j=>by simp [qg]
  | v :: vs,m,j=>by
    rw [qg,qt vs,Nat.testBit_or,Nat.testBit_two_pow,List.any_cons,Bool.or_assoc]
    congr 1
theorem qbk:∀ (vs:List Int) (m:Nat),(∀ v,v∈vs→0≤v∧v<24)→m<2 ^ 24→qg vs m<2 ^ 24
  | [],m,_,h=>h
  | v :: vs,m,hv,h=>qbk vs _ (fun x hx=>hv x (List.mem_cons_of_mem _ hx)) (Nat.or_lt_two_pow h (Nat.pow_lt_pow_right (by decide) (by have:=hv v List.mem_cons_self;omega)))
theorem qak {hi:Int} {vs:List Int} (h:Chn hi none vs) (a j:Nat):(asg vs (row vs a)).testBit j=(a.testBit j&&(qg vs 0).testBit j):=by
  rw [qt,Nat.zero_testBit,Bool.false_or,Bool.eq_iff_iff,qj h,Bool.and_eq_true,List.any_eq_true]
  constructor
  · rintro ⟨m,v,hv,rfl,hb⟩
    obtain ⟨u,hu,hb⟩:=(ql vs a m).1 hb
    rw [hv] at hu
    injection hu with hu
    exact ⟨by rw [hu];exact hb,v,List.mem_of_getElem? hv,by simp⟩
  · rintro ⟨hb,v,hv,e⟩
    obtain ⟨i,hi2⟩:=List.getElem?_of_mem hv
    have e2:v.toNat=j:=by simpa using e
    exact ⟨i,v,hi2,e2.symm,(ql vs a i).2 ⟨v,hi2,by rw [e2];exact hb⟩⟩
theorem qN {hi:Int} {vs:List Int} (h:Chn hi none vs) (a:Nat):asg vs (row vs a)=a↔a&&& (a ^^^ qg vs 0)=0:=by
  constructor
  · intro e
    apply Nat.eq_of_testBit_eq
    intro j
    have:=qak h a j
    rw [e] at this
    rw [Nat.testBit_and,Nat.testBit_xor,Nat.zero_testBit]
    revert this
    cases a.testBit j <;> cases (qg vs 0).testBit j <;> simp
  · intro e
    apply Nat.eq_of_testBit_eq
    intro j
    rw [qak h]
    have:=congrArg (fun z=>z.testBit j) e
    simp only [Nat.testBit_and,Nat.testBit_xor,Nat.zero_testBit] at this
    revert this
    cases a.testBit j <;> cases (qg vs 0).testBit j <;> simp
theorem qal (l:List S34) (vs:List Int) (hv:∀ v,v∈vs→0≤v∧v<24) (hl:vs.length≤24) (a:Int) (r:Bool):∀ (d i m:Nat),i+d=vs.length→m<2 ^ 24→
    Ev (fun k=>if (Go.bits .andNot .i64 a ((qg (vs.drop i) m:Nat):Int))=0 then ((api_Table_solve_Holds_1.f k l a).bind fun t=>(some (!t))) else (some false)) r→Ev (fun k=>solve_Holds.l0 k l (m:Int) vs vs.length i a) r
  | 0,i,m,h,hm,H=>by
    rw [List.drop_eq_nil_of_le (by omega)] at H
    exact Ev.step (fun k=>by rw [solve_Holds.l0,if_neg (by omega)];rfl) H
  | d+1,i,m,h,hm,H=>by
    have hi:i<vs.length:=by omega
    have hw:=qb i vs.length hi (by omega)
    have h1:=hv _ (qF vs i hi)
    rw [qm vs i hi,qg] at H
    have ih:=qal l vs hv hl a r d (i+1) _ (by omega) (Nat.or_lt_two_pow hm (Nat.pow_lt_pow_right (by decide) (by omega))) H
    refine Ev.step (fun k=>?_) ih
    rw [solve_Holds.l0,if_pos (by omega),if_pos (by omega),if_pos (by omega),if_pos (by omega),hw]
    have e:=qJ (rd vs i).toNat (by omega)
    rw [← qo h1.1] at e
    have hp:2 ^ (rd vs i).toNat<2 ^ 24:=Nat.pow_lt_pow_right (by decide) (by omega)
    have hw2:∀ z:Int,0≤z→z<2 ^ 62→IntKind.i64.wrap z=z:=fun z h0 h1=>by
      rw [IntKind.wrap_i64]
      have:(2:Int) ^ 62=4611686018427387904:=by decide
      omega
    have h62:(2:Nat) ^ 24≤2 ^ 62:=by decide
    rw [e,(bits_nat .i64 62 (by decide) hw2 m _ (by omega) (by omega)).2]
theorem qam {l:List S34} (h:VS l) (a:Nat) (ha:a<2 ^ 24):∀ (d i:Nat),i+d=l.length→∃ q:Int,Ev (fun k=>api_Table_solve_Holds_1_v2.l0 k l l.length i (a:Int)) q∧decide (q≥0)=(l.drop i).any fun t=>!hs t.f0 t.f1 a
  | 0,i,hd=>by
    rw [List.drop_eq_nil_of_le (by omega)]
    exact ⟨-1,Ev.step (f:=fun _=>some (-1)) (fun k=>by rw [api_Table_solve_Holds_1_v2.l0,if_neg (by omega)]) (Ev.now _),rfl⟩
  | d+1,i,hd=>by
    have hi:i<l.length:=by omega
    have hl:=h.len
    have hw:=qb i l.length hi (by omega)
    have hm:=h.tab _ (qq l i hi)
    have hr:=hm.rows_len
    obtain ⟨q,hq,hq2⟩:=qam h a ha d (i+1) (by omega)
    have h1:Ev (fun k=>solve_Holds_1_v1.f k (rd_T34 l i).f0 (rd_T34 l i).f1 (a:Int)) (!hs (rd_T34 l i).f0 (rd_T34 l i).f1 a):=
      Ev.bind (qau _ _ hm.vars' (by have:=hm.len;omega) a (Nat.lt_of_lt_of_le ha (by decide))) (Ev.bind (qy _ (by omega) _) (Ev.now _))
    rw [qs l i hi,List.any_cons]
    by_cases e:(!hs (rd_T34 l i).f0 (rd_T34 l i).f1 a)=true
    · rw [e] at h1 ⊢
      exact ⟨i,Ev.step (fun k=>by rw [api_Table_solve_Holds_1_v2.l0,if_pos (by omega),if_pos (by omega),if_pos (by omega)]) (Ev.bind h1 (qa rfl (Ev.now _))),by rw [Bool.true_or];exact decide_eq_true (by omega)⟩
    · rw [Bool.not_eq_true] at e
      rw [e] at h1 ⊢
      exact ⟨q,Ev.step (fun k=>by rw [api_Table_solve_Holds_1_v2.l0,if_pos (by omega),if_pos (by omega),if_pos (by omega),hw]) (Ev.bind h1 (qc Bool.false_ne_true hq)),by rw [Bool.false_or];exact hq2⟩
def hsS (l:List S34) (a:Nat):Bool:=decide (asg (occ l) (row (occ l) a)=a)&&l.all fun t=>hs t.f0 t.f1 a
def hld (l:List S34) (a:Int):Bool:=if qi l=0 then if a<0 then false else if a≥16777216 then false else hsS l a.toNat else false
theorem VS.occ' {l:List S34} (h:VS l):∀ v,v∈Pure.occ l→0≤v∧v<24:=fun v hv=>by have:=h.occ.1.mem v hv;omega
theorem VS.occ_len {l:List S34} (h:VS l):(Pure.occ l).length≤24:=by have:=h.occ.1.len (by decide);omega
theorem qbR (l:List S34) (hs':Sm l) (hl:l.length≤1000) (a:Int):Ev (fun k=>solve_Holds.f k l a) (hld l a):=by
  refine Ev.bind (qv l hs' hl) (qd (fun h=>qd (fun _=>Ev.now _) (fun h0=>?_)) (fun _=>Ev.now _))
  have hv:=(qe l).1 h
  by_cases h1:a≥16777216
  · rw [if_pos h1];exact qa h1 (Ev.now _)
  · rw [if_neg h1]
    refine qc h1 (Ev.bind (qai l hs' hl) ?_)
    have h24:(2:Nat) ^ 24=16777216:=by decide
    have ha:a.toNat<2 ^ 24:=by omega
    refine qal l (occ l) hv.occ' hv.occ_len a _ (occ l).length 0 0 (by omega) (by decide) ?_
    rw [List.drop_zero]
    have hm:=qbk (occ l) 0 hv.occ' (by decide)
    have e:Go.bits .andNot .i64 a ((qg (occ l) 0:Nat):Int)=((a.toNat&&& (a.toNat ^^^ qg (occ l) 0):Nat):Int):=by
      have:=q9 a.toNat (qg (occ l) 0) (Nat.lt_of_lt_of_le ha (by decide)) (Nat.lt_of_lt_of_le hm (by decide))
      rw [← qo (by omega)] at this
      exact this
    have iff:=qN hv.occ.1 a.toNat
    unfold hsS
    by_cases c:asg (occ l) (row (occ l) a.toNat)=a.toNat
    · have c2:=iff.1 c
      rw [decide_eq_true c,Bool.true_and]
      refine qa (by rw [e,c2];rfl) ?_
      obtain ⟨q,hq,hq2⟩:=qam hv a.toNat ha l.length 0 (by omega)
      rw [← qo (by omega),List.drop_zero] at *
      refine Ev.bind (show Ev (fun k=>api_Table_solve_Holds_1.f k l a) (decide (q≥0)) from Ev.bind hq (Ev.now _)) ?_
      rw [hq2]
      refine qf (Ev.now _) ?_
      rw [List.any_eq_not_all_not,Bool.not_not]
      (try simp only [Bool.not_not])
    · rw [decide_eq_false c,Bool.false_and]
      refine qc (fun h2=>c (iff.2 ?_)) (Ev.now _)
      rw [e] at h2
      exact_mod_cast h2
def fl (t:S34) (C V:Nat):Bool:=!(t.f1.any fun r=>r.toNat&&& row t.f0 C == row t.f0 V)
theorem w62:∀ z:Int,0≤z→z<2 ^ 62→IntKind.i64.wrap z=z:=fun z h0 h1=>by
  rw [IntKind.wrap_i64]
  have:(2:Int) ^ 62=4611686018427387904:=by decide
  omega
theorem qaI (rs:List Int) (hl:(rs.length:Int)≤9223372036854775807) (hr:∀ r,r∈rs→0≤r∧r.toNat<2 ^ 62) (m w:Nat) (hm:m<2 ^ 62):∀ (d i:Nat),i+d=rs.length→
    ∃ q:Int,Ev (fun k=>slices_IndexFunc_int_int_solve_choices_fails_1.l0 k rs rs.length i (m:Int) (w:Int)) q∧decide (q≥0)=(rs.drop i).any fun r=>r.toNat&&& m == w
  | 0,i,h=>by
    rw [List.drop_eq_nil_of_le (by omega)]
    exact ⟨-1,Ev.step (f:=fun _=>some (-1)) (fun k=>by rw [slices_IndexFunc_int_int_solve_choices_fails_1.l0,if_neg (by omega)]) (Ev.now _),rfl⟩
  | d+1,i,h=>by
    have hi:i<rs.length:=by omega
    have hw:=qb i rs.length hi hl
    obtain ⟨q,hq,hq2⟩:=qaI rs hl hr m w hm d (i+1) (by omega)
    have h1:=hr _ (qF rs i hi)
    have hb:=(bits_nat .i64 62 (by decide) w62 (rd rs i).toNat m h1.2 hm).1
    rw [← qo h1.1] at hb
    have hf:solve_choices_fails_1_v1.f (rd rs i) (m:Int) (w:Int)=some ((rd rs i).toNat&&& m == w):=by
      unfold solve_choices_fails_1_v1.f
      rw [hb]
      congr 1
      rw [Bool.eq_iff_iff,beq_iff_eq,beq_iff_eq]
      omega
    rw [qm rs i hi,List.any_cons]
    by_cases e:((rd rs i).toNat&&& m == w)=true
    · rw [e] at hf ⊢
      exact ⟨i,Ev.step (fun k=>by rw [slices_IndexFunc_int_int_solve_choices_fails_1.l0,if_pos (by omega),if_pos (by omega),if_pos (by omega),hf];rfl) (Ev.now (i:Int)),by rw [Bool.true_or];exact decide_eq_true (by omega)⟩
    · rw [Bool.not_eq_true] at e
      rw [e] at hf ⊢
      exact ⟨q,Ev.step (fun k=>by rw [slices_IndexFunc_int_int_solve_choices_fails_1.l0,if_pos (by omega),if_pos (by omega),if_pos (by omega),hf,hw];rfl) hq,by rw [Bool.false_or];exact hq2⟩
theorem p62 {a n:Nat} (h:a<2 ^ n) (hn:n≤62):a<2 ^ 62:=Nat.lt_of_lt_of_le h (Nat.pow_le_pow_right (by decide) hn)
theorem qbS {t:S34} (h:VT t.f0 t.f1) (C V:Nat) (hC:C<2 ^ 24) (hV:V<2 ^ 24):Ev (fun k=>solve_choices_fails.f k (C:Int) (V:Int) t.f0 t.f1) (fl t C V):=by
  have hl:=h.len
  have hr:=h.rows_len
  refine Ev.bind (qau _ _ h.vars' (by omega) C (p62 hC (by decide) |> fun _=>Nat.lt_of_lt_of_le hC (by decide))) (Ev.bind (qau _ _ h.vars' (by omega) V (Nat.lt_of_lt_of_le hV (by decide))) ?_)
  obtain ⟨q,hq,hq2⟩:=qaI t.f1 (by omega) (fun r hr=>⟨(h.row_of hr).1,p62 (h.row_of hr).2.1 (by omega)⟩) (row t.f0 C) (row t.f0 V) (p62 (qQ _ _) (by omega)) t.f1.length 0 (by omega)
  rw [List.drop_zero] at hq2
  refine Ev.bind (show Ev (fun k=>slices_ContainsFunc_int_int_solve_choices_fails_1.f k t.f1 ((row t.f0 C:Nat):Int) ((row t.f0 V:Nat):Int)) (decide (q≥0)) from Ev.bind hq (Ev.now _)) ?_
  rw [hq2]
  exact Ev.now _
def ffl (C V:Nat):List S34→Nat→Int
  | [],_=>-1
  | t :: ts,i=>if fl t C V=true then (i:Int) else ffl C V ts (i+1)
theorem qav (C V:Nat):∀ (l:List S34) (i:Nat),0≤ffl C V l i↔(l.any fun t=>fl t C V)=true
  | [],i=>by simp [ffl]
  | t :: ts,i=>by
    have ih:=qav C V ts (i+1)
    rw [ffl,List.any_cons]
    by_cases h:fl t C V=true
    · rw [if_pos h,h];simp
    · rw [if_neg h,ih];rw [Bool.not_eq_true] at h;rw [h,Bool.false_or]
theorem qV {l:List S34} (h:VS l) (C V:Nat) (hC:C<2 ^ 24) (hV:V<2 ^ 24):∀ (d i:Nat),i+d=l.length→Ev (fun k=>api_Table_solve_choices_fails.l0 k l l.length i (C:Int) (V:Int)) (ffl C V (l.drop i) i)
  | 0,i,hd=>by
    rw [List.drop_eq_nil_of_le (by omega)]
    exact Ev.step (f:=fun _=>some (-1)) (fun k=>by rw [api_Table_solve_choices_fails.l0,if_neg (by omega)]) (Ev.now _)
  | d+1,i,hd=>by
    have hi:i<l.length:=by omega
    have hl:=h.len
    have hw:=qb i l.length hi (by omega)
    have ih:=qV h C V hC hV d (i+1) (by omega)
    rw [qs l i hi,ffl]
    refine Ev.step (fun k=>by rw [api_Table_solve_choices_fails.l0,if_pos (by omega),if_pos (by omega),if_pos (by omega),hw]) (Ev.bind (qbS (h.tab _ (qq l i hi)) C V hC hV) ?_)
    exact qd (fun _=>Ev.now _) (fun _=>ih)
theorem qan {l:List S34} (h:VS l) (C V:Nat) (hC:C<2 ^ 24) (hV:V<2 ^ 24):Ev (fun k=>solve_choices_failing.f k (C:Int) (V:Int) l) (ffl C V l 0):=by
  have:=qV h C V hC hV l.length 0 (by omega)
  rw [List.drop_zero] at this
  exact Ev.bind this (Ev.now _)
def wC (C:Nat) (v:Int):Nat:=C||| 2 ^ v.toNat
def wV (V:Nat) (v:Int) (b:Bool):Nat:=(V&&& (V ^^^ 2 ^ v.toNat))||| b.toNat * 2 ^ v.toNat
theorem qbY {C:Nat} {v:Int} (h:C<2 ^ 24) (h0:0≤v) (h1:v<24):wC C v<2 ^ 24:=Nat.or_lt_two_pow h (Nat.pow_lt_pow_right (by decide) (by omega))
theorem qbZ {V:Nat} {v:Int} (b:Bool) (h:V<2 ^ 24) (h0:0≤v) (h1:v<24):wV V v b<2 ^ 24:=by
  have hp:2 ^ v.toNat<2 ^ 24:=Nat.pow_lt_pow_right (by decide) (by omega)
  refine Nat.or_lt_two_pow (Nat.lt_of_le_of_lt Nat.and_le_left h) ?_
  cases b
  · simp
  · simpa using hp
theorem qa1 (C:Nat) (v:Int) (j:Nat):(wC C v).testBit j=(C.testBit j||v.toNat == j):=by
  unfold wC
  rw [Nat.testBit_or,Nat.testBit_two_pow]
  congr 1
theorem qa2 (V:Nat) (v:Int) (b:Bool) (j:Nat):(wV V v b).testBit j=((V.testBit j&&!(v.toNat == j))||(b&&v.toNat == j)):=by
  unfold wV
  rw [Nat.testBit_or,Nat.testBit_and,Nat.testBit_xor,Nat.testBit_two_pow]
  have h1:(b.toNat * 2 ^ v.toNat).testBit j=(b&&v.toNat == j):=by
    cases b
    · simp
    · simp only [Bool.toNat_true,Nat.one_mul,Nat.testBit_two_pow,Bool.true_and]
      rfl
  rw [h1]
  congr 1
  have e:decide (v.toNat=j)=(v.toNat == j):=rfl
  rw [e]
  cases V.testBit j <;> cases (v.toNat == j) <;> rfl
theorem qbl {C V:Nat} {v:Int} (b:Bool) (hC:C<2 ^ 24) (hV:V<2 ^ 24) (h0:0≤v) (h1:v<24):solve_choices_with.f (C:Int) (V:Int) v ((b.toNat:Nat):Int)=some (((wC C v:Nat):Int),((wV V v b:Nat):Int)):=by
  unfold solve_choices_with.f
  rw [if_pos h0]
  have hp:2 ^ v.toNat<2 ^ 24:=Nat.pow_lt_pow_right (by decide) (by omega)
  have e1:=qJ v.toNat (by omega)
  rw [← qo h0] at e1
  have e2:shl .i64 ((b.toNat:Nat):Int) v=((b.toNat * 2 ^ v.toNat:Nat):Int):=by
    cases b
    · simp only [Bool.toNat_false,Nat.zero_mul]
      unfold shl
      rw [show ((0:Nat):Int)=0 from rfl,Int.zero_mul]
      rfl
    · simp only [Bool.toNat_true,Nat.one_mul]
      exact e1
  have hbp:b.toNat * 2 ^ v.toNat<2 ^ 24:=by
    cases b
    · simp
    · simpa using hp
  have k1:=(bits_nat .i64 62 (by decide) w62 C (2 ^ v.toNat) (p62 hC (by decide)) (p62 hp (by decide))).2
  have k2:=q9 V (2 ^ v.toNat) (p62 hV (by decide)) (p62 hp (by decide))
  have k3:=(bits_nat .i64 62 (by decide) w62 (V&&& (V ^^^ 2 ^ v.toNat)) (b.toNat * 2 ^ v.toNat) (p62 (Nat.lt_of_le_of_lt Nat.and_le_left hV) (by decide)) (p62 hbp (by decide))).2
  rw [e1,e2,k1,k2,k3]
  rfl
def qW (l:List S34):List Int→Nat→Nat→List Int
  | [],C,V=>if (l.any fun t=>fl t C V)=true then [] else [(V:Int)]
  | v :: us,C,V=>if (l.any fun t=>fl t C V)=true then [] else qW l us (wC C v) (wV V v false)++qW l us (wC C v) (wV V v true)
theorem qX {l:List S34} (h:VS l):∀ (us:List Int) (C V:Nat),C<2 ^ 24→V<2 ^ 24→us.length≤24→(∀ v,v∈us→0≤v∧v<24)→Ev (fun k=>solve_search.f k l us.reverse (C:Int) (V:Int)) (qW l us C V)
  | [],C,V,hC,hV,hl,hv=>by
    refine Ev.step (fun k=>by rw [solve_search.f]) (Ev.bind (qan h C V hC hV) ?_)
    have hn:=qav C V l 0
    rw [qW]
    by_cases e:(l.any fun t=>fl t C V)=true
    · rw [if_pos e];exact qa (hn.2 e) (Ev.now _)
    · rw [if_neg e];exact qc (fun h2=>e (hn.1 h2)) (qa rfl (Ev.now _))
  | v :: us,C,V,hC,hV,hl,hv=>by
    refine Ev.step (fun k=>by rw [solve_search.f]) (Ev.bind (qan h C V hC hV) ?_)
    have hn:=qav C V l 0
    have h1:=hv v List.mem_cons_self
    rw [List.length_cons] at hl
    rw [qW]
    by_cases e:(l.any fun t=>fl t C V)=true
    · rw [if_pos e];exact qa (hn.2 e) (Ev.now _)
    · rw [if_neg e]
      have hlen:((v :: us).reverse.length:Int)=(us.length:Int)+1:=by simp
      have hwr:wrap64 (((v :: us).reverse.length:Int) - 1)=(us.length:Int):=by rw [hlen,qh _ (by omega)];omega
      have hrd:rd (v :: us).reverse (us.length:Int)=v:=by
        unfold rd
        simp [List.getD]
      have htk:(v :: us).reverse.take ((us.length:Int)).toNat=us.reverse:=by
        rw [List.reverse_cons,Int.toNat_natCast,List.take_append_of_le_length (by simp),List.take_of_length_le (by simp)]
      have ih0:=qX h us (wC C v) (wV V v false) (qbY hC h1.1 h1.2) (qbZ false hV h1.1 h1.2) (by omega) (fun x hx=>hv x (List.mem_cons_of_mem _ hx))
      have ih1:=qX h us (wC C v) (wV V v true) (qbY hC h1.1 h1.2) (qbZ true hV h1.1 h1.2) (by omega) (fun x hx=>hv x (List.mem_cons_of_mem _ hx))
      have w0:=qbl (v:=v) false hC hV h1.1 h1.2
      have w1:=qbl (v:=v) true hC hV h1.1 h1.2
      refine qc (fun h2=>e (hn.1 h2)) (qc (by omega) ?_)
      rw [hwr,hrd,htk]
      refine qa (by omega) (qa (by omega) (qa (by omega) ?_))
      rw [show (0:Int)=((false.toNat:Nat):Int) from rfl,w0]
      refine Ev.bind (Ev.now _) (Ev.bind ih0 ?_)
      rw [show (1:Int)=((true.toNat:Nat):Int) from rfl,w1]
      exact Ev.bind (Ev.now _) (Ev.bind ih1 (Ev.now _))
theorem qb6 {t:S34} (h:VT t.f0 t.f1) {C V:Nat} (hc:∀ w,w∈t.f0→C.testBit w.toNat=true):fl t C V=!hs t.f0 t.f1 V:=by
  unfold fl hs
  congr 1
  rw [Bool.eq_iff_iff,List.any_eq_true,decide_eq_true_eq]
  have key:∀ r:Nat,r<2 ^ t.f0.length→r&&& row t.f0 C=r:=by
    intro r hr
    apply Nat.eq_of_testBit_eq
    intro j
    rw [Nat.testBit_and]
    by_cases hj:j<t.f0.length
    · have:(row t.f0 C).testBit j=true:=(ql _ _ _).2 ⟨_,List.getElem?_eq_getElem hj,hc _ (List.getElem_mem hj)⟩
      rw [this,Bool.and_true]
    · rw [Nat.testBit_lt_two_pow (Nat.lt_of_lt_of_le hr (Nat.pow_le_pow_right (by decide) (by omega))),Bool.false_and]
  constructor
  · rintro ⟨r,hr,e⟩
    have hro:=h.row_of hr
    rw [key _ hro.2.1,beq_iff_eq] at e
    rw [← e,← qo hro.1];exact hr
  · intro hm
    exact ⟨_,hm,by rw [Int.toNat_natCast,key _ (qQ _ _)];simp⟩
theorem qbT {t:S34} {C V a:Nat} (hf:fl t C V=true) (ha:∀ w,w∈t.f0→V.testBit w.toNat=(a.testBit w.toNat&&C.testBit w.toNat)):hs t.f0 t.f1 a=false:=by
  rw [Bool.eq_false_iff]
  intro hh
  unfold fl at hf
  rw [Bool.not_eq_true',List.any_eq_false] at hf
  have hm:((row t.f0 a:Nat):Int)∈t.f1:=by simpa [hs] using hh
  refine hf _ hm ?_
  rw [Int.toNat_natCast,beq_iff_eq]
  apply Nat.eq_of_testBit_eq
  intro j
  rw [Nat.testBit_and,Bool.eq_iff_iff,Bool.and_eq_true,ql,ql,ql]
  constructor
  · rintro ⟨⟨v,hv,h1⟩,u,hu,h2⟩
    rw [hv] at hu
    injection hu with hu
    subst hu
    exact ⟨v,hv,by rw [ha v (List.mem_of_getElem? hv),h1,h2];rfl⟩
  · rintro ⟨v,hv,h1⟩
    rw [ha v (List.mem_of_getElem? hv),Bool.and_eq_true] at h1
    exact ⟨⟨v,hv,h1.1⟩,v,hv,h1.2⟩
def sat (l:List S34) (a:Nat):Bool:=l.all fun t=>hs t.f0 t.f1 a
def sl (l:List S34) (us:List Int) (V:Nat):List Nat:=((List.range (2 ^ us.length)).map fun i=>asg us i||| V).filter (sat l)
theorem qae {hi:Int}:∀ {us ws:List Int} {p:Option Int},Chn hi p (us++ws)→Chn hi p us
  | [],_,_,_=>trivial
  | _ :: us,ws,_,⟨h0,h1,h2,h3⟩=>⟨h0,h1,h2,qae h3⟩
theorem qa3 {hi:Int} {us:List Int} {v:Int} (h:Chn hi none (us++[v])) (i:Nat) (V:Nat) :
    (i<2 ^ us.length→asg (us++[v]) i||| V=asg us i||| V)∧(i<2 ^ us.length→asg (us++[v]) (2 ^ us.length+i)||| V=asg us i||| (V||| 2 ^ v.toNat)):=by
  have hu:=qae h
  have gl:∀ (m:Nat) (w:Int),(us++[v])[m]?=some w↔us[m]?=some w∨(m=us.length∧w=v):=by
    intro m w
    by_cases hm:m<us.length
    · rw [List.getElem?_append_left hm]
      exact ⟨.inl,fun hh=>hh.elim id (fun ⟨e,_⟩=>by omega)⟩
    · rw [List.getElem?_append_right (by omega),List.getElem?_eq_none (by omega:us.length≤m)]
      by_cases e:m=us.length
      · subst e;simp [eq_comm]
      · rw [List.getElem?_eq_none (by simp;omega)];simp [e]
  have gb:∀ m,us[m]?≠none→m<us.length:=fun m hm=>by
    rcases Nat.lt_or_ge m us.length with h|h
    · exact h
    · exact absurd (List.getElem?_eq_none h) hm
  constructor
  · intro hi2
    apply Nat.eq_of_testBit_eq
    intro j
    rw [Nat.testBit_or,Nat.testBit_or]
    congr 1
    rw [Bool.eq_iff_iff,qj h,qj hu]
    constructor
    · rintro ⟨m,w,hm,rfl,hb⟩
      rcases (gl m w).1 hm with h1|⟨rfl,rfl⟩
      · exact ⟨m,w,h1,rfl,hb⟩
      · rw [Nat.testBit_lt_two_pow hi2] at hb;exact absurd hb (by simp)
    · rintro ⟨m,w,hm,rfl,hb⟩
      exact ⟨m,w,(gl m w).2 (.inl hm),rfl,hb⟩
  · intro hi2
    have hbit:∀ m,(2 ^ us.length+i).testBit m=(i.testBit m||m == us.length):=by
      intro m
      have:=qas true i us.length hi2 m
      simp only [Bool.toNat_true,Nat.one_mul,Bool.true_and] at this
      rw [Nat.add_comm]
      exact this
    apply Nat.eq_of_testBit_eq
    intro j
    rw [Nat.testBit_or,Nat.testBit_or,Nat.testBit_or,Nat.testBit_two_pow]
    have e:(asg (us++[v]) (2 ^ us.length+i)).testBit j=((asg us i).testBit j||decide (v.toNat=j)):=by
      rw [Bool.eq_iff_iff,qj h,Bool.or_eq_true,qj hu,decide_eq_true_eq]
      constructor
      · rintro ⟨m,w,hm,rfl,hb⟩
        rcases (gl m w).1 hm with h1|⟨rfl,rfl⟩
        · rw [hbit] at hb
          have:=gb m (by rw [h1];simp)
          rw [show (m == us.length)=false from by simp;omega,Bool.or_false] at hb
          exact .inl ⟨m,w,h1,rfl,hb⟩
        · exact .inr rfl
      · rintro (⟨m,w,hm,rfl,hb⟩|rfl)
        · exact ⟨m,w,(gl m w).2 (.inl hm),rfl,by rw [hbit,hb,Bool.true_or]⟩
        · exact ⟨us.length,v,(gl _ _).2 (.inr ⟨rfl,rfl⟩),rfl,by rw [hbit];simp⟩
    rw [e]
    cases (asg us i).testBit j <;> cases V.testBit j <;> cases decide (v.toNat=j) <;> rfl
theorem qbm (l:List S34) {hi:Int} {us:List Int} {v:Int} (h:Chn hi none (us++[v])) (V:Nat):sl l (us++[v]) V=sl l us V++sl l us (V||| 2 ^ v.toNat):=by
  unfold sl
  rw [List.length_append,List.length_singleton,Nat.pow_succ,Nat.mul_two,List.range_add,List.map_append,List.filter_append,List.map_map]
  congr 1
  · congr 1
    exact List.map_congr_left (fun i hi2=>(qa3 h i V).1 (List.mem_range.1 hi2))
  · congr 1
    exact List.map_congr_left (fun i hi2=>(qa3 h i V).2 (List.mem_range.1 hi2))
theorem qz (v:Int) (ws:List Int) (j:Nat):(qg (v :: ws) 0).testBit j=((qg ws 0).testBit j||v.toNat == j):=by
  rw [qt,qt,List.any_cons,Nat.zero_testBit,Bool.false_or,Bool.false_or,Bool.or_comm]
theorem qaw {l:List S34} (h:VS l):∀ (us ws:List Int) (V:Nat),occ l=us.reverse++ws→(∀ j,V.testBit j=true→(qg ws 0).testBit j=true)→qW l us (qg ws 0) V=(sl l us.reverse V).map fun a:Nat=>(a:Int)
  | [],ws,V,ho,hv=>by
    have hw:ws=occ l:=by simpa using ho.symm
    have e:(l.any fun t=>fl t (qg ws 0) V)=!sat l V:=by
      unfold sat
      rw [List.not_all_eq_any_not,Bool.eq_iff_iff,List.any_eq_true,List.any_eq_true]
      have hx:∀ t,t∈l→fl t (qg ws 0) V=!hs t.f0 t.f1 V:=fun t ht=>qb6 (h.tab t ht) (fun w hw2=>by
        rw [qt,Nat.zero_testBit,Bool.false_or,List.any_eq_true]
        exact ⟨w,by rw [hw,h.occ.2];exact List.mem_flatMap.2 ⟨t,ht,hw2⟩,by simp⟩)
      exact ⟨fun ⟨t,ht,h2⟩=>⟨t,ht,by rw [← hx t ht];exact h2⟩,fun ⟨t,ht,h2⟩=>⟨t,ht,by rw [hx t ht];exact h2⟩⟩
    rw [qW,e]
    have hz:sl l [] V=if sat l V=true then [V] else []:=by
      unfold sl
      have:asg [] 0=0:=rfl
      simp only [List.length_nil,Nat.pow_zero,List.range_one,List.map_cons,List.map_nil,this,Nat.zero_or,List.filter_cons,List.filter_nil]
    rw [List.reverse_nil,hz]
    cases sat l V <;> simp
  | v :: us,ws,V,ho,hv=>by
    have ho2:occ l=us.reverse++(v :: ws):=by rw [ho];simp
    have hc:=h.occ.1
    rw [ho] at hc
    have hch:=qae hc
    rw [List.reverse_cons] at hch
    rw [qW]
    have hvb:V.testBit v.toNat=false:=by
      rw [Bool.eq_false_iff]
      intro hb
      have hm:=hv _ hb
      rw [qt,Nat.zero_testBit,Bool.false_or,List.any_eq_true] at hm
      obtain ⟨w,hw,e⟩:=hm
      have hw2:w.toNat=v.toNat:=by simpa using e
      have hall:=h.occ.1
      rw [ho2] at hall
      obtain ⟨m,hm⟩:=List.getElem?_of_mem hw
      have i1:(us.reverse++(v :: ws))[us.reverse.length]?=some v:=by rw [List.getElem?_append_right (by omega)];simp
      have i2:(us.reverse++(v :: ws))[us.reverse.length+(m+1)]?=some w:=by rw [List.getElem?_append_right (by omega)];simpa using hm
      have:=hall.inj _ _ _ _ i1 i2 hw2.symm
      omega
    have eC:wC (qg ws 0) v=qg (v :: ws) 0:=by
      apply Nat.eq_of_testBit_eq
      intro j
      rw [qa1,qz]
    have e0:wV V v false=V:=by
      apply Nat.eq_of_testBit_eq
      intro j
      rw [qa2,Bool.false_and,Bool.or_false]
      by_cases e:v.toNat=j
      · subst e;rw [hvb,Bool.false_and]
      · have:(v.toNat == j)=false:=by simpa using e
        rw [this];simp
    have e1:wV V v true=V||| 2 ^ v.toNat:=by
      apply Nat.eq_of_testBit_eq
      intro j
      rw [qa2,Bool.true_and,Nat.testBit_or,Nat.testBit_two_pow]
      have e:decide (v.toNat=j)=(v.toNat == j):=rfl
      rw [e]
      cases V.testBit j <;> cases (v.toNat == j) <;> rfl
    have ih0:=qaw h us (v :: ws) V ho2 (fun j hj=>by rw [qz,hv j hj,Bool.true_or])
    have ih1:=qaw h us (v :: ws) (V||| 2 ^ v.toNat) ho2 (fun j hj=>by
      rw [qz]
      rw [Nat.testBit_or,Nat.testBit_two_pow,Bool.or_eq_true] at hj
      rcases hj with hj|hj
      · rw [hv j hj,Bool.true_or]
      · have e:(v.toNat == j)=true:=hj
        rw [e,Bool.or_true])
    rw [List.reverse_cons,qbm l hch,List.map_append,eC,e0,e1,ih0,ih1]
    by_cases e:(l.any fun t=>fl t (qg ws 0) V)=true
    · rw [if_pos e,← List.map_append,← qbm l hch]
      obtain ⟨t,ht,hf⟩:=List.any_eq_true.1 e
      have hnil:sl l (us.reverse++[v]) V=[]:=by
        unfold sl
        rw [List.filter_eq_nil_iff]
        intro a ha
        obtain ⟨i,hi2,rfl⟩:=List.mem_map.1 ha
        have:hs t.f0 t.f1 (asg (us.reverse++[v]) i||| V)=false:=by
          refine qbT hf (fun w hw=>?_)
          rw [Nat.testBit_or]
          by_cases hm:(qg ws 0).testBit w.toNat=true
          · rw [hm,Bool.and_true]
            have:(asg (us.reverse++[v]) i).testBit w.toNat=false:=by
              rw [Bool.eq_false_iff]
              intro hb
              obtain ⟨m,u,hu,eu,_⟩:=(qj hch i _).1 hb
              rw [qt,Nat.zero_testBit,Bool.false_or,List.any_eq_true] at hm
              obtain ⟨x,hx,ex⟩:=hm
              have ex2:x.toNat=w.toNat:=by simpa using ex
              obtain ⟨n,hn⟩:=List.getElem?_of_mem hx
              have hml:m<(us.reverse++[v]).length:=(List.getElem?_eq_some_iff.1 hu).1
              have hall:=h.occ.1
              rw [ho,List.reverse_cons] at hall
              have i1:((us.reverse++[v])++ws)[m]?=some u:=by rw [List.getElem?_append_left hml];exact hu
              have i2:((us.reverse++[v])++ws)[(us.reverse++[v]).length+n]?=some x:=by rw [List.getElem?_append_right (by omega)];simpa using hn
              have:=hall.inj _ _ _ _ i1 i2 (by omega)
              omega
            rw [this,Bool.false_or]
          · rw [Bool.not_eq_true] at hm
            have hvf:V.testBit w.toNat=false:=by
              rw [Bool.eq_false_iff]
              intro hb
              rw [hv _ hb] at hm
              exact absurd hm (by simp)
            rw [hm,Bool.and_false,hvf]
        unfold sat
        rw [Bool.not_eq_true,List.all_eq_false]
        exact ⟨t,ht,by rw [this];simp⟩
      rw [hnil];rfl
    · rw [if_neg e]
def SS (l:List S34):List Int:=(sl l (occ l) 0).map fun a:Nat=>(a:Int)
theorem qa4 {l:List S34} (h:VS l):Ev (fun k=>solve_search.f k l (occ l) 0 0) (SS l):=by
  have h1:=qX h (occ l).reverse 0 0 (by decide) (by decide) (by rw [List.length_reverse];exact h.occ_len) (fun v hv=>h.occ' v (List.mem_reverse.1 hv))
  rw [List.reverse_reverse] at h1
  refine qf h1 ?_
  have:=qaw h (occ l).reverse [] 0 (by simp) (fun j hj=>by simp at hj)
  rw [List.reverse_reverse] at this
  exact this

def solve_All.of (s:List Int):List Int×Int:=if s.length≤1000 then (s,0) else ([],3)

def qr (l:List S34):Int×Int:=if qi l=0 then solve_First.of (SS l) else (0,qi l)
def qD (l:List S34):List Int×Int:=if qi l=0 then solve_All.of (SS l) else ([],qi l)
theorem qw (l:List S34) (hs:Sm l) (hl:l.length≤1000):Ev (fun k=>solve_First.f k l) (qr l):=
  Ev.bind (qv l hs hl) (qd (fun h=>Ev.bind (qai l hs hl) (Ev.bind (qa4 ((qe l).1 h)) (Ev.now _))) (fun _=>Ev.now _))
theorem qaa (l:List Int) (hl:(l.length:Int)≤9223372036854775807):∀ (d i:Nat),i+d=l.length→Ev (fun k=>slices_Equal_int_int.l0 k l l l.length i) true
  | 0,i,h=>Ev.step (f:=fun _=>some true) (fun k=>by rw [slices_Equal_int_int.l0,if_neg (by omega)]) (Ev.now _)
  | d+1,i,h=>by
    have hw:=qb i l.length (by omega) hl
    exact Ev.step (fun k=>by rw [slices_Equal_int_int.l0,if_pos (by omega),if_pos (by omega),if_pos (by omega),if_pos (by omega),if_pos rfl,hw]) (qaa l hl d (i+1) (by omega))
theorem qaJ (l:List Int) (hl:(l.length:Int)≤9223372036854775807):Ev (fun k=>slices_Equal_int_int.f k l l) true:=qa rfl (qaa l hl l.length 0 (by omega))

theorem qaK {l:List S34} (h:VS l) (most:Int) (vars out:List Int) (i a:Nat) (hi:i<16777216) (ho:out.length<17592186044416) (r:List Int):∀ (d j:Nat),j+d=l.length→
    (sat (l.drop j) a=true→Ev (fun k=>ancepsref40_solutions.l0 k l most vars (out++[(a:Int)]) ((i+1:Nat):Int)) r)→(sat (l.drop j) a=false→Ev (fun k=>ancepsref40_solutions.l0 k l most vars out ((i+1:Nat):Int)) r)→
    Ev (fun k=>ancepsref40_solutions.l1 k l most vars out i (a:Int) true j) r
  | 0,j,hd,h1,h2=>by
    rw [List.drop_eq_nil_of_le (by omega)] at h1
    have hw:wrap64 ((i:Int)+1)=((i+1:Nat):Int):=by rw [qh _ (by omega)];omega
    exact Ev.step (fun k=>by rw [ancepsref40_solutions.l1,if_neg (by omega),if_pos rfl,if_pos ho,hw]) (h1 rfl)
  | d+1,j,hd,h1,h2=>by
    have hj:j<l.length:=by omega
    have hl:=h.len
    have hw:wrap64 ((i:Int)+1)=((i+1:Nat):Int):=by rw [qh _ (by omega)];omega
    have hwj:=qb j l.length hj (by omega)
    have hm:=h.tab _ (qq l j hj)
    have e:sat (l.drop j) a=(hs (rd_T34 l j).f0 (rd_T34 l j).f1 a&&sat (l.drop (j+1)) a):=by
      unfold sat
      rw [qs l j hj,List.all_cons]
    rw [e] at h1 h2
    refine Ev.step (fun k=>by rw [ancepsref40_solutions.l1,if_pos (by omega),if_pos rfl,if_pos (by omega),hwj]) (Ev.bind (qbQ hm a) ?_)
    cases c:hs (rd_T34 l j).f0 (rd_T34 l j).f1 a
    · rw [c] at h2
      have h2:=h2 rfl
      by_cases hj2:((j+1:Nat):Int)<(l.length:Int)
      · exact Ev.step (fun k=>by rw [ancepsref40_solutions.l1,if_pos hj2,if_neg Bool.false_ne_true,hw]) h2
      · exact Ev.step (fun k=>by rw [ancepsref40_solutions.l1,if_neg hj2,if_neg Bool.false_ne_true,hw]) h2
    · rw [c,Bool.true_and] at h1 h2
      exact qaK h most vars out i a hi ho r d (j+1) (by omega) h1 h2
theorem qY {l:List S34} (h:VS l) {vars:List Int} (hc:Chn 24 none vars) (hv:vars.length≤24) (most:Nat) (hm:most≤40000000):∀ (d i:Nat) (out:List Int),i+d=2 ^ vars.length→out.length≤i→out.length≤most→
    Ev (fun k=>ancepsref40_solutions.l0 k l (most:Int) vars out i) ((out++(((List.range' i d).map fun i=>asg vars i).filter (sat l)).map fun a:Nat=>(a:Int)).take most)
  | 0,i,out,hd,ho,hom=>by
    have hs1:=qJ vars.length (by omega)
    have hp:2 ^ vars.length≤16777216:=Nat.le_trans (Nat.pow_le_pow_right (by decide) hv) (by decide)
    rw [show List.range' i 0=[] from rfl,List.map_nil,List.filter_nil,List.map_nil,List.append_nil,List.take_of_length_le hom]
    exact Ev.step (f:=fun _=>some out) (fun k=>by rw [ancepsref40_solutions.l0,hs1,if_neg (by omega)]) (Ev.now _)
  | d+1,i,out,hd,ho,hom=>by
    have hs1:=qJ vars.length (by omega)
    have hp:2 ^ vars.length≤16777216:=Nat.le_trans (Nat.pow_le_pow_right (by decide) hv) (by decide)
    by_cases hlt:(out.length:Int)<(most:Int)
    · refine Ev.step (fun k=>by rw [ancepsref40_solutions.l0,hs1,if_pos (by omega),if_pos hlt]) (Ev.bind (qb3 hc hv i) ?_)
      rw [List.range'_succ,List.map_cons,List.filter_cons]
      refine qaK h _ vars out i (asg vars i) (by omega) (by omega) _ l.length 0 (by omega) (fun e=>?_) (fun e=>?_)
      · rw [List.drop_zero] at e
        have ih:=qY h hc hv most hm d (i+1) (out++[((asg vars i:Nat):Int)]) (by omega) (by simp;omega) (by simp;omega)
        rw [if_pos e,List.map_cons]
        rw [List.append_assoc,List.singleton_append] at ih
        exact ih
      · rw [List.drop_zero] at e
        have ih:=qY h hc hv most hm d (i+1) out (by omega) (by omega) hom
        rw [if_neg (by rw [e];simp)]
        exact ih
    · refine qf (Ev.step (f:=fun _=>some out) (fun k=>by rw [ancepsref40_solutions.l0,hs1,if_pos (by omega),if_neg hlt]) (Ev.now _)) ?_
      rw [List.take_append_of_le_length (by omega),List.take_of_length_le (by omega)]
theorem qbn {l:List S34} (h:VS l) (hs:Sm l) (most:Nat) (hm:most≤40000000):Ev (fun k=>ancepsref40_solutions.f k l (most:Int)) ((SS l).take most):=by
  refine Ev.bind (qad h hs) ?_
  have:=qY h h.occ.1 h.occ_len most hm (2 ^ (occ l).length) 0 [] (by omega) (by simp) (by simp)
  rw [List.nil_append,← List.range_eq_range'] at this
  refine qf this ?_
  unfold SS sl
  simp only [Nat.or_zero]

theorem qbE (l:List S34) (hs:Sm l) (hl:l.length≤1000):Ev (fun k=>ancepsref40_First.f k l) (qr l):=by
  refine Ev.bind (qn l hs hl) (qd (fun h=>Ev.bind (show Ev (fun k=>ancepsref40_solutions.f k l 1) ((SS l).take 1) from qbn ((qe l).1 h) hs 1 (by decide)) ?_) (fun _=>Ev.now _))
  cases SS l with
  | nil=>exact qa rfl (Ev.now _)
  | cons x xs=>exact qc (by simp) (qa (by simp) (Ev.now _))
theorem qbo (l:List S34) (hs:Sm l) (hl:l.length≤1000):Ev (fun k=>ancepsref40_All.f k l) (qD l):=by
  refine Ev.bind (qn l hs hl) (qd (fun h=>Ev.bind (show Ev (fun k=>ancepsref40_solutions.f k l 1001) ((SS l).take 1001) from qbn ((qe l).1 h) hs 1001 (by decide)) ?_) (fun _=>Ev.now _))
  unfold solve_All.of
  by_cases hle:(SS l).length≤1000
  · rw [if_pos hle,List.take_of_length_le (by omega)]
    exact qc (by omega) (Ev.now _)
  · rw [if_neg hle]
    exact qa (by rw [List.length_take];omega) (Ev.now _)
def vrs (l:List S34):List Int:=if qi l=0 then occ l else []
theorem qO (l:List S34) (hs:Sm l) (hl:l.length≤1000):Ev (fun k=>solve_Vars.f k l) (vrs l):=
  Ev.bind (qv l hs hl) (qd (fun _=>Ev.bind (qai l hs hl) (Ev.now _)) (fun _=>Ev.now _))
theorem qbF (l:List S34) (hs:Sm l) (hl:l.length≤1000):Ev (fun k=>ancepsref40_Vars.f k l) (vrs l):=by
  unfold vrs
  by_cases h:qi l=0
  · rw [if_pos h];exact qad ((qe l).1 h) hs
  · rw [if_neg h];exact Ev.bind (qn l hs hl) (qc h (Ev.now _))
theorem qa5 (l:List S34):(qD l).1.length≤1000:=by
  unfold qD solve_All.of
  repeat' split
  · assumption
  · simp
  · simp
theorem qbp (l:List S34):(vrs l).length≤1000:=by
  unfold vrs
  split
  · rename_i h;have:=((qe l).1 h).occ_len;omega
  · simp
theorem qP (l:List Int) (h:l.length<17592186044416):slices_Clone_int_int.f l=some l:=by
  unfold slices_Clone_int_int.f
  simp only [Option.bind_some,List.length_nil,List.nil_append,if_pos (show 0+l.length<17592186044416 by omega)]

def giv (l:List S34) (v x:Int):List S34×Int:=if qi l=0 then (if v<0 then ([],6) else if v≥24 then ([],6) else if x<0 then ([],6) else if x>1 then ([],6) else if (l.length:Int)=16 then ([],3) else (l++[⟨[v],[x]⟩],0)) else ([],qi l)
theorem qao (l:List S34) (hs:Sm l) (hl:l.length≤1000) (v x:Int):∀ (d i:Nat) (acc:List S34),i+d=l.length→acc.length≤i→Ev (fun k=>solve_Given.l0 k v x acc l l.length i) ((acc++l.drop i)++[⟨[v],[x]⟩],0)
  | 0,i,acc,h,ha=>by
    rw [List.drop_eq_nil_of_le (by omega),List.append_nil]
    exact Ev.step (fun k=>by rw [solve_Given.l0,if_neg (by omega),if_pos (by omega)]) (Ev.now _)
  | d+1,i,acc,h,ha=>by
    have hi:i<l.length:=by omega
    have hw:=qb i l.length hi (by omega)
    have hm:=hs _ (qq l i hi)
    have ih:=qao l hs hl v x d (i+1) (acc++[rd_T34 l i]) (by omega) (by simp;omega)
    rw [List.append_assoc acc,List.singleton_append,← qs l i hi] at ih
    refine Ev.step (fun k=>?_) ih
    rw [solve_Given.l0,if_pos (by omega),if_pos (by omega),if_pos (by omega),qP _ (by omega),qP _ (by omega),hw]
    simp only [Option.bind_some]
    rw [if_pos (by omega)]
theorem q4 (l:List S34) (hs:Sm l) (hl:l.length≤1000) (v x:Int):Ev (fun k=>solve_Given.f k l v x) (giv l v x):=by
  refine Ev.bind (qv l hs hl) (qd (fun _=>qd (fun _=>Ev.now _) (fun _=>qd (fun _=>Ev.now _) (fun _=>qd (fun _=>Ev.now _) (fun _=>qd (fun _=>Ev.now _) (fun _=>qd (fun _=>Ev.now _) (fun _=>?_)))))) (fun _=>Ev.now _))
  have:=qao l hs hl v x l.length 0 [] (by omega) (by simp)
  rw [List.drop_zero,List.nil_append] at this
  exact this
theorem qbG {l:List S34} (hs:Sm l) (hl:l.length≤100) (v x:Int):Sm (giv l v x).1∧(giv l v x).1.length≤1000:=by
  have h0:Sm []:=fun t ht=>by simp at ht
  unfold giv
  repeat' split
  all_goals first|exact ⟨h0,by simp⟩|skip
  refine ⟨fun t ht=>?_,by simp;omega⟩
  rcases List.mem_append.1 ht with h|h
  · exact hs t h
  · rw [List.mem_singleton.1 h];exact ⟨by simp,by simp⟩
theorem qbH {l:List S34} (h:VS l) (a:Nat):(a:Int)∈SS l↔sat l a=true∧a&&& (a ^^^ qg (occ l) 0)=0:=by
  unfold SS sl
  constructor
  · intro hm
    obtain ⟨b,hb,e⟩:=List.mem_map.1 hm
    have e':b=a:=by omega
    subst e'
    obtain ⟨h1,h2⟩:=List.mem_filter.1 hb
    refine ⟨h2,?_⟩
    obtain ⟨i,hi,rfl⟩:=List.mem_map.1 h1
    have hi':=List.mem_range.1 hi
    rw [Nat.or_zero]
    rw [← qN h.occ.1,qbf h.occ.1 hi']
  · rintro ⟨h1,h2⟩
    rw [← qN h.occ.1] at h2
    exact List.mem_map.2 ⟨a,List.mem_filter.2 ⟨List.mem_map.2 ⟨row (occ l) a,List.mem_range.2 (qQ _ _),by rw [Nat.or_zero];exact h2⟩,h1⟩,rfl⟩
def Free (C V:Nat) (vs:List Int):Prop:=(∀ j,V.testBit j=true→C.testBit j=true)∧∀ v,v∈vs→C.testBit v.toNat=false
theorem Free.step {C V:Nat} {v:Int} {vs:List Int} {hi:Int} {p:Option Int} (h:Free C V (v :: vs)) (hc:Chn hi p (v :: vs)) (h0:∀ w,w∈v :: vs→0≤w) (b:Bool):Free (wC C v) (wV V v b) vs:=by
  refine ⟨fun j hj=>?_,fun w hw=>?_⟩
  · rw [qa2] at hj
    rw [qa1]
    by_cases e:v.toNat=j
    · simp [e]
    · simp [e] at hj
      rw [h.1 j hj];rfl
  · have hlt:v<w:=by
      obtain ⟨i,hi',e⟩:=List.getElem_of_mem hw
      exact hc.below 0 (i+1) v w (by omega) rfl (by simp [List.getElem?_eq_getElem hi',e])
    have h1:=h0 v (.head _)
    rw [qa1,h.2 w (.tail _ hw)]
    simp;omega
theorem qaL:∀ (k x y:Nat),x.testBit k=false→y.testBit k=true→(∀ m,k<m→x.testBit m=y.testBit m)→x<y
  | 0,x,y,h1,h2,h3=>by
    have e:x / 2=y / 2:=Nat.eq_of_testBit_eq (fun i=>by rw [← Nat.testBit_succ,← Nat.testBit_succ];exact h3 _ (by omega))
    rw [Nat.testBit_zero] at h1 h2
    simp at h1 h2
    omega
  | k+1,x,y,h1,h2,h3=>by
    rw [Nat.testBit_succ] at h1 h2
    have:=qaL k (x / 2) (y / 2) h1 h2 (fun m hm=>by rw [← Nat.testBit_succ,← Nat.testBit_succ];exact h3 _ (by omega))
    omega
theorem qaM:∀ (n x y:Nat),y<n→x<y→∃ k,x.testBit k=false∧y.testBit k=true∧∀ m,k<m→x.testBit m=y.testBit m
  | 0,x,y,hn,h=>by omega
  | n+1,x,y,hn,h=>by
    by_cases e:x / 2=y / 2
    · refine ⟨0,?_,?_,fun m hm=>?_⟩
      · rw [Nat.testBit_zero];simp;omega
      · rw [Nat.testBit_zero];simp;omega
      · obtain ⟨m,rfl⟩:∃ m',m=m'+1:=⟨m - 1,by omega⟩
        rw [Nat.testBit_succ,Nat.testBit_succ,e]
    · obtain ⟨k,h1,h2,h3⟩:=qaM n (x / 2) (y / 2) (by omega) (by omega)
      refine ⟨k+1,by rw [Nat.testBit_succ];exact h1,by rw [Nat.testBit_succ];exact h2,fun m hm=>?_⟩
      obtain ⟨m,rfl⟩:∃ m',m=m'+1:=⟨m - 1,by omega⟩
      rw [Nat.testBit_succ,Nat.testBit_succ]
      exact h3 m (by omega)
theorem qbU {hi:Int} {us:List Int} (h:Chn hi none us) {i j:Nat} (hj:j<2 ^ us.length) (hij:i<j):asg us i<asg us j:=by
  obtain ⟨k,h1,h2,h3⟩:=qaM (j+1) i j (by omega) hij
  have hk:k<us.length:=Classical.byContradiction fun hn=>by
    rw [Nat.testBit_lt_two_pow (Nat.lt_of_lt_of_le hj (Nat.pow_le_pow_right (by decide) (by omega)))] at h2
    cases h2
  have hv:=List.getElem?_eq_getElem hk
  have at1:∀ r:Nat,∀ m w,us[m]?=some w→(asg us r).testBit w.toNat=r.testBit m:=fun r m w hm=>by
    rw [Bool.eq_iff_iff,qj h]
    constructor
    · rintro ⟨m',w',hm',e,hb⟩
      have:=h.inj m m' w w' hm hm' e
      subst this;exact hb
    · exact fun hb=>⟨m,w,hm,rfl,hb⟩
  refine qaL us[k].toNat _ _ (by rw [at1 i k _ hv];exact h1) (by rw [at1 j k _ hv];exact h2) (fun m hm=>?_)
  rw [Bool.eq_iff_iff,qj h,qj h]
  have key:∀ a b:Nat,(∀ m,k<m→a.testBit m=b.testBit m)→(∃ q w,us[q]?=some w∧m=w.toNat∧a.testBit q=true)→∃ q w,us[q]?=some w∧m=w.toNat∧b.testBit q=true:=fun a b hab ⟨q,w,hq,e,hb⟩=>by
    refine ⟨q,w,hq,e,?_⟩
    have hkq:k<q:=Classical.byContradiction fun hn=>by
      rcases Nat.lt_or_ge q k with h4|h4
      · have h5:=h.below q k w us[k] h4 hq hv
        have h6:=(h.mem w (List.mem_of_getElem? hq)).1
        omega
      · have:q=k:=by omega
        subst this
        rw [hv] at hq
        cases hq
        omega
    rw [← hab q hkq];exact hb
  exact ⟨key i j h3,key j i (fun m hm=>(h3 m hm).symm)⟩
theorem qci (l:List S34) {hi:Int} {us:List Int} (h:Chn hi none us):(sl l us 0).Pairwise (·<·):=by
  unfold sl
  refine List.Pairwise.filter _ ?_
  rw [List.pairwise_map]
  refine List.Pairwise.imp_of_mem (fun {a b} ha hb hab=>?_) List.pairwise_lt_range
  rw [Nat.or_zero,Nat.or_zero]
  exact qbU h (List.mem_range.1 hb) hab
def qcv (P:List Int→Bool) (out:List (List Int)) (s:List Int):List (List Int):=if (out.any fun o=>o.all fun x=>decide (x∈s))=true then out else if P s=true then out++[s] else out
theorem qcj {l:List S34} (h:VS l):SS l≠[]↔∃ a,sat l a=true:=by
  unfold SS sl
  constructor
  · intro hn
    obtain ⟨x,hx⟩:=List.exists_mem_of_ne_nil _ hn
    obtain ⟨a,ha,_⟩:=List.mem_map.1 hx
    exact ⟨a,(List.mem_filter.1 ha).2⟩
  · rintro ⟨a,ha⟩ hn
    have hb:sat l (asg (occ l) (row (occ l) a)||| 0)=true:=by
      rw [Nat.or_zero]
      refine List.all_eq_true.2 (fun t ht=>?_)
      have:=List.all_eq_true.1 ha t ht
      rw [← this]
      exact qbP _ _ (fun w hw=>qch h.occ.1 a ((h.occ.2 w).2 (List.mem_flatMap.2 ⟨t,ht,hw⟩)))
    have:(asg (occ l) (row (occ l) a)||| 0)∈((List.range (2 ^ (occ l).length)).map fun i=>asg (occ l) i||| 0).filter (sat l):=List.mem_filter.2 ⟨List.mem_map.2 ⟨_,List.mem_range.2 (qQ _ _),rfl⟩,hb⟩
    rw [List.map_eq_nil_iff] at hn
    rw [hn] at this
    cases this
theorem qbV {l:List S34} (h:VS l):(qr l).2=0↔∃ a,sat l a=true:=by
  rw [← qcj h]
  unfold qr
  rw [if_pos ((qe l).2 h)]
  cases SS l with
  | nil=>exact ⟨fun e=>absurd e (by decide),fun e=>absurd rfl e⟩
  | cons x xs=>exact ⟨fun _ e=>(by cases e),fun _=>rfl⟩
def gvl (l:List S34):Int:=if qi l=0 then (if (l.length:Int)>15 then 3 else 0) else qi l
theorem qck {l:List S34} (h:gvl l=0):VS l∧l.length≤15:=by
  unfold gvl at h
  by_cases e:qi l=0
  · rw [if_pos e] at h
    by_cases e2:(l.length:Int)>15
    · rw [if_pos e2] at h;cases h
    · exact ⟨(qe l).1 e,by omega⟩
  · rw [if_neg e] at h;exact absurd h e
theorem qaN (l:List S34) (hs:Sm l) (hl:l.length≤1000):∀ (d i:Nat),i+d=l.length→Ev (fun k=>shared_given.l0 k l l l.length i) (if qp (l.drop i)=0 then (if (l.length:Int)>15 then 3 else 0) else qp (l.drop i))
  | 0,i,h=>by
    rw [List.drop_eq_nil_of_le (by omega)]
    show Ev (fun k=>shared_given.l0 k l l l.length i) (if (l.length:Int)>15 then 3 else 0)
    have hE:Ev (fun k=>if (l.length:Int)>15 then some 3 else some 0) (if (l.length:Int)>15 then (3:Int) else 0):=qd (fun _=>Ev.now _) (fun _=>Ev.now _)
    exact Ev.step (fun k=>by rw [shared_given.l0,if_neg (by omega)]) hE
  | d+1,i,h=>by
    have hi:i<l.length:=by omega
    have hw:=qb i l.length hi (by omega)
    have hm:=hs _ (qq l i hi)
    have ih:=qaN l hs hl d (i+1) (by omega)
    rw [qs l i hi,qp]
    refine Ev.step (fun k=>by rw [shared_given.l0,if_pos (by omega),if_pos (by omega),if_pos (by omega),hw]) (Ev.bind (qab _ _ (by omega) (by omega)) ?_)
    by_cases e:qu (rd_T34 l i).f0 (rd_T34 l i).f1=0
    · rw [if_pos e];exact qa e ih
    · rw [if_neg e,if_neg e];exact qc e (Ev.now _)
theorem q5 (l:List S34) (hs:Sm l) (hl:l.length≤1000):Ev (fun k=>shared_given.f k l) (gvl l):=by
  unfold gvl qi
  by_cases e:(l.length:Int)>16
  · rw [if_pos e];exact qa e (Ev.now _)
  · rw [if_neg e]
    have:=qaN l hs hl l.length 0 (by omega)
    rw [List.drop_zero] at this
    exact qc e this
theorem qb7 (l:List S34) (hs:Sm l) (hl:l.length≤1000):Ev (fun k=>ancepsref41_given.f k l) (gvl l):=
  Ev.bind (qn l hs hl) (qd (fun _=>qd (fun _=>Ev.now _) (fun _=>Ev.now _)) (fun _=>Ev.now _))
theorem qb8 (l:List S34):∃ b,Ev (fun k=>ancepsref41_FewTables.f k l) b∧(b=true→Sm l∧l.length≤18):=by
  obtain ⟨b,hb,hq⟩:=qb5 l
  cases b with
  | false=>exact ⟨false,Ev.bind hb (qc (by simp) (Ev.now _)),fun h=>by cases h⟩
  | true=>
    obtain ⟨h1,h2⟩:=hq rfl
    by_cases e:qi l=0
    · exact ⟨_,Ev.bind hb (qa rfl (Ev.bind (qn l h1 (by omega)) (qa e (Ev.bind (qad ((qe l).1 e) h1) (Ev.now _))))),fun _=>⟨h1,h2⟩⟩
    · exact ⟨_,Ev.bind hb (qa rfl (Ev.bind (qn l h1 (by omega)) (qc e (Ev.now _)))),fun _=>⟨h1,h2⟩⟩
theorem qa6 (l:List S34) (hs:Sm l) (hl:l.length≤1000):∀ (d i:Nat) (acc:List S34),i+d=l.length→acc.length≤i→Ev (fun k=>ancepslaw41_own.l0 k acc l l.length i) (acc++l.drop i)
  | 0,i,acc,h,ha=>by
    rw [List.drop_eq_nil_of_le (by omega),List.append_nil]
    exact Ev.step (f:=fun _=>some acc) (fun k=>by rw [ancepslaw41_own.l0,if_neg (by omega)]) (Ev.now _)
  | d+1,i,acc,h,ha=>by
    have hi:i<l.length:=by omega
    have hw:=qb i l.length hi (by omega)
    have hm:=hs _ (qq l i hi)
    have ih:=qa6 l hs hl d (i+1) (acc++[rd_T34 l i]) (by omega) (by simp;omega)
    rw [List.append_assoc acc,List.singleton_append,← qs l i hi] at ih
    refine Ev.step (fun k=>?_) ih
    rw [ancepslaw41_own.l0,if_pos (by omega),if_pos (by omega),if_pos (by omega),qP _ (by omega),qP _ (by omega),hw]
    simp only [Option.bind_some]
    rw [if_pos (by omega)]
theorem qbI (l:List S34) (hs:Sm l) (hl:l.length≤1000):Ev (fun k=>ancepslaw41_own.f k l) l:=by
  have:=qa6 l hs hl l.length 0 [] (by omega) (by simp)
  rwa [List.drop_zero,List.nil_append] at this
def wth (l:List S34) (v x:Int):Int×Int:=qr (giv l v x).1
theorem qaf (l:List S34) (hs:Sm l) (hl:l.length≤100) (v x:Int):Ev (fun k=>shared_with.f k l v x) ((giv l v x).1,(wth l v x).1,(wth l v x).2 == 0):=by
  obtain ⟨g1,g2⟩:=qbG hs hl v x
  exact Ev.bind (q4 l hs (by omega) v x) (Ev.bind (qw _ g1 g2) (Ev.now _))
def vl (l:List S34) (v:Int):Int:=if ((wth l v 0).2 == 0)=true then (if ((wth l v 1).2 == 0)=true then 3 else 1) else 2
theorem qaO (l:List S34) (hs:Sm l) (hl:l.length≤100) (v:Int):Ev (fun k=>shared_value.f k l v) (vl l v):=
  Ev.bind (qaf l hs hl v 0) (Ev.bind (qaf l hs hl v 1) (qd (fun _=>qd (fun _=>Ev.now _) (fun _=>Ev.now _)) (fun _=>Ev.now _)))
def sov (l:List S34):Int:=if gvl l=0 then (if (qr l).2=0 then 0 else 12) else gvl l
theorem qax (l:List S34) (hs:Sm l) (hl:l.length≤1000):Ev (fun k=>shared_solvable.f k l) (sov l):=
  Ev.bind (q5 l hs hl) (qd (fun _=>Ev.bind (qw l hs hl) (qd (fun _=>Ev.now _) (fun _=>Ev.now _))) (fun _=>Ev.now _))
theorem qb9 (l:List S34) (hs:Sm l) (hl:l.length≤1000):Ev (fun k=>ancepsref41_solvable.f k l) ((qr l).2 == 0):=Ev.bind (qbE l hs hl) (Ev.now _)
def vlu (l:List S34) (v:Int):Int×Int:=if gvl l=0 then (if v<0 then (0,6) else if v≥24 then (0,6) else if sov l=0 then (if v∈vrs l then (vl l v,0) else (0,4)) else (0,sov l)) else (0,gvl l)
theorem qca (l:List S34) (hs:Sm l) (hl:l.length≤100) (v:Int):Ev (fun k=>shared_Value.f k l v) (vlu l v):=by
  have hv:=qbp l
  refine Ev.bind (q5 l hs (by omega)) (qd (fun _=>qd (fun _=>Ev.now _) (fun _=>qd (fun _=>Ev.now _) (fun _=>Ev.bind (qax l hs (by omega)) (qd (fun _=>Ev.bind (qO l hs (by omega)) (Ev.bind (qy _ (by omega) _) ?_)) (fun _=>Ev.now _))))) (fun _=>Ev.now _))
  by_cases e:v∈vrs l
  · rw [if_pos e];exact qa (by simpa using e) (Ev.bind (qaO l hs hl v) (Ev.now _))
  · rw [if_neg e];exact qc (by simpa using e) (Ev.now _)
theorem qa7 (rs:List Int) (hl:(rs.length:Int)≤9223372036854775807) (x:Int):∀ (d i:Nat),i+d=rs.length→Ev (fun k=>ancepsref41_has.l0 k rs x i) (decide (x∈rs.drop i))
  | 0,i,h=>by
    rw [List.drop_eq_nil_of_le (by omega)]
    exact Ev.step (f:=fun _=>some false) (fun k=>by rw [ancepsref41_has.l0,if_neg (by omega)]) (by simpa using Ev.now _)
  | d+1,i,h=>by
    have hi:i<rs.length:=by omega
    have hw:=qb i rs.length hi hl
    have ih:=qa7 rs hl x d (i+1) (by omega)
    rw [qm rs i hi]
    by_cases e:rd rs i=x
    · have:decide (x∈rd rs i :: rs.drop (i+1))=true:=by simp [e]
      rw [this]
      exact Ev.step (f:=fun _=>some true) (fun k=>by rw [ancepsref41_has.l0,if_pos (by omega),if_pos (by omega),if_pos e]) (Ev.now _)
    · have:decide (x∈rd rs i :: rs.drop (i+1))=decide (x∈rs.drop (i+1)):=by
        rw [decide_eq_decide,List.mem_cons]
        exact ⟨fun h=>by rcases h with h|h;exact absurd h.symm e;exact h,.inr⟩
      rw [this]
      exact Ev.step (fun k=>by rw [ancepsref41_has.l0,if_pos (by omega),if_pos (by omega),if_neg e,hw]) ih
theorem qcl (rs:List Int) (hl:(rs.length:Int)≤9223372036854775807) (x:Int):Ev (fun k=>ancepsref41_has.f k rs x) (decide (x∈rs)):=by
  have:=qa7 rs hl x rs.length 0 (by omega)
  rw [List.drop_zero] at this
  exact this
structure Md (l:List S34):Prop where
  len:l.length≤6
  tab:∀ t,t∈l→VT t.f0 t.f1∧Chn 8 none t.f0
theorem Md.vs {l:List S34} (h:Md l):VS l:=⟨by have:=h.len;omega,fun t ht=>(h.tab t ht).1⟩
theorem qE {l:List S34} (h:VS l):Sm l:=fun t ht=>by
  have h1:=(h.tab t ht).len
  have h2:=(h.tab t ht).rows_len
  omega
def cmp (vs rs:List Int):List Int:=flt (fun m=>!decide ((m:Int)∈rs)) (2 ^ vs.length) 0
def imp (l:List S34) (vs rs:List Int):Bool×Int:=if gvl l=0 then (if qu vs rs=0 then ((qr (l++[⟨vs,cmp vs rs⟩])).2 != 0,0) else (false,qu vs rs)) else (false,gvl l)
theorem qcm {l:List S34} (h:l.length≤1000):api_Table_39.f l=some l:=by
  unfold api_Table_39.f
  rw [Option.bind_some,if_pos (by simp;omega),List.nil_append]
theorem qZ {l:List S34} (h:l.length≤1000):Ev (fun _=>api_Table_39.f l) l:=by
  rw [qcm h]
  exact Ev.now _
theorem qap {l:List S34} (hs:Sm l) {vs rs:List Int} (h1:vs.length≤1030) (h2:rs.length≤1030):Sm (l++[⟨vs,rs⟩]):=fun t ht=>by
  rcases List.mem_append.1 ht with h|h
  · exact hs t h
  · rw [List.mem_singleton.1 h];exact ⟨h1,h2⟩
theorem qbq {vs rs:List Int} (h:vs.length≤10):(cmp vs rs).length≤1024:=Nat.le_trans (qbg _ _ _) (qaR h)
theorem q0 (l:List S34) (hs:Sm l) (hl:l.length≤100) {vs rs:List Int} (h:VT vs rs):∀ (d i:Nat) (acc:List Int),i+d=2 ^ vs.length→acc.length≤i→acc++flt (fun m=>!decide ((m:Int)∈rs)) d i=cmp vs rs→
    Ev (fun k=>shared_Implied.l0 k l acc ((2 ^ vs.length:Nat):Int) i vs rs) ((qr (l++[⟨vs,cmp vs rs⟩])).2 != 0,0)
  | 0,i,acc,hd,ha,e=>by
    rw [flt,List.append_nil] at e
    rw [e]
    have h10:=h.len
    have hc:=qbq (rs:=rs) h10
    refine Ev.step (fun k=>by rw [shared_Implied.l0,if_neg (by omega)]) (Ev.bind (qZ (l:=l) (by omega)) (Ev.bind (Ev.now ([⟨vs,cmp vs rs⟩]:List S34)) (qa (show l.length+([⟨vs,cmp vs rs⟩]:List S34).length<2932031007402 by simp;omega) (Ev.bind (qw (l++[⟨vs,cmp vs rs⟩]) (qap hs (by omega) (by omega)) (by simp;omega)) ?_))))
    exact Ev.now _
  | d+1,i,acc,hd,ha,e=>by
    have h10:=qaR h.len
    have hw:=qb i (2 ^ vs.length) (by omega) (by omega)
    have hr:=h.rows_len
    rw [flt] at e
    refine Ev.step (fun k=>by rw [shared_Implied.l0,if_pos (by omega),hw]) (Ev.bind (qy _ (by omega) _) ?_)
    by_cases c:(i:Int)∈rs
    · rw [if_neg (by simpa using c)] at e
      exact qa (by simpa using c) (q0 l hs hl h d (i+1) acc (by omega) (by omega) e)
    · rw [if_pos (by simpa using c)] at e
      refine qc (by simpa using c) (Ev.bind (Ev.now [(i:Int)]) (qa (by simp;omega) (q0 l hs hl h d (i+1) _ (by omega) (by simp;omega) ?_)))
      rw [List.append_assoc];exact e
theorem qbr (l:List S34) (hs:Sm l) (hl:l.length≤100) (vs rs:List Int) (h1:vs.length≤1030) (h2:rs.length≤1030):Ev (fun k=>shared_Implied.f k l vs rs) (imp l vs rs):=by
  refine Ev.bind (q5 l hs (by omega)) (qd (fun _=>Ev.bind (qab _ _ (by omega) (by omega)) (qd (fun hv=>?_) (fun _=>Ev.now _))) (fun _=>Ev.now _))
  have h:=(qA vs rs).1 hv
  have:=q0 l hs hl h (2 ^ vs.length) 0 [] (by omega) (by simp) (by rw [List.nil_append];rfl)
  rw [← qJ vs.length (by have:=h.len;omega)] at this
  exact this
def lk (l:List S34) (a b:Int):List S59:=(if (qr (l++[⟨[a,b],[1,2]⟩])).2=10 then [⟨a,b,true⟩] else [])++(if (qr (l++[⟨[a,b],[0,3]⟩])).2=10 then [⟨a,b,false⟩] else [])
theorem qbJ (l:List S34) (a b:Int):(lk l a b).length≤2:=by
  unfold lk
  rw [List.length_append]
  split <;> split <;> simp
theorem qcn {l:List S34} (hs:Sm l) (hl:l.length≤100) (a b:Int) (out:List S59) (ho:out.length≤1000000) (x5 x24:List Int) (x25 x26:Int) (x34:List Int) (x35 x36:Int) {r:List S59×Int}
    (H:Ev (fun k=>shared_Linked.l1 k x5 (out++lk l a b) a x24 x25 x26 x34 x35 (wrap64 (x36+1)) l) r):Ev (fun k=>shared_Linked.l2 k x5 out a b x24 x25 x26 x34 x35 x36 [true,false] (([true,false]:List Bool).length:Int) 0 l) r:=by
  have hl':l.length<2932031007402:=by omega
  have hw1:wrap64 (1+1)=2:=by rw [qh _ (by decide)];rfl
  have hw0:wrap64 (0+1)=1:=by rw [qh _ (by decide)];rfl
  have f1:=qw (l++[⟨[a,b],[1,2]⟩]) (qap hs (by simp) (by simp)) (by simp;omega)
  have f2:=qw (l++[⟨[a,b],[0,3]⟩]) (qap hs (by simp) (by simp)) (by simp;omega)
  have e2:∀ o:List S59,Ev (fun k=>shared_Linked.l1 k x5 o a x24 x25 x26 x34 x35 (wrap64 (x36+1)) l) r→Ev (fun k=>shared_Linked.l2 k x5 o a b x24 x25 x26 x34 x35 x36 [true,false] (([true,false]:List Bool).length:Int) 2 l) r:=fun o h=>Ev.step (fun k=>by rw [shared_Linked.l2,if_neg (by decide)]) h
  have e1:∀ o:List S59,o.length≤1000001→Ev (fun k=>shared_Linked.l1 k x5 (o++(if (qr (l++[⟨[a,b],[0,3]⟩])).2=10 then [⟨a,b,false⟩] else [])) a x24 x25 x26 x34 x35 (wrap64 (x36+1)) l) r→Ev (fun k=>shared_Linked.l2 k x5 o a b x24 x25 x26 x34 x35 x36 [true,false] (([true,false]:List Bool).length:Int) 1 l) r:=fun o ho h=>by
    refine Ev.step (fun k=>by rw [shared_Linked.l2,if_pos (by decide),if_pos (by decide),if_pos (by decide),hw1]) (Ev.bind (qZ (l:=l) (by omega)) (Ev.bind (show Ev (fun k=>shared_both.f a b (!(rdOf false [true,false] 1))) ([a,b],[0,3]) from Ev.now _) (qa hl' (Ev.bind f2 ?_))))
    by_cases c:(qr (l++[⟨[a,b],[0,3]⟩])).2=10
    · rw [if_pos c] at h
      exact qa c (qa (show o.length<5864062014805 by omega) (e2 _ h))
    · rw [if_neg c,List.append_nil] at h
      exact qc c (e2 _ h)
  refine Ev.step (fun k=>by rw [shared_Linked.l2,if_pos (by decide),if_pos (by decide),if_pos (by decide),hw0]) (Ev.bind (qZ (l:=l) (by omega)) (Ev.bind (show Ev (fun k=>shared_both.f a b (!(rdOf false [true,false] 0))) ([a,b],[1,2]) from Ev.now _) (qa hl' (Ev.bind f1 ?_))))
  unfold lk at H
  rw [← List.append_assoc] at H
  by_cases c:(qr (l++[⟨[a,b],[1,2]⟩])).2=10
  · rw [if_pos c] at H
    exact qa c (qa (show out.length<5864062014805 by omega) (e1 _ (by simp;omega) H))
  · rw [if_neg c,List.append_nil] at H
    exact qc c (e1 _ (by omega) H)
theorem qbK {l:List S34} (hs:Sm l) (hl:l.length≤100) (a:Int) (ys:List Int) (hy:ys.length≤1000) (x5 x24:List Int) (x25 x26:Int) {r:List S59×Int}:∀ (d j:Nat) (out:List S59),j+d=ys.length→out.length+2 * d≤1000000→
    Ev (fun k=>shared_Linked.l0 k x5 (out++(ys.drop j).flatMap (lk l a)) x24 x25 (wrap64 (x26+1)) l) r→Ev (fun k=>shared_Linked.l1 k x5 out a x24 x25 x26 ys ys.length j l) r
  | 0,j,out,h,ho,H=>by
    rw [List.drop_eq_nil_of_le (by omega),List.flatMap_nil,List.append_nil] at H
    exact Ev.step (fun k=>by rw [shared_Linked.l1,if_neg (by omega)]) H
  | d+1,j,out,h,ho,H=>by
    have hj:j<ys.length:=by omega
    have hw:=qb j ys.length hj (by omega)
    have h2:=qbJ l a (rd ys j)
    rw [qm ys j hj,List.flatMap_cons,← List.append_assoc] at H
    have ih:=qbK hs hl a ys hy x5 x24 x25 x26 d (j+1) (out++lk l a (rd ys j)) (by omega) (by rw [List.length_append];omega) H
    rw [← hw] at ih
    exact Ev.step (fun k=>by rw [shared_Linked.l1,if_pos (by omega),if_pos (by omega),if_pos (by omega)]) (Ev.bind (Ev.now [true,false]) (qcn hs hl a (rd ys j) out (by omega) x5 x24 x25 x26 ys ys.length j ih))
def lks (l:List S34):List Int→List S59
  | []=>[]
  | a :: vs=>vs.flatMap (lk l a)++lks l vs
theorem qbs (l:List S34) (a:Int):∀ ys:List Int,(ys.flatMap (lk l a)).length≤2 * ys.length
  | []=>by simp
  | y :: ys=>by
    have:=qbs l a ys
    have:=qbJ l a y
    rw [List.flatMap_cons,List.length_append,List.length_cons]
    omega
theorem qbL {l:List S34} (hs:Sm l) (hl:l.length≤100) (vs:List Int) (hv:vs.length≤100):∀ (d i:Nat) (out:List S59),i+d=vs.length→out.length+200 * d≤900000→
    Ev (fun k=>shared_Linked.l0 k vs out vs vs.length i l) (out++lks l (vs.drop i),0)
  | 0,i,out,h,ho=>by
    rw [List.drop_eq_nil_of_le (by omega),lks,List.append_nil]
    exact Ev.step (f:=fun _=>some (out,0)) (fun k=>by rw [shared_Linked.l0,if_neg (by omega)]) (Ev.now _)
  | d+1,i,out,h,ho=>by
    have hi:i<vs.length:=by omega
    have hw:=qb i vs.length hi (by omega)
    have h2:=qbs l (rd vs i) (vs.drop (i+1))
    rw [List.length_drop] at h2
    rw [qm vs i hi,lks,← List.append_assoc]
    have ih:=qbL hs hl vs hv d (i+1) (out++(vs.drop (i+1)).flatMap (lk l (rd vs i))) (by omega) (by rw [List.length_append];omega)
    have hl1:=qbK hs hl (rd vs i) (vs.drop (i+1)) (by rw [List.length_drop];omega) vs vs vs.length i (vs.drop (i+1)).length 0 out (by omega) (by rw [List.length_drop];omega) (r:=(out++(vs.drop (i+1)).flatMap (lk l (rd vs i))++lks l (vs.drop (i+1)),0)) (by rw [List.drop_zero,hw];exact ih)
    refine Ev.step (fun k=>by rw [shared_Linked.l0,if_pos (by omega),if_pos (by omega),if_pos (by omega),hw,if_pos (by omega),if_pos (by omega),show (((i+1:Nat):Int)).toNat=i+1 from rfl]) (Ev.bind (Ev.now (vs.drop (i+1))) hl1)
theorem qaP {l:List S34} (hs:Sm l) (hl:l.length≤100) (vs:List Int) (hv:vs.length≤1000) (ho:∀ v,v∈vs→vl l v=3):∀ (d i:Nat),i+d=vs.length→Ev (fun k=>slices_IndexFunc_int_int_shared_Linked_1.l0 k vs vs.length i l) (-1)
  | 0,i,h=>Ev.step (f:=fun _=>some (-1)) (fun k=>by rw [slices_IndexFunc_int_int_shared_Linked_1.l0,if_neg (by omega)]) (Ev.now _)
  | d+1,i,h=>by
    have hi:i<vs.length:=by omega
    have hw:=qb i vs.length hi (by omega)
    have h3:=ho _ (qF vs i hi)
    have hc:Ev (fun k=>shared_Linked_1_v1.f k (rd vs i) l) false:=by
      have:=Ev.bind (f:=fun _ t=>some (t != 3)) (qaO l hs hl (rd vs i)) (Ev.now _)
      rw [h3] at this
      exact this
    exact Ev.step (fun k=>by rw [slices_IndexFunc_int_int_shared_Linked_1.l0,if_pos (by omega),if_pos (by omega),if_pos (by omega),hw]) (Ev.bind hc (qc Bool.false_ne_true (qaP hs hl vs hv ho d (i+1) (by omega))))
def qay (l:List S34):List Int:=flt (fun m=>decide ((m:Int)∈flat l)) 24 0
theorem q6 {l:List S34} (h:VS l):occ l=qay l:=by
  have hc:=qG (fun m=>decide ((m:Int)∈flat l)) 24 0 none (fun q hq=>by cases hq)
  refine Chn.same h.occ.1 hc (fun n=>?_)
  rw [h.occ.2]
  unfold qay
  rw [q3]
  constructor
  · intro hn
    have:=h.flat n hn
    exact ⟨n.toNat,by omega,by omega,by rw [← qo this.1];simpa using hn,qo this.1⟩
  · rintro ⟨m,_,_,hm,rfl⟩
    simpa using hm
def qaS (l:List S34):Int×Int:=if qi l=0 then solve_First.of ((sl l (qay l) 0).map fun a:Nat=>(a:Int)) else (0,qi l)
theorem qx (l:List S34):qr l=qaS l:=by
  unfold qr qaS SS
  by_cases e:qi l=0
  · rw [if_pos e,if_pos e,q6 ((qe l).1 e)]
  · rw [if_neg e,if_neg e]
def E2:List S34:=[⟨[0,1],[1,2]⟩,⟨[1,2],[0,3]⟩]
def E3:List S34:=[⟨[0,1],[1,2]⟩,⟨[1,2],[0,3]⟩,⟨[0],[1]⟩]
def K0:List S34:=[⟨[0,1],[1,2]⟩,⟨[1,2],[0,3]⟩,⟨[0],[1]⟩,⟨[0],[0]⟩]
def K1:List S34:=[⟨[0,1],[1,2]⟩,⟨[1,2],[0,3]⟩,⟨[0],[1]⟩,⟨[1],[1]⟩]
def K2:List S34:=[⟨[0,1],[1,2]⟩,⟨[1,2],[0,3]⟩,⟨[0],[1]⟩,⟨[2],[1]⟩]
theorem qbv:VS E2:=(qe _).1 (by decide)
theorem qbw:VS E3:=(qe _).1 (by decide)
theorem qbx:VS K0:=(qe _).1 (by decide)
theorem qby:VS K1:=(qe _).1 (by decide)
theorem qbz:VS K2:=(qe _).1 (by decide)
theorem qbM:occ E2=[0,1,2]:=(q6 qbv).trans (by kernel_rfl)
theorem qa8:occ E3=[0,1,2]:=(q6 qbw).trans (by kernel_rfl)
def N0:List S116:=((solve_split.f 60 K0 [0,1,2] 0 0 []).getD ([],false)).1
def N1:List S116:=((solve_split.f 60 K1 [0,1,2] 0 0 []).getD ([],false)).1
def N2:List S116:=((solve_split.f 60 K2 [0,1,2] 0 0 []).getD ([],false)).1
theorem qbA {K:List S34} (h:VS K) {vs:List Int} (ho:occ K=vs) {N:List S116} (hn:solve_search.f 60 K vs 0 0=some []) (hp:solve_split.f 60 K vs 0 0 []=some (N,true)):Ev (fun k=>solve_Refute.f k K) (N,0):=by
  have v:=qf (qv K (qE h) (by have:=h.len;omega)) ((qe _).2 h)
  have o:Ev (fun k=>solve_occurring.f k K) vs:=qf (qai K (qE h) (by have:=h.len;omega)) ho
  have s:Ev (fun k=>solve_search.f k K vs 0 0) []:=Ev.of (fun k=>solve_search.mono _ _ _ _ k) (k:=60) hn
  have p:Ev (fun k=>solve_split.f k K vs 0 0 []) (N,true):=Ev.of (fun k=>solve_split.mono _ _ _ _ _ k) (k:=60) hp
  exact Ev.bind v (qa rfl (Ev.bind o (Ev.bind s (qa rfl (Ev.bind p (Ev.now _))))))
theorem qbB {K:List S34} (h:VS K) {N:List S116} (h1:solve_shape.f 200 K N=some true) (h2:solve_right.f 200 K N 0 0 0=some true):Ev (fun k=>solve_Check.f k K N) true:=by
  have v:=qf (qv K (qE h) (by have:=h.len;omega)) ((qe _).2 h)
  have a:Ev (fun k=>solve_shape.f k K N) true:=Ev.of (fun k=>solve_shape.mono _ _ k) (k:=200) h1
  have b:Ev (fun k=>solve_right.f k K N 0 0 0) true:=Ev.of (fun k=>solve_right.mono _ _ _ _ _ k) (k:=200) h2
  exact Ev.bind v (qa rfl (Ev.bind a (qa rfl (Ev.bind b (Ev.now _)))))
def X3:List S65:=[⟨0,2,1,0,0,⟨N0⟩⟩,⟨1,1,1,0,0,⟨N1⟩⟩,⟨2,1,1,0,0,⟨N2⟩⟩]
theorem qb0:∀ v,v∈[0,1,2]→vl E2 v=3:=by
  intro v hv
  simp only [List.mem_cons,List.not_mem_nil,or_false] at hv
  rcases hv with rfl|rfl|rfl <;> (unfold vl wth;rw [qx,qx];kernel_rfl)
theorem qbN:Ev (fun k=>shared_Linked.f k E2) ([⟨0,1,false⟩,⟨0,2,false⟩,⟨1,2,true⟩],0):=by
  have hs:=qE qbv
  have s:sov E2=0:=by unfold sov;rw [qx];kernel_rfl
  have v:Ev (fun k=>solve_Vars.f k E2) [0,1,2]:=qf (qO E2 hs (by decide)) (by unfold vrs;rw [qbM];kernel_rfl)
  have i:=qaP hs (by decide) [0,1,2] (by decide) qb0 3 0 rfl
  have k0:=qbL hs (by decide) [0,1,2] (by decide) 3 0 [] rfl (by decide)
  refine Ev.bind (qax E2 hs (by decide)) (qa s (Ev.bind v (Ev.bind (show Ev (fun k=>slices_DeleteFunc_int_int_shared_Linked_1.f k [0,1,2] E2) [0,1,2] from Ev.bind i (qa rfl (Ev.now _))) (qf k0 ?_))))
  show ([]++lks E2 [0,1,2],(0:Int))=_
  unfold lks lks lks lks
  simp only [List.flatMap_cons,List.flatMap_nil]
  unfold lk
  simp only [qx]
  kernel_rfl
theorem qH {l:List S34} (hs:Sm l) (hl:l.length≤100) {v x:Int} {q:List S34×Int×Bool} (h:((giv l v x).1,(qaS (giv l v x).1).1,(qaS (giv l v x).1).2 == 0)=q):Ev (fun k=>shared_with.f k l v x) q:=qf (qaf l hs hl v x) (by unfold wth;rw [qx];exact h)
theorem qco:Ev (fun k=>shared_All.f k E3) (X3,0):=by
  have hs:=qE qbw
  have s:sov E3=0:=by unfold sov;rw [qx];kernel_rfl
  have v:Ev (fun k=>solve_Vars.f k E3) [0,1,2]:=qf (qO E3 hs (by decide)) (by unfold vrs;rw [qa8];kernel_rfl)
  have r0:Ev (fun k=>solve_Refute.f k K0) (N0,0):=qbA qbx ((q6 qbx).trans (by kernel_rfl:qay K0=[0,1,2])) (by kernel_rfl) (by kernel_rfl)
  have r1:Ev (fun k=>solve_Refute.f k K1) (N1,0):=qbA qby ((q6 qby).trans (by kernel_rfl:qay K1=[0,1,2])) (by kernel_rfl) (by kernel_rfl)
  have r2:Ev (fun k=>solve_Refute.f k K2) (N2,0):=qbA qbz ((q6 qbz).trans (by kernel_rfl:qay K2=[0,1,2])) (by kernel_rfl) (by kernel_rfl)
  have w00:Ev (fun k=>shared_with.f k E3 0 0) (K0,0,false):=qH hs (by decide) (by kernel_rfl)
  have w01:Ev (fun k=>shared_with.f k E3 0 1) (E3++[⟨[0],[1]⟩],1,true):=qH hs (by decide) (by kernel_rfl)
  have w10:Ev (fun k=>shared_with.f k E3 1 0) (E3++[⟨[1],[0]⟩],1,true):=qH hs (by decide) (by kernel_rfl)
  have w11:Ev (fun k=>shared_with.f k E3 1 1) (K1,0,false):=qH hs (by decide) (by kernel_rfl)
  have w20:Ev (fun k=>shared_with.f k E3 2 0) (E3++[⟨[2],[0]⟩],1,true):=qH hs (by decide) (by kernel_rfl)
  have w21:Ev (fun k=>shared_with.f k E3 2 1) (K2,0,false):=qH hs (by decide) (by kernel_rfl)
  have e0:Ev (fun k=>shared_evidence.f k E3 0) (0,2,1,0,0,N0,0):=Ev.bind w00 (Ev.bind w01 (qc (by decide) (Ev.bind r0 (Ev.now _))))
  have e1:Ev (fun k=>shared_evidence.f k E3 1) (1,1,1,0,0,N1,0):=Ev.bind w10 (Ev.bind w11 (qa rfl (qc (by decide) (Ev.bind r1 (Ev.now _)))))
  have e2:Ev (fun k=>shared_evidence.f k E3 2) (2,1,1,0,0,N2,0):=Ev.bind w20 (Ev.bind w21 (qa rfl (qc (by decide) (Ev.bind r2 (Ev.now _)))))
  have x2:rd [0,1,2] ((2:Nat):Int)=2:=rfl
  have x1:rd [0,1,2] ((1:Nat):Int)=1:=rfl
  have x0:rd [0,1,2] ((0:Nat):Int)=0:=rfl
  have l3:Ev (fun k=>shared_All.l0 k E3 X3 [0,1,2] (([0,1,2]:List Int).length:Int) ((3:Nat):Int)) (X3,0):=Ev.step (f:=fun _=>some (X3,0)) (fun k=>by rw [shared_All.l0,if_neg (by decide)]) (Ev.now _)
  have l2:Ev (fun k=>shared_All.l0 k E3 (X3.take 2) [0,1,2] (([0,1,2]:List Int).length:Int) ((2:Nat):Int)) (X3,0):=Ev.step (fun k=>by rw [shared_All.l0,if_pos (by decide),if_pos (by decide),if_pos (by decide),qb 2 3 (by decide) (by decide),x2]) (Ev.bind e2 (qa rfl (qa (show (X3.take 2).length<2199023255552 by decide) l3)))
  have l1:Ev (fun k=>shared_All.l0 k E3 (X3.take 1) [0,1,2] (([0,1,2]:List Int).length:Int) ((1:Nat):Int)) (X3,0):=Ev.step (fun k=>by rw [shared_All.l0,if_pos (by decide),if_pos (by decide),if_pos (by decide),qb 1 3 (by decide) (by decide),x1]) (Ev.bind e1 (qa rfl (qa (show (X3.take 1).length<2199023255552 by decide) l2)))
  have l0:Ev (fun k=>shared_All.l0 k E3 [] [0,1,2] (([0,1,2]:List Int).length:Int) ((0:Nat):Int)) (X3,0):=Ev.step (fun k=>by rw [shared_All.l0,if_pos (by decide),if_pos (by decide),if_pos (by decide),qb 0 3 (by decide) (by decide),x0]) (Ev.bind e0 (qa rfl (qa (show ([]:List S65).length<2199023255552 by decide) l1)))
  exact Ev.bind (qax E3 hs (by decide)) (qa s (Ev.bind v l0))
theorem qbW:Ev (fun k=>shared_Check.f k E3 X3) true:=by
  have hs:=qE qbw
  have g:gvl E3=0:=by decide
  have v:Ev (fun k=>solve_Vars.f k E3) [0,1,2]:=qf (qO E3 hs (by decide)) (by unfold vrs;rw [qa8];kernel_rfl)
  have f:Ev (fun k=>solve_First.f k E3) (1,0):=qf (qw E3 hs (by decide)) (by rw [qx];kernel_rfl)
  have q:=qaJ [0,1,2] (by decide)
  have hh:Ev (fun k=>solve_Holds.f k E3 1) true:=qf (qbR E3 hs (by decide) 1) (by unfold hld hsS;rw [qa8];kernel_rfl)
  have g0:Ev (fun k=>solve_Given.f k E3 0 (wrap64 (2 - 2))) (K0,0):=qf (q4 E3 hs (by decide) 0 _) (by kernel_rfl)
  have g1:Ev (fun k=>solve_Given.f k E3 1 (wrap64 (2 - 1))) (K1,0):=qf (q4 E3 hs (by decide) 1 _) (by kernel_rfl)
  have g2:Ev (fun k=>solve_Given.f k E3 2 (wrap64 (2 - 1))) (K2,0):=qf (q4 E3 hs (by decide) 2 _) (by kernel_rfl)
  have c0:Ev (fun k=>solve_Check.f k K0 N0) true:=qbB qbx (by kernel_rfl) (by kernel_rfl)
  have c1:Ev (fun k=>solve_Check.f k K1 N1) true:=qbB qby (by kernel_rfl) (by kernel_rfl)
  have c2:Ev (fun k=>solve_Check.f k K2 N2) true:=qbB qbz (by kernel_rfl) (by kernel_rfl)
  have r0:Ev (fun k=>shared_right.f k E3 0 2 1 0 0 N0) true:=qc (by decide) (qc (by decide) (qa rfl (Ev.bind g0 (qa rfl (qa rfl (qa rfl (Ev.bind hh (qa rfl (Ev.bind c0 (Ev.now _))))))))))
  have r1:Ev (fun k=>shared_right.f k E3 1 1 1 0 0 N1) true:=qc (by decide) (qa rfl (Ev.bind g1 (qa rfl (qa rfl (qa rfl (Ev.bind hh (qa rfl (Ev.bind c1 (Ev.now _)))))))))
  have r2:Ev (fun k=>shared_right.f k E3 2 1 1 0 0 N2) true:=qc (by decide) (qa rfl (Ev.bind g2 (qa rfl (qa rfl (qa rfl (Ev.bind hh (qa rfl (Ev.bind c2 (Ev.now _)))))))))
  have x2:rd_T65 X3 ((2:Nat):Int)=⟨2,1,1,0,0,⟨N2⟩⟩:=rfl
  have x1:rd_T65 X3 ((1:Nat):Int)=⟨1,1,1,0,0,⟨N1⟩⟩:=rfl
  have x0:rd_T65 X3 ((0:Nat):Int)=⟨0,2,1,0,0,⟨N0⟩⟩:=rfl
  have i3:Ev (fun k=>api_Evidence_shared_Check_1_v1.l0 k X3 (X3.length:Int) ((3:Nat):Int) E3) (-1):=Ev.step (f:=fun _=>some (-1)) (fun k=>by rw [api_Evidence_shared_Check_1_v1.l0,if_neg (by decide)]) (Ev.now _)
  have i2:Ev (fun k=>api_Evidence_shared_Check_1_v1.l0 k X3 (X3.length:Int) ((2:Nat):Int) E3) (-1):=Ev.step (fun k=>by rw [api_Evidence_shared_Check_1_v1.l0,if_pos (by decide),if_pos (by decide),if_pos (by decide),qb 2 3 (by decide) (by decide),x2]) (Ev.bind (show Ev (fun k=>shared_Check_1_v1.f k 2 1 1 0 0 N2 E3) false from Ev.bind r2 (Ev.now _)) (qc Bool.false_ne_true i3))
  have i1:Ev (fun k=>api_Evidence_shared_Check_1_v1.l0 k X3 (X3.length:Int) ((1:Nat):Int) E3) (-1):=Ev.step (fun k=>by rw [api_Evidence_shared_Check_1_v1.l0,if_pos (by decide),if_pos (by decide),if_pos (by decide),qb 1 3 (by decide) (by decide),x1]) (Ev.bind (show Ev (fun k=>shared_Check_1_v1.f k 1 1 1 0 0 N1 E3) false from Ev.bind r1 (Ev.now _)) (qc Bool.false_ne_true i2))
  have i0:Ev (fun k=>api_Evidence_shared_Check_1_v1.l0 k X3 (X3.length:Int) ((0:Nat):Int) E3) (-1):=Ev.step (fun k=>by rw [api_Evidence_shared_Check_1_v1.l0,if_pos (by decide),if_pos (by decide),if_pos (by decide),qb 0 3 (by decide) (by decide),x0]) (Ev.bind (show Ev (fun k=>shared_Check_1_v1.f k 0 2 1 0 0 N0 E3) false from Ev.bind r0 (Ev.now _)) (qc Bool.false_ne_true i1))
  have cf:Ev (fun k=>api_Evidence_shared_Check_1.f k X3 E3) false:=Ev.bind (show Ev (fun k=>api_Evidence_shared_Check_1_v1.f k X3 E3) (-1) from i0) (Ev.now _)
  have ct:Ev (fun k=>(api_Evidence_shared_Check_1.f k X3 E3).bind fun t=>some (!t)) true:=Ev.bind cf (Ev.now _)
  have l3:Ev (fun k=>shared_Check.l0 k X3 [0,1,2] X3 (X3.length:Int) ((3:Nat):Int) E3) true:=Ev.step (fun k=>by rw [shared_Check.l0,if_neg (by decide)]) (Ev.bind f (qa rfl (Ev.bind v (Ev.bind q (qa rfl ct)))))
  have l2:Ev (fun k=>shared_Check.l0 k X3 [0,1] X3 (X3.length:Int) ((2:Nat):Int) E3) true:=Ev.step (fun k=>by rw [shared_Check.l0,if_pos (by decide),if_pos (by decide),if_pos (by decide),if_pos (by decide),qb 2 3 (by decide) (by decide),x2];rfl) l3
  have l1:Ev (fun k=>shared_Check.l0 k X3 [0] X3 (X3.length:Int) ((1:Nat):Int) E3) true:=Ev.step (fun k=>by rw [shared_Check.l0,if_pos (by decide),if_pos (by decide),if_pos (by decide),if_pos (by decide),qb 1 3 (by decide) (by decide),x1];rfl) l2
  have l0:Ev (fun k=>shared_Check.l0 k X3 [] X3 (X3.length:Int) ((0:Nat):Int) E3) true:=Ev.step (fun k=>by rw [shared_Check.l0,if_pos (by decide),if_pos (by decide),if_pos (by decide),if_pos (by decide),qb 0 3 (by decide) (by decide),x0];rfl) l1
  exact Ev.bind (q5 E3 hs (by decide)) (qa g l0)
theorem qa9:Ev (fun k=>ancepslaw41_awake.f k) true:=by
  have hs:=qE qbv
  have a:=qbN
  have b:Ev (fun k=>shared_Implied.f k E2 [0,2] [1,2,3]) (true,0):=qf (qbr E2 hs (by decide) [0,2] [1,2,3] (by decide) (by decide)) (by unfold imp;rw [qx];kernel_rfl)
  have c:=qco
  have d:Ev (fun k=>shared_Value.f k E2 0) (3,0):=qf (qca E2 hs (by decide) 0) (by unfold vlu sov vrs;rw [qb0 0 (by decide),qx,qbM];kernel_rfl)
  have e:=qbW
  have f:Ev (fun k=>api_Link.f k [⟨0,1,false⟩,⟨0,2,false⟩,⟨1,2,true⟩] [⟨0,1,false⟩,⟨0,2,false⟩,⟨1,2,true⟩]) true:=Ev.of (fun k=>api_Link.mono _ _ k) (k:=60) (by kernel_rfl)
  unfold ancepslaw41_awake.f
  exact Ev.bind (Ev.now E2) (Ev.bind a (Ev.bind b (Ev.bind (Ev.now E2) (qa (by decide) (Ev.bind (Ev.now E3) (Ev.bind c (Ev.bind d (qa rfl (qa rfl (qa rfl (qa rfl (qa rfl (qa rfl (qa rfl (Ev.bind e (qa rfl (Ev.bind f (qa rfl (qa (by decide) (qa rfl (qa (by decide) (qa rfl (qa (by decide) (Ev.now _))))))))))))))))))))))))
theorem qaq:Ev (fun k=>(ancepslaw41_awake.f k).bind fun t=>some t) true:=Ev.bind qa9 (Ev.now _)

theorem qcp {l:List S34} (h:VS l):∀ s,s∈SS l→∃ a:Nat,s=a∧a<2 ^ 60:=fun s hs=>by
  unfold SS sl at hs
  obtain ⟨a,ha,rfl⟩:=List.mem_map.1 hs
  obtain ⟨i,_,rfl⟩:=List.mem_map.1 (List.mem_filter.1 ha).1
  refine ⟨_,rfl,?_⟩
  rw [Nat.or_zero]
  exact Nat.lt_of_lt_of_le (qcf h.occ.1 i) (by decide)
theorem qbt (l:List S34) (t:S34) (a:Nat):sat (l++[t]) a=true↔sat l a=true∧hs t.f0 t.f1 a=true:=by
  unfold sat
  rw [List.all_append,Bool.and_eq_true,List.all_cons,List.all_nil,Bool.and_true]
theorem qbO {l:List S34} (h:VS l) (h15:l.length≤15) {t:S34} (ht:VT t.f0 t.f1):VS (l++[t]):=by
  refine ⟨by rw [List.length_append,List.length_singleton];omega,fun u hu=>?_⟩
  rcases List.mem_append.1 hu with hu|hu
  · exact h.tab u hu
  · rw [List.mem_singleton.1 hu];exact ht
theorem qbu {l:List S34} (h:VS l) {t:S34} (h2:VS (l++[t])) (v:Int):v∈occ (l++[t])↔v∈occ l∨v∈t.f0:=by
  rw [h2.occ.2,h.occ.2]
  unfold flat
  rw [List.flatMap_append,List.mem_append]
  simp
theorem q1 (l:List S34) (hs:Sm l) (hl:l.length≤100) {vs rs:List Int} (h:VT vs rs):∀ (d i:Nat) (acc:List Int),i+d=2 ^ vs.length→acc.length≤i→acc++flt (fun m=>!decide ((m:Int)∈rs)) d i=cmp vs rs→
    Ev (fun k=>ancepsref41_Implied.l0 k l i vs rs vs acc) ((qr (l++[⟨vs,cmp vs rs⟩])).2 != 0,0)
  | 0,i,acc,hd,ha,e=>by
    rw [flt,List.append_nil] at e
    rw [e]
    have h10:=h.len
    have h60:vs.length≤60:=by omega
    have hc:=qbq (rs:=rs) h10
    have had:Ev (fun _=>ancepsref41_added.f l vs (cmp vs rs)) (l++[⟨vs,cmp vs rs⟩]):=by
      refine Ev.bind (Ev.now ([]:List S34)) (qa (show ([]:List S34).length+l.length<2932031007402 by simp;omega) (Ev.bind (Ev.now l) (Ev.bind (Ev.now ([⟨vs,cmp vs rs⟩]:List S34)) (qa (show l.length+([⟨vs,cmp vs rs⟩]:List S34).length<2932031007402 by simp;omega) (Ev.now _)))))
    refine Ev.step (fun k=>by rw [ancepsref41_Implied.l0,qJ _ h60,if_neg (by omega)]) (Ev.bind had (Ev.bind (qb9 (l++[⟨vs,cmp vs rs⟩]) (qap hs (by omega) (by omega)) (by simp;omega)) ?_))
    exact Ev.now _
  | d+1,i,acc,hd,ha,e=>by
    have h10:=qaR h.len
    have h60:vs.length≤60:=by have:=h.len;omega
    have hw:=qb i (2 ^ vs.length) (by omega) (by omega)
    have hr:=h.rows_len
    rw [flt] at e
    refine Ev.step (fun k=>by rw [ancepsref41_Implied.l0,qJ _ h60,if_pos (by omega),hw]) (Ev.bind (qcl _ (by omega) _) ?_)
    by_cases c:(i:Int)∈rs
    · rw [if_neg (by simpa using c)] at e
      exact qa (by simpa using c) (q1 l hs hl h d (i+1) acc (by omega) (by omega) e)
    · rw [if_pos (by simpa using c)] at e
      refine qc (by simpa using c) (qa (show acc.length<17592186044416 by omega) (q1 l hs hl h d (i+1) _ (by omega) (by simp;omega) ?_))
      rw [List.append_assoc];exact e
theorem qcb (l:List S34) (hs:Sm l) (hl:l.length≤100) (vs rs:List Int) (h1:vs.length≤1030) (h2:rs.length≤1030):Ev (fun k=>ancepsref41_Implied.f k l vs rs) (imp l vs rs):=
  Ev.bind (qb7 l hs (by omega)) (qd (fun _=>Ev.bind (qaB _ _ (by omega) (by omega)) (qd (fun hv=>q1 l hs hl ((qA vs rs).1 hv) (2 ^ vs.length) 0 [] (by omega) (by simp) (by rw [List.nil_append];rfl)) (fun _=>Ev.now _))) (fun _=>Ev.now _))
theorem qcq {vs rs:List Int} (h:VT vs rs) (a:Nat):hs vs (cmp vs rs) a=!hs vs rs a:=by
  unfold hs cmp
  have hl:=qQ vs a
  rw [Bool.eq_iff_iff]
  simp only [decide_eq_true_iff,Bool.not_eq_true',decide_eq_false_iff_not,q3]
  constructor
  · rintro ⟨m,_,_,hm,e⟩
    have e':row vs a=m:=by omega
    subst e'
    simpa using hm
  · exact fun hn=>⟨row vs a,by omega,by omega,by simpa using hn,rfl⟩
theorem qcr {vs rs:List Int} (h:VT vs rs):VT vs (cmp vs rs):=by
  refine ⟨h.len,h.vars,?_⟩
  have:=qG (fun m=>!decide ((m:Int)∈rs)) (2 ^ vs.length) 0 none (fun q hq=>by cases hq)
  rwa [Nat.zero_add] at this
theorem qcc {l:List S34} {vs rs:List Int} (h:(imp l vs rs).1=true):VS l∧l.length≤15∧VT vs rs∧∀ a,sat (l++[⟨vs,rs⟩]) a=sat l a:=by
  unfold imp at h
  by_cases hg:gvl l=0
  · rw [if_pos hg] at h
    by_cases hv:qu vs rs=0
    · rw [if_pos hv] at h
      obtain ⟨h1,h15⟩:=qck hg
      have ht:=(qA vs rs).1 hv
      refine ⟨h1,h15,ht,fun a=>?_⟩
      have hn:¬ (qr (l++[⟨vs,cmp vs rs⟩])).2=0:=by simpa using h
      rw [qbV (qbO h1 h15 (t:=⟨vs,cmp vs rs⟩) (qcr ht))] at hn
      rw [Bool.eq_iff_iff,qbt]
      refine ⟨fun x=>x.1,fun x=>⟨x,?_⟩⟩
      show hs vs rs a=true
      cases e:hs vs rs a with
      | true=>rfl
      | false=>exact absurd ⟨a,(qbt _ _ _).2 ⟨x,(qcq ht a).trans (by rw [e];rfl)⟩⟩ hn
    · rw [if_neg hv] at h;cases h
  · rw [if_neg hg] at h;cases h
theorem qaQ:∀ (X Y:List Int),X.Nodup→(∀ x,x∈X→x∈Y)→X.length≤Y.length
  | [],Y,_,_=>by simp
  | x :: xs,Y,hn,hs=>by
    obtain ⟨h1,h2⟩:=List.nodup_cons.1 hn
    have hy:=hs x List.mem_cons_self
    have ih:=qaQ xs (Y.erase x) h2 (fun z hz=>by
      have hne:z≠x:=fun e=>h1 (e ▸ hz)
      exact (List.mem_erase_of_ne hne).2 (hs z (List.mem_cons_of_mem _ hz)))
    rw [List.length_erase_of_mem hy] at ih
    have:=List.length_pos_of_mem hy
    rw [List.length_cons]
    omega
theorem qbX {l:List S34} (h:VS l):(SS l).Nodup:=by
  unfold SS
  refine List.pairwise_map.2 ((qci l h.occ.1).imp (fun {a b} hab e=>?_))
  omega
theorem qcs {l m:List S34} (hl:VS l) (hm:VS m) (hsat:∀ a,sat m a=sat l a) (hocc:∀ v,v∈occ l→v∈occ m):∀ x,x∈SS l→x∈SS m:=fun x hx=>by
  obtain ⟨a,rfl,_⟩:=qcp hl x hx
  obtain ⟨h1,h2⟩:=(qbH hl a).1 hx
  refine (qbH hm a).2 ⟨by rw [hsat];exact h1,?_⟩
  apply Nat.eq_of_testBit_eq
  intro j
  have h3:=congrArg (fun z=>Nat.testBit z j) h2
  simp only [Nat.testBit_and,Nat.testBit_xor,qt,Nat.zero_testBit,Bool.false_or] at h3 ⊢
  cases e:a.testBit j with
  | false=>simp
  | true=>
    rw [e] at h3
    have h4:((occ l).any fun v=>v.toNat == j)=true:=by
      cases c:(occ l).any fun v=>v.toNat == j with
      | true=>rfl
      | false=>rw [c] at h3;simp at h3
    obtain ⟨v,hv,hj⟩:=List.any_eq_true.1 h4
    have h5:((occ m).any fun v=>v.toNat == j)=true:=List.any_eq_true.2 ⟨v,hocc v hv,hj⟩
    rw [h5]
    rfl
theorem qcu {l m:List S34} (hsat:∀ a,sat m a=sat l a) (ho:occ m=occ l):SS m=SS l:=by
  unfold SS sl
  rw [ho]
  have:sat m=sat l:=funext hsat
  rw [this]
theorem qba (l:List S34) (hS:Sm l) (hl:l.length≤1000) (vs X Y:List Int) (hv:vs.length≤1030) (hX:X.length≤1000) (hle:X.length≤Y.length) (heq:(∀ v,v∈vs→v∈vrs l)→X=Y):∀ (d i:Nat),i+d=vs.length→(∀ v,v∈vs.take i→v∈vrs l)→
    Ev (fun k=>ancepslaw41_SharedImplied.l0 k l X Y vs vs.length i) true
  | 0,i,h,ht=>by
    rw [List.take_of_length_le (by omega)] at ht
    have e:=heq ht
    subst e
    exact Ev.step (fun k=>by rw [ancepslaw41_SharedImplied.l0,if_neg (by omega)]) (Ev.bind (qaJ _ (by omega)) (Ev.now _))
  | d+1,i,h,ht=>by
    have hi:i<vs.length:=by omega
    have hw:=qb i vs.length hi (by omega)
    have hvr:=qbp l
    refine Ev.step (fun k=>by rw [ancepslaw41_SharedImplied.l0,if_pos (by omega),if_pos (by omega),if_pos (by omega),hw]) (Ev.bind (qbF l hS hl) (Ev.bind (qy (vrs l) (by omega) _) ?_))
    by_cases c:rd vs i∈vrs l
    · refine qa (by simpa using c) (qba l hS hl vs X Y hv hX hle heq d (i+1) (by omega) (fun v hv2=>?_))
      rw [List.take_add_one,qcg vs i hi] at hv2
      rcases List.mem_append.1 hv2 with h2|h2
      · exact ht v h2
      · simp at h2;rw [h2];exact c
    · exact qc (by simpa using c) (qf (Ev.now _) (by simp;omega))
theorem qag (l:List S34) (vs rs:List Int):Ev (fun k=>ancepslaw41_SharedImplied.f k l vs rs) true:=by
  obtain ⟨b,hb,hq⟩:=qb8 l
  refine Ev.bind qa9 (qa rfl (Ev.bind hb ?_))
  cases b with
  | false=>exact qc (by simp) qaq
  | true=>
    obtain ⟨hS,h18⟩:=hq rfl
    obtain ⟨b2,hb2,hq2⟩:=qaY vs rs
    refine qa rfl (Ev.bind (show Ev (fun _=>ancepsref38_Few.f vs rs) b2 by rw [hb2];exact Ev.now _) ?_)
    cases b2 with
    | false=>exact qc (by simp) qaq
    | true=>
      obtain ⟨h12,h30⟩:=hq2 rfl
      refine qa rfl (Ev.bind (qbI l hS (by omega)) (Ev.bind (qbr l hS (by omega) vs rs (by omega) (by omega)) (Ev.bind (qcb l hS (by omega) vs rs (by omega) (by omega)) (qc (by simp) (qa rfl ?_)))))
      by_cases c:(imp l vs rs).1=true
      · obtain ⟨h1,h15,h2,h3⟩:=qcc c
        have hm:=qbO h1 h15 (t:=⟨vs,rs⟩) h2
        have a1:=qa5 l
        have a2:=qa5 (l++[⟨vs,rs⟩])
        refine qa c (Ev.bind (qbo l hS (by omega)) (Ev.bind (qbI l hS (by omega)) (Ev.bind (Ev.now ([⟨vs,rs⟩]:List S34)) (qa (show l.length+([⟨vs,rs⟩]:List S34).length<2932031007402 by simp;omega) (Ev.bind (qbo (l++[⟨vs,rs⟩]) (qE hm) (by simp;omega)) ?_)))))
        by_cases z1:(qD l).2=0
        · refine qa z1 ?_
          by_cases z2:(qD (l++[⟨vs,rs⟩])).2=0
          · refine qa z2 ?_
            have e1:(qD l).1=SS l:=by
              unfold qD solve_All.of at z1 ⊢
              rw [if_pos ((qe l).2 h1)] at z1 ⊢
              by_cases y:(SS l).length≤1000
              · rw [if_pos y]
              · rw [if_neg y] at z1;cases z1
            have e2:(qD (l++[⟨vs,rs⟩])).1=SS (l++[⟨vs,rs⟩]):=by
              unfold qD solve_All.of at z2 ⊢
              rw [if_pos ((qe _).2 hm)] at z2 ⊢
              by_cases y:(SS (l++[⟨vs,rs⟩])).length≤1000
              · rw [if_pos y]
              · rw [if_neg y] at z2;cases z2
            have hvr:vrs l=occ l:=by unfold vrs;rw [if_pos ((qe l).2 h1)]
            refine qba l hS (by omega) vs (qD l).1 (qD (l++[⟨vs,rs⟩])).1 (by omega) a1 ?_ (fun hall=>?_) vs.length 0 (by omega) (fun v hv=>by simp at hv)
            · rw [e1,e2]
              exact qaQ _ _ (qbX h1) (qcs h1 hm h3 (fun v hv=>(qbu h1 hm v).2 (.inl hv)))
            · rw [e1,e2]
              refine (qcu h3 (Chn.same hm.occ.1 h1.occ.1 (fun v=>?_))).symm
              rw [qbu h1 hm]
              exact ⟨fun h=>by rcases h with h|h;exact h;have:=hall v h;rwa [hvr] at this,.inl⟩
          · exact qc z2 (Ev.now _)
        · exact qc z1 (Ev.now _)
      · exact qc c (qa (by simp) (qf (Ev.now _) (by simp)))
theorem SharedImplied (l0:List (S34)) (l1_0:List Int) (l1_1:List Int) (w_l0:∀ x,x∈l0→(∀ y,y∈x.f0→(Lit.int .i64 y).wf=true)∧(∀ y,y∈x.f1→(Lit.int .i64 y).wf=true)) (w_l1_0:∀ x,x∈l1_0→(Lit.int .i64 x).wf=true) (w_l1_1:∀ x,x∈l1_1→(Lit.int .i64 x).wf=true):∃ k,I.ancepslaw41_SharedImplied.f k l0 l1_0 l1_1=some true:=qbC (qag l0 l1_0 l1_1)

end Go.Proofs.Ytngpkbbljnbojaa.Pure
