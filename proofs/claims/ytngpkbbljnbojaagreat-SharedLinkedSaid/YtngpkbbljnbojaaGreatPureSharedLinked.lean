import Derived.Test.YtngpkbbljnbojaaGreatL0
import Derived.Test.YtngpkbbljnbojaaGreatL2
import Derived.Test.YtngpkbbljnbojaaGreatL3
import Derived.Test.YtngpkbbljnbojaaGreatL4
import Derived.Test.YtngpkbbljnbojaaGreatL5
import Derived.Test.YtngpkbbljnbojaaGreatL6
import Derived.Test.YtngpkbbljnbojaaGreatL7
import Derived.Test.YtngpkbbljnbojaaGreatL8
import Derived.Test.YtngpkbbljnbojaaGreatL9
import Derived.Test.YtngpkbbljnbojaaGreatL10
import Derived.Test.YtngpkbbljnbojaaGreatL11
import Derived.Test.YtngpkbbljnbojaaGreatL12
import Derived.Test.YtngpkbbljnbojaaGreatL13
import Derived.Test.YtngpkbbljnbojaaGreatL14
import Derived.Test.YtngpkbbljnbojaaGreatL15
import Derived.Test.YtngpkbbljnbojaaGreatL16
import Derived.Test.YtngpkbbljnbojaaGreatL17
import Derived.Test.YtngpkbbljnbojaaGreatL18
import Derived.Test.YtngpkbbljnbojaaGreatL19
namespace Go.Proofs.YtngpkbbljnbojaaGreat.Pure
open Go.RowKit Go.Proofs.YtngpkbbljnbojaaGreatW.PrintWords Go.Proofs.YtngpkbbljnbojaaGreat.L
set_option linter.unusedVariables false
set_option linter.unusedSimpArgs false
theorem qi (n:Int) (h : -9223372036854775808≤n∧n≤9223372036854775807):wrap64 n=n:=by unfold wrap64;omega
theorem qb (i n:Nat) (hi:i<n) (hn:(n:Int)≤9223372036854775807):wrap64 ((i:Int)+1)=((i+1:Nat):Int):=by
  rw [qi _ (by omega)];omega
theorem qT {α:Type} (l:List α) (i:Nat) (z:α) (hi:i<l.length):l.drop i=l.getD i z :: l.drop (i+1):=by
  rw [List.drop_eq_getElem_cons hi]
  simp [List.getD,List.getElem?_eq_getElem hi]
theorem qa {α:Type} {c:Prop} [Decidable c] {g f:Nat→Option α} {r:α} (h:c) (e:Ev g r):Ev (fun k=>if c then g k else f k) r:=Ev.congr (fun k=>if_pos h) e
theorem qc {α:Type} {c:Prop} [Decidable c] {g f:Nat→Option α} {r:α} (h:¬ c) (e:Ev f r):Ev (fun k=>if c then g k else f k) r:=Ev.congr (fun k=>if_neg h) e
theorem qh {α:Type} {g:Nat→Option α} {r s:α} (e:Ev g r) (h:r=s):Ev g s:=h ▸ e
theorem qd {α:Type} {c:Prop} [Decidable c] {g f:Nat→Option α} {r s:α} (h1:c→Ev g r) (h2:¬ c→Ev f s):Ev (fun k=>if c then g k else f k) (if c then r else s):=by
  by_cases h:c
  · rw [if_pos h];exact qa h (h1 h)
  · rw [if_neg h];exact qc h (h2 h)
theorem qct {α:Type} {g:Nat→Option α} {r:α} (h:Ev g r):∃ k,g k=some r:=h.elim fun K h=>⟨K,h K (Nat.le_refl _)⟩

def chk (hi:Int):Option Int→List Int→Int
  | _,[]=>0
  | none,x :: xs=>if x<0∨hi≤x then 6 else chk hi (some x) xs
  | some q,x :: xs=>if x<0∨hi≤x then 6 else if x≤q then 18 else chk hi (some x) xs
def Chn (hi:Int):Option Int→List Int→Prop
  | _,[]=>True
  | p,x :: xs=>0≤x∧x<hi∧(∀ q,p=some q→q<x)∧Chn hi (some x) xs
theorem qaS (hi:Int):∀ (xs:List Int) (p:Option Int),chk hi p xs=0↔Chn hi p xs
  | [],p=>by cases p <;> simp [chk,Chn]
  | x :: xs,p=>by
    have ih:=qaS hi xs (some x)
    cases p with
    | none=>
      simp only [chk,Chn]
      by_cases h:x<0∨hi≤x
      · rw [if_pos h];exact ⟨fun h=>by omega,fun h2=>by omega⟩
      · rw [if_neg h,ih];exact ⟨fun h2=>⟨by omega,by omega,(fun q hq=>by cases hq),h2⟩,fun h2=>h2.2.2.2⟩
    | some q=>
      simp only [chk,Chn]
      by_cases h:x<0∨hi≤x
      · rw [if_pos h];exact ⟨fun h=>by omega,fun h2=>by omega⟩
      · rw [if_neg h]
        by_cases h1:x≤q
        · rw [if_pos h1];exact ⟨fun h=>by omega,fun h2=>by have:=h2.2.2.1 q rfl;omega⟩
        · rw [if_neg h1,ih];exact ⟨fun h2=>⟨by omega,by omega,fun q' hq=>by injection hq;omega,h2⟩,fun h2=>h2.2.2.2⟩
def prv (xs:List Int) (i:Nat):Option Int:=if i=0 then none else some (rd xs ((i:Int) - 1))
theorem qZ (xs:List Int) (i:Nat):prv xs (i+1)=some (rd xs i):=by
  unfold prv;rw [if_neg (by omega)];congr 2;omega
theorem qg (l:List Int) (i:Nat) (hi:i<l.length):l.drop i=rd l i :: l.drop (i+1):=qT l i 0 hi
theorem qm (ps:List Int) (i:Nat) (hi:i<ps.length):rd ps i∈ps:=by
  unfold rd
  simp only [Int.toNat_natCast,List.getD,List.getElem?_eq_getElem hi,Option.getD_some]
  exact List.getElem_mem hi
theorem q0 (n:Nat) (h:n≤60):shl .i64 1 (n:Int)=((2 ^ n:Nat):Int):=by
  have h2:(2:Nat) ^ n≤2 ^ 60:=Nat.pow_le_pow_right (by decide) h
  unfold shl
  have e:min ((n:Int)).toNat IntKind.i64.bits=n:=by
    have:IntKind.i64.bits=64:=rfl
    rw [this];omega
  rw [e,Int.one_mul,show ((2:Int) ^ n)=((2 ^ n:Nat):Int) by simp]
  have h3:(2:Nat) ^ 60=1152921504606846976:=by decide
  rw [h3] at h2
  generalize (2:Nat) ^ n=z at h2 ⊢
  rw [IntKind.wrap_i64]
  omega
def asc (vs:List Int):Int:=if (vs.length:Int)>10 then 3 else chk 24 none vs
def qx (vs rs:List Int):Int:=if asc vs=0 then chk ((2 ^ vs.length:Nat):Int) none rs else asc vs
theorem qbj (vs:List Int) (hl:(vs.length:Int)≤9223372036854775807):∀ (d i:Nat),i+d=vs.length→Ev (fun k=>table_ascending.l0 k vs vs vs.length i) (chk 24 (prv vs i) (vs.drop i))
  | 0,i,h=>by
    rw [List.drop_eq_nil_of_le (by omega)]
    refine Ev.step (f:=fun _=>some 0) (fun k=>by rw [table_ascending.l0,if_neg (by omega)]) ?_
    cases prv vs i <;> exact Ev.now _
  | d+1,i,h=>by
    have hi:i<vs.length:=by omega
    have hw:=qb i vs.length hi hl
    have ih:=qbj vs hl d (i+1) (by omega)
    rw [qZ] at ih
    rw [qg vs i hi]
    have hj:rd vs i<0∨24≤rd vs i→∀ p,chk 24 p (rd vs i :: vs.drop (i+1))=6:=fun h p=>by cases p <;> simp only [chk] <;> rw [if_pos h]
    by_cases h0:rd vs i<0
    · rw [hj (.inl h0)]
      exact Ev.step (f:=fun _=>some 6) (fun k=>by rw [table_ascending.l0,if_pos (by omega),if_pos (by omega),if_pos (by omega),if_pos h0]) (Ev.now _)
    · by_cases h1:rd vs i≥24
      · rw [hj (.inr h1)]
        exact Ev.step (f:=fun _=>some 6) (fun k=>by rw [table_ascending.l0,if_pos (by omega),if_pos (by omega),if_pos (by omega),if_neg h0,if_pos h1]) (Ev.now _)
      · by_cases e:i=0
        · have ep:prv vs i=none:=by unfold prv;rw [if_pos e]
          rw [ep]
          simp only [chk]
          rw [if_neg (by omega)]
          refine Ev.step (fun k=>by rw [table_ascending.l0,if_pos (by omega),if_pos (by omega),if_pos (by omega),if_neg h0,if_neg h1,if_neg (by omega),hw]) ih
        · have ep:prv vs i=some (rd vs ((i:Int) - 1)):=by unfold prv;rw [if_neg e]
          rw [ep]
          simp only [chk]
          rw [if_neg (by omega)]
          by_cases h2:rd vs i≤rd vs ((i:Int) - 1)
          · rw [if_pos h2]
            exact Ev.step (f:=fun _=>some 18) (fun k=>by rw [table_ascending.l0,if_pos (by omega),if_pos (by omega),if_pos (by omega),if_neg h0,if_neg h1,if_pos (by omega),qi ((i:Int) - 1) (by omega),if_pos (by omega),if_pos (by omega),if_pos (by omega)]) (Ev.now _)
          · rw [if_neg h2]
            refine Ev.step (fun k=>by rw [table_ascending.l0,if_pos (by omega),if_pos (by omega),if_pos (by omega),if_neg h0,if_neg h1,if_pos (by omega),qi ((i:Int) - 1) (by omega),if_pos (by omega),if_pos (by omega),if_neg (by omega),hw]) ih
theorem qdv (vs:List Int) (hl:(vs.length:Int)≤9223372036854775807):Ev (fun k=>table_ascending.f k vs) (asc vs):=by
  unfold asc table_ascending.f
  refine qd (fun _=>Ev.now _) (fun _=>?_)
  simpa [prv] using qbj vs hl vs.length 0 (by omega)
theorem qaF (vs rs:List Int) (hv:vs.length≤10) (hl:(rs.length:Int)≤9223372036854775807):∀ (d i:Nat),i+d=rs.length→Ev (fun k=>table_Valid.l0 k rs rs.length i vs rs) (chk ((2 ^ vs.length:Nat):Int) (prv rs i) (rs.drop i))
  | 0,i,h=>by
    rw [List.drop_eq_nil_of_le (by omega)]
    refine Ev.step (f:=fun _=>some 0) (fun k=>by rw [table_Valid.l0,if_neg (by omega)]) ?_
    cases prv rs i <;> exact Ev.now _
  | d+1,i,h=>by
    have hi:i<rs.length:=by omega
    have hw:=qb i rs.length hi hl
    have ih:=qaF vs rs hv hl d (i+1) (by omega)
    have hs:=q0 vs.length (by omega)
    rw [qZ] at ih
    rw [qg rs i hi]
    have hj:rd rs i<0∨((2 ^ vs.length:Nat):Int)≤rd rs i→∀ p,chk ((2 ^ vs.length:Nat):Int) p (rd rs i :: rs.drop (i+1))=6:=fun h p=>by cases p <;> simp only [chk] <;> rw [if_pos h]
    by_cases h0:rd rs i<0
    · rw [hj (.inl h0)]
      exact Ev.step (f:=fun _=>some 6) (fun k=>by rw [table_Valid.l0,if_pos (by omega),if_pos (by omega),if_pos (by omega),if_pos h0]) (Ev.now _)
    · by_cases h1:rd rs i≥((2 ^ vs.length:Nat):Int)
      · rw [hj (.inr h1)]
        exact Ev.step (f:=fun _=>some 6) (fun k=>by rw [table_Valid.l0,if_pos (by omega),if_pos (by omega),if_pos (by omega),if_neg h0,hs,if_pos h1]) (Ev.now _)
      · by_cases e:i=0
        · have ep:prv rs i=none:=by unfold prv;rw [if_pos e]
          rw [ep]
          simp only [chk]
          rw [if_neg (by omega)]
          refine Ev.step (fun k=>by rw [table_Valid.l0,if_pos (by omega),if_pos (by omega),if_pos (by omega),if_neg h0,hs,if_neg h1,if_neg (by omega),hw]) ih
        · have ep:prv rs i=some (rd rs ((i:Int) - 1)):=by unfold prv;rw [if_neg e]
          rw [ep]
          simp only [chk]
          rw [if_neg (by omega)]
          by_cases h2:rd rs i≤rd rs ((i:Int) - 1)
          · rw [if_pos h2]
            exact Ev.step (f:=fun _=>some 18) (fun k=>by rw [table_Valid.l0,if_pos (by omega),if_pos (by omega),if_pos (by omega),if_neg h0,hs,if_neg h1,if_pos (by omega),qi ((i:Int) - 1) (by omega),if_pos (by omega),if_pos (by omega),if_pos (by omega)]) (Ev.now _)
          · rw [if_neg h2]
            refine Ev.step (fun k=>by rw [table_Valid.l0,if_pos (by omega),if_pos (by omega),if_pos (by omega),if_neg h0,hs,if_neg h1,if_pos (by omega),qi ((i:Int) - 1) (by omega),if_pos (by omega),if_pos (by omega),if_neg (by omega),hw]) ih
theorem qbR {vs:List Int} (h:asc vs=0):vs.length≤10:=by
  unfold asc at h
  by_cases h1:(vs.length:Int)>10
  · rw [if_pos h1] at h;omega
  · omega
theorem q1 (vs rs:List Int) (hl:(vs.length:Int)≤9223372036854775807) (hr:(rs.length:Int)≤9223372036854775807):Ev (fun k=>table_Valid.f k vs rs) (qx vs rs):=by
  unfold qx
  refine Ev.bind (qdv vs hl) ?_
  refine qd (fun h=>?_) (fun _=>Ev.now _)
  simpa [prv] using qaF vs rs (qbR h) hr rs.length 0 (by omega)
structure VT (vs rs:List Int):Prop where
  len:vs.length≤10
  vars:Chn 24 none vs
  rows:Chn ((2 ^ vs.length:Nat):Int) none rs
theorem qbS (vs:List Int):asc vs=0↔vs.length≤10∧Chn 24 none vs:=by
  unfold asc
  by_cases h1:(vs.length:Int)>10
  · rw [if_pos h1];exact ⟨fun h=>by omega,fun h=>by omega⟩
  · rw [if_neg h1,qaS];exact ⟨fun h=>⟨by omega,h⟩,fun h=>h.2⟩
theorem qE (vs rs:List Int):qx vs rs=0↔VT vs rs:=by
  unfold qx
  by_cases h:asc vs=0
  · rw [if_pos h,qaS]
    have:=(qbS vs).1 h
    exact ⟨fun h=>⟨this.1,this.2,h⟩,fun h=>h.rows⟩
  · rw [if_neg h]
    exact ⟨fun h2=>absurd h2 h,fun h2=>absurd ((qbS vs).2 ⟨h2.len,h2.vars⟩) h⟩
theorem Chn.mem {hi:Int}:∀ {ns:List Int} {p:Option Int},Chn hi p ns→∀ n,n∈ns→0≤n∧n<hi∧∀ q,p=some q→q<n
  | [],_,_,n,h=>by simp at h
  | m :: ns,p,⟨h0,h1,h2,h3⟩,n,h=>by
    rcases List.mem_cons.1 h with rfl|h
    · exact ⟨h0,h1,h2⟩
    · have:=Chn.mem h3 n h
      exact ⟨this.1,this.2.1,fun q hq=>by have:=this.2.2 m rfl;have:=h2 q hq;omega⟩
theorem Chn.same {hi hi':Int}:∀ {xs ys:List Int} {p q:Option Int},Chn hi p xs→Chn hi' q ys→(∀ n,n∈xs↔n∈ys)→xs=ys
  | [],[],_,_,_,_,_=>rfl
  | [],y :: ys,_,_,_,_,h=>by have:=(h y).2 List.mem_cons_self;simp at this
  | x :: xs,[],_,_,_,_,h=>by have:=(h x).1 List.mem_cons_self;simp at this
  | x :: xs,y :: ys,p,q,⟨a0,a1,a2,a3⟩,⟨b0,b1,b2,b3⟩,h=>by
    have e:x=y:=by
      rcases List.mem_cons.1 ((h x).1 List.mem_cons_self) with h1|h1
      · exact h1
      · rcases List.mem_cons.1 ((h y).2 List.mem_cons_self) with h2|h2
        · exact h2.symm
        · have:=(b3.mem x h1).2.2 y rfl
          have:=(a3.mem y h2).2.2 x rfl
          omega
    subst e
    refine congrArg (x :: ·) (Chn.same a3 b3 (fun n=>⟨fun hn=>?_,fun hn=>?_⟩))
    · rcases List.mem_cons.1 ((h n).1 (List.mem_cons_of_mem _ hn)) with h1|h1
      · have:=(a3.mem n hn).2.2 x rfl;omega
      · exact h1
    · rcases List.mem_cons.1 ((h n).2 (List.mem_cons_of_mem _ hn)) with h1|h1
      · have:=(b3.mem n hn).2.2 x rfl;omega
      · exact h1
theorem Chn.filter {hi:Int} (f:Int→Bool):∀ {xs:List Int} {p:Option Int},Chn hi p xs→Chn hi p (xs.filter f)
  | [],_,h=>h
  | x :: xs,p,⟨h0,h1,h2,h3⟩=>by
    have ih:=h3.filter f
    rw [List.filter_cons]
    split
    · exact ⟨h0,h1,h2,ih⟩
    · revert ih
      generalize xs.filter f=zs
      intro ih
      cases zs with
      | nil=>trivial
      | cons z zs=>exact ⟨ih.1,ih.2.1,fun q hq=>by have:=h2 q hq;have:=ih.2.2.1 x rfl;omega,ih.2.2.2⟩
theorem qap (b:Bool) (out i:Nat) (h:out<2 ^ i) (j:Nat):(out+b.toNat * 2 ^ i).testBit j=(out.testBit j||(b&&decide (j=i))):=by
  rw [show out+b.toNat * 2 ^ i=2 ^ i * b.toNat+out by rw [Nat.mul_comm,Nat.add_comm],Nat.testBit_two_pow_mul_add _ h]
  by_cases hj:j<i
  · rw [if_pos hj]
    have:decide (j=i)=false:=decide_eq_false (by omega)
    rw [this,Bool.and_false,Bool.or_false]
  · rw [if_neg hj]
    have h1:out.testBit j=false:=Nat.testBit_lt_two_pow (Nat.lt_of_lt_of_le h (Nat.pow_le_pow_right (by decide) (by omega)))
    rw [h1,Bool.false_or]
    by_cases e:j=i
    · subst e;rw [Nat.sub_self];cases b <;> simp
    · have:decide (j=i)=false:=decide_eq_false e
      rw [this,Bool.and_false]
      refine Nat.testBit_lt_two_pow ?_
      have h2:b.toNat<2:=by cases b <;> simp
      have h3:2 ^ 1≤2 ^ (j - i):=Nat.pow_le_pow_right (by decide) (by omega)
      omega
theorem qC (b:Bool) (out i:Nat) (h:out<2 ^ i):out+b.toNat * 2 ^ i<2 ^ (i+1):=by
  rw [Nat.pow_succ]
  cases b
  · simp;omega
  · simp;omega
theorem qbk (x n i:Nat) (out:Nat) (hx:x<2 ^ 60) (hn:n≤60) (hi:i≤60) (ho:out<2 ^ i) :
    Go.bits .or .i64 (out:Int) (shl .i64 (Go.bits .and .i64 (shr .i64 (x:Int) (n:Int)) 1) (i:Int))=((out+(x.testBit n).toNat * 2 ^ i:Nat):Int):=by
  have hw:∀ z:Int,0≤z→z<2 ^ 62→IntKind.i64.wrap z=z:=fun z h0 h1=>by
    rw [IntKind.wrap_i64]
    have:(2:Int) ^ 62=4611686018427387904:=by decide
    omega
  have hb:IntKind.i64.bits=64:=rfl
  have h1:shr .i64 (x:Int) (n:Int)=((x / 2 ^ n:Nat):Int):=by
    unfold shr
    rw [hb,show min ((n:Int)).toNat 64=n by omega]
    simp
  have hxd:x / 2 ^ n<2 ^ 62:=Nat.lt_of_le_of_lt (Nat.div_le_self _ _) (Nat.lt_of_lt_of_le hx (by decide))
  have h2:Go.bits .and .i64 ((x / 2 ^ n:Nat):Int) 1=(((x.testBit n).toNat:Nat):Int):=by
    have:=(bits_nat .i64 62 (by decide) hw (x / 2 ^ n) 1 hxd (by decide)).1
    rw [Nat.and_one_is_mod,← Nat.toNat_testBit] at this
    exact this
  have hip:(2:Nat) ^ i≤2 ^ 60:=Nat.pow_le_pow_right (by decide) hi
  have h60:(2:Nat) ^ 60=1152921504606846976:=by decide
  have hbl:(x.testBit n).toNat * 2 ^ i≤2 ^ i:=by cases x.testBit n <;> simp
  have h3:shl .i64 (((x.testBit n).toNat:Nat):Int) (i:Int)=(((x.testBit n).toNat * 2 ^ i:Nat):Int):=by
    unfold shl
    rw [hb,show min ((i:Int)).toNat 64=i by omega]
    have e:(((x.testBit n).toNat:Nat):Int) * 2 ^ i=(((x.testBit n).toNat * 2 ^ i:Nat):Int):=by simp
    rw [e]
    exact hw _ (by omega) (by have:(2:Int) ^ 62=4611686018427387904:=by decide
                              omega)
  rw [h1,h2,h3]
  have h62:(2:Nat) ^ 62=4611686018427387904:=by decide
  rw [(bits_nat .i64 62 (by decide) hw out _ (by omega) (by omega)).2]
  congr 1
  rw [Nat.or_comm,Nat.mul_comm,← Nat.two_pow_add_eq_or_of_lt ho,Nat.add_comm]
def qF (a:Nat):List Int→Nat→Nat→Nat
  | [],_,out=>out
  | v :: vs,i,out=>qF a vs (i+1) (out+(a.testBit v.toNat).toNat * 2 ^ i)
def qQ (r:Nat):List Int→Nat→Nat→Nat
  | [],_,out=>out
  | v :: vs,i,out=>qQ r vs (i+1) (out+(r.testBit i).toNat * 2 ^ v.toNat)
theorem qbT (a:Nat):∀ (vs:List Int) (i out:Nat),out<2 ^ i→qF a vs i out<2 ^ (i+vs.length)
  | [],_,_,h=>h
  | v :: vs,i,out,h=>by
    have:=qbT a vs (i+1) _ (qC (a.testBit v.toNat) out i h)
    rw [qF,List.length_cons,show i+(vs.length+1)=i+1+vs.length by omega]
    exact this
theorem qbl (a:Nat):∀ (vs:List Int) (i out:Nat),out<2 ^ i→∀ j,((qF a vs i out).testBit j=true↔out.testBit j=true∨∃ m v,vs[m]?=some v∧j=i+m∧a.testBit v.toNat=true)
  | [],_,_,_,j=>by simp [qF]
  | v :: vs,i,out,h,j=>by
    rw [qF,qbl a vs (i+1) _ (qC (a.testBit v.toNat) out i h) j,qap _ _ _ h]
    constructor
    · rintro (h1|⟨m,u,h1,h2,h3⟩)
      · rcases Bool.or_eq_true_iff.1 h1 with h1|h1
        · exact .inl h1
        · rw [Bool.and_eq_true,decide_eq_true_eq] at h1
          exact .inr ⟨0,v,rfl,by omega,h1.1⟩
      · exact .inr ⟨m+1,u,by simpa using h1,by omega,h3⟩
    · rintro (h1|⟨m,u,h1,h2,h3⟩)
      · exact .inl (by rw [h1];rfl)
      · cases m with
        | zero=>
          obtain rfl:v=u:=by simpa using h1
          exact .inl (by rw [h3,decide_eq_true (show j=i by omega)];simp)
        | succ m=>exact .inr ⟨m,u,by simpa using h1,by omega,h3⟩
def q2 (out:Nat):List Int→Prop
  | []=>True
  | v :: _=>out<2 ^ v.toNat
theorem qM {hi:Int} {v:Int} {vs:List Int} (h:Chn hi (some v) vs) (h0:0≤v) {out:Nat} (ho:out<2 ^ (v.toNat+1)):q2 out vs:=by
  cases vs with
  | nil=>trivial
  | cons u us=>
    have:=h.2.2.1 v rfl
    exact Nat.lt_of_lt_of_le ho (Nat.pow_le_pow_right (by decide) (by omega))
theorem qbm (r:Nat) {hi:Int}:∀ (vs:List Int) (p:Option Int) (i out:Nat),Chn hi p vs→q2 out vs→∀ j,((qQ r vs i out).testBit j=true↔out.testBit j=true∨∃ m v,vs[m]?=some v∧j=v.toNat∧r.testBit (i+m)=true)
  | [],_,_,_,_,_,j=>by simp [qQ]
  | v :: vs,p,i,out,⟨h0,h1,h2,h3⟩,hu,j=>by
    have hl:=qC (r.testBit i) out v.toNat hu
    rw [qQ,qbm r vs (some v) (i+1) _ h3 (qM h3 h0 hl) j,qap _ _ _ hu]
    constructor
    · rintro (h1|⟨m,u,h1,h2,h3⟩)
      · rcases Bool.or_eq_true_iff.1 h1 with h1|h1
        · exact .inl h1
        · rw [Bool.and_eq_true,decide_eq_true_eq] at h1
          exact .inr ⟨0,v,rfl,h1.2,h1.1⟩
      · exact .inr ⟨m+1,u,by simpa using h1,h2,by rw [show i+(m+1)=i+1+m by omega];exact h3⟩
    · rintro (h1|⟨m,u,h1,h2,h3⟩)
      · exact .inl (by rw [h1];rfl)
      · cases m with
        | zero=>
          obtain rfl:v=u:=by simpa using h1
          rw [Nat.add_zero] at h3
          exact .inl (by rw [h3,decide_eq_true h2];simp)
        | succ m=>exact .inr ⟨m,u,by simpa using h1,h2,by rw [show i+1+m=i+(m+1) by omega];exact h3⟩
theorem qbU (r:Nat) {hi:Int} (hhi:0≤hi):∀ (vs:List Int) (p:Option Int) (i out:Nat),Chn hi p vs→q2 out vs→out<2 ^ hi.toNat→qQ r vs i out<2 ^ hi.toNat
  | [],_,_,_,_,_,ho=>ho
  | v :: vs,p,i,out,⟨h0,h1,h2,h3⟩,hu,_=>by
    have hl:=qC (r.testBit i) out v.toNat hu
    rw [qQ]
    refine qbU r hhi vs (some v) (i+1) _ h3 (qM h3 h0 hl) (Nat.lt_of_lt_of_le hl (Nat.pow_le_pow_right (by decide) (by omega)))
def row (vs:List Int) (a:Nat):Nat:=qF a vs 0 0
def asg (vs:List Int) (r:Nat):Nat:=qQ r vs 0 0
theorem qJ (vs:List Int) (a:Nat):row vs a<2 ^ vs.length:=by
  have:=qbT a vs 0 0 (by decide)
  rw [Nat.zero_add] at this
  exact this
theorem qj (vs:List Int) (a j:Nat):(row vs a).testBit j=true↔∃ v,vs[j]?=some v∧a.testBit v.toNat=true:=by
  unfold row
  rw [qbl a vs 0 0 (by decide)]
  constructor
  · rintro (h|⟨m,v,h1,h2,h3⟩)
    · simp at h
    · obtain rfl:j=m:=by omega
      exact ⟨v,h1,h3⟩
  · rintro ⟨v,h1,h2⟩
    exact .inr ⟨j,v,h1,by omega,h2⟩
theorem qN (vs:List Int):q2 0 vs:=by cases vs <;> simp [q2,Nat.two_pow_pos]
theorem qv {hi:Int} {vs:List Int} (h:Chn hi none vs) (r j:Nat):(asg vs r).testBit j=true↔∃ m v,vs[m]?=some v∧j=v.toNat∧r.testBit m=true:=by
  unfold asg
  rw [qbm r vs none 0 0 h (qN vs)]
  simp
theorem qdw {vs:List Int} (h:Chn 24 none vs) (r:Nat):asg vs r<2 ^ 24:=qbU r (by decide) vs none 0 0 h (qN vs) (Nat.two_pow_pos _)
theorem Chn.inj {hi:Int}:∀ {vs:List Int} {p:Option Int},Chn hi p vs→∀ (i j:Nat) (u v:Int),vs[i]?=some u→vs[j]?=some v→u.toNat=v.toNat→i=j
  | [],_,_,i,j,u,v,h,_,_=>by simp at h
  | x :: xs,p,⟨h0,h1,h2,h3⟩,i,j,u,v,hi,hj,e=>by
    cases i with
    | zero=>
      obtain rfl:x=u:=by simpa using hi
      cases j with
      | zero=>rfl
      | succ j=>
        have hj':xs[j]?=some v:=by simpa using hj
        have:=h3.mem v (List.mem_of_getElem? hj')
        have:=this.2.2 x rfl
        omega
    | succ i=>
      have hi':xs[i]?=some u:=by simpa using hi
      cases j with
      | zero=>
        obtain rfl:x=v:=by simpa using hj
        have:=h3.mem u (List.mem_of_getElem? hi')
        have:=this.2.2 x rfl
        omega
      | succ j=>rw [Chn.inj h3 i j u v hi' (by simpa using hj) e]
theorem qc8 {hi:Int} {vs:List Int} (h:Chn hi none vs) {r:Nat} (hr:r<2 ^ vs.length):row vs (asg vs r)=r:=by
  apply Nat.eq_of_testBit_eq
  intro j
  rw [Bool.eq_iff_iff,qj]
  constructor
  · rintro ⟨v,hv,hb⟩
    obtain ⟨m,u,hm,e,hr⟩:=(qv h r _).1 hb
    rw [h.inj j m v u hv hm e];exact hr
  · intro hb
    have hj:j<vs.length:=by
      rcases Nat.lt_or_ge j vs.length with h1|h1
      · exact h1
      · rw [Nat.testBit_lt_two_pow (Nat.lt_of_lt_of_le hr (Nat.pow_le_pow_right (by decide) h1))] at hb;exact absurd hb (by simp)
    exact ⟨vs[j],List.getElem?_eq_getElem hj,(qv h r _).2 ⟨j,vs[j],List.getElem?_eq_getElem hj,rfl,hb⟩⟩

theorem qn {v:Int} (h:0≤v):v=((v.toNat:Nat):Int):=by omega
theorem Chn.below {hi:Int}:∀ {xs:List Int} {p:Option Int},Chn hi p xs→∀ (i j:Nat) (x y:Int),i<j→xs[i]?=some x→xs[j]?=some y→x<y
  | [],_,_,i,j,x,y,_,h,_=>by simp at h
  | z :: zs,p,⟨_,_,_,h3⟩,i,j,x,y,hij,hx,hy=>by
    cases j with
    | zero=>omega
    | succ j=>
      have hy':zs[j]?=some y:=by simpa using hy
      cases i with
      | zero=>
        obtain rfl:z=x:=by simpa using hx
        exact (h3.mem y (List.mem_of_getElem? hy')).2.2 z rfl
      | succ i=>exact Chn.below h3 i j x y (by omega) (by simpa using hx) hy'
theorem qU (xs:List Int) (i:Nat) (h:i<xs.length):xs[i]?=some (rd xs i):=by
  simp [rd,List.getD,List.getElem?_eq_getElem h]
theorem qcN (n:Int) (h0:0≤n) (h1:n≤9223372036854775807):IntKind.u64.wrap n=n:=by
  simp [IntKind.wrap,IntKind.bits,IntKind.signed];omega
def hs (vs rs:List Int) (a:Nat):Bool:=decide (((row vs a:Nat):Int)∈rs)
theorem VT.vars' {vs rs:List Int} (h:VT vs rs):∀ v,v∈vs→0≤v∧v<24:=fun v hv=>by have:=h.vars.mem v hv;omega
theorem Chn.len1 {hi:Int}:∀ {xs:List Int} {q:Int},Chn hi (some q) xs→0≤q→q<hi→(xs.length:Int)≤hi - 1 - q
  | [],_,_,_,_=>by simp;omega
  | x :: xs,q,⟨h0,h1,h2,h3⟩,_,_=>by
    have:=Chn.len1 h3 h0 h1
    have:=h2 q rfl
    simp only [List.length_cons]
    omega
theorem Chn.len {hi:Int} {xs:List Int} (h:Chn hi none xs) (h0:0≤hi):(xs.length:Int)≤hi:=by
  cases xs with
  | nil=>simpa using h0
  | cons x xs=>
    have:=Chn.len1 h.2.2.2 h.1 h.2.1
    have:=h.1
    simp only [List.length_cons]
    omega
theorem qbh {n:Nat} (h:n≤10):2 ^ n≤1024:=by
  have:(2:Nat) ^ n≤2 ^ 10:=Nat.pow_le_pow_right (by decide) h
  omega
theorem VT.rows_len {vs rs:List Int} (h:VT vs rs):(rs.length:Int)≤1024:=by
  have h1:=h.rows.len (Int.natCast_nonneg _)
  have h2:=qbh h.len
  generalize (2:Nat) ^ vs.length=z at h1 h2
  omega
def flt (t:Nat→Bool):Nat→Nat→List Int
  | 0,_=>[]
  | d+1,r=>if t r=true then (r:Int) :: flt t d (r+1) else flt t d (r+1)
theorem qV (t:Nat→Bool):∀ (d r:Nat) (x:Int),x∈flt t d r↔∃ m:Nat,r≤m∧m<r+d∧t m=true∧x=m
  | 0,r,x=>by simp [flt];omega
  | d+1,r,x=>by
    have ih:=qV t d (r+1) x
    rw [flt]
    by_cases h:t r=true
    · rw [if_pos h,List.mem_cons,ih]
      constructor
      · rintro (rfl|⟨m,h1,h2,h3⟩)
        · exact ⟨r,by omega,by omega,h,rfl⟩
        · exact ⟨m,by omega,by omega,h3⟩
      · rintro ⟨m,h1,h2,h3,h4⟩
        by_cases e:m=r
        · exact .inl (by rw [h4,e])
        · exact .inr ⟨m,by omega,by omega,h3,h4⟩
    · rw [if_neg h,ih]
      constructor
      · rintro ⟨m,h1,h2,h3⟩;exact ⟨m,by omega,by omega,h3⟩
      · rintro ⟨m,h1,h2,h3,h4⟩
        by_cases e:m=r
        · subst e;exact absurd h3 h
        · exact ⟨m,by omega,by omega,h3,h4⟩
theorem qO (t:Nat→Bool):∀ (d r:Nat) (p:Option Int),(∀ q,p=some q→q<r)→Chn ((r+d:Nat):Int) p (flt t d r)
  | 0,_,_,_=>trivial
  | d+1,r,p,hp=>by
    have e:((r+(d+1):Nat):Int)=((r+1+d:Nat):Int):=by omega
    rw [flt,e]
    by_cases h:t r=true
    · rw [if_pos h]
      exact ⟨by omega,by omega,hp,qO t d (r+1) _ (fun q hq=>by injection hq;omega)⟩
    · rw [if_neg h]
      exact qO t d (r+1) p (fun q hq=>by have:=hp q hq;omega)
theorem qbV (t:Nat→Bool):∀ (d r:Nat),(flt t d r).length≤d
  | 0,_=>by simp [flt]
  | d+1,r=>by have:=qbV t d (r+1);rw [flt];split <;> simp <;> omega
def ovr (vs:List Int) (t:Nat→Bool):List Int:=flt (fun r=>t (asg vs r)) (2 ^ vs.length) 0
theorem qc9 (vs:List Int) (t:Nat→Bool):Chn ((2 ^ vs.length:Nat):Int) none (ovr vs t):=by
  have:=qO (fun r=>t (asg vs r)) (2 ^ vs.length) 0 none (fun q hq=>by cases hq)
  rw [Nat.zero_add] at this
  exact this
theorem qda (vs:List Int) (t:Nat→Bool) (x:Int):x∈ovr vs t↔∃ m:Nat,m<2 ^ vs.length∧t (asg vs m)=true∧x=m:=by
  unfold ovr
  rw [qV]
  constructor
  · rintro ⟨m,_,h1,h2,h3⟩;exact ⟨m,by omega,h2,h3⟩
  · rintro ⟨m,h1,h2,h3⟩;exact ⟨m,by omega,by omega,h2,h3⟩
theorem qbn {hi:Int} {x:Int} (h0:0≤x) (h1:x<hi):∀ {l:List Int} {p:Option Int},Chn hi p l→(∀ y,y∈l→y<x)→(∀ q,p=some q→q<x)→Chn hi p (l++[x])
  | [],_,_,_,hp=>⟨h0,h1,hp,trivial⟩
  | y :: l,p,⟨a0,a1,a2,a3⟩,hl,hp=>⟨a0,a1,a2,qbn h0 h1 a3 (fun z hz=>hl z (List.mem_cons_of_mem _ hz)) (fun q hq=>by injection hq with hq;rw [← hq];exact hl y List.mem_cons_self)⟩
theorem q9 {hi:Int} (d:Array Int) (hd:∀ i j,i≤j→j<d.size→d[i]!≤d[j]!) (hr:∀ i,i<d.size→0≤d[i]!∧d[i]!<hi):∀ m,m≤d.size→Chn hi none (Lib.compactUpTo d m)∧∀ n,n∈Lib.compactUpTo d m↔∃ j,j<m∧d[j]! = n
  | 0,_=>⟨by simp [Lib.compactUpTo,Chn],fun n=>by simp [Lib.compactUpTo]⟩
  | m+1,hm=>by
    obtain ⟨h1,h2⟩:=q9 d hd hr m (by omega)
    have hrm:=hr m (by omega)
    rw [Lib.compactUpTo_succ]
    by_cases hk:Lib.keeps d m=true
    · rw [if_pos hk]
      have hk2:m=0∨d[m]!≠d[m - 1]!:=by simpa [Lib.keeps] using hk
      refine ⟨qbn hrm.1 hrm.2 h1 (fun y hy=>?_) (fun q hq=>by cases hq),fun n=>?_⟩
      · obtain ⟨j,hj,rfl⟩:=(h2 y).1 hy
        have a1:=hd j (m - 1) (by omega) (by omega)
        have a2:=hd (m - 1) m (by omega) (by omega)
        rcases hk2 with h|h
        · omega
        · omega
      · rw [List.mem_append,h2]
        constructor
        · rintro (⟨j,hj,e⟩|h)
          · exact ⟨j,by omega,e⟩
          · exact ⟨m,by omega,by simpa using Eq.symm (List.mem_singleton.1 h)⟩
        · rintro ⟨j,hj,e⟩
          by_cases ej:j=m
          · subst ej;exact .inr (by simp [e])
          · exact .inl ⟨j,by omega,e⟩
    · rw [if_neg hk,List.append_nil]
      have hk2:¬ (m=0∨d[m]!≠d[m - 1]!):=by simpa [Lib.keeps] using hk
      refine ⟨h1,fun n=>?_⟩
      rw [h2]
      constructor
      · rintro ⟨j,hj,e⟩;exact ⟨j,by omega,e⟩
      · rintro ⟨j,hj,e⟩
        by_cases ej:j=m
        · subst ej
          exact ⟨j - 1,by omega,by rw [← e];exact (Classical.byContradiction fun hne=>hk2 (.inr (fun h=>hne h.symm)))⟩
        · exact ⟨j,by omega,e⟩
theorem qW {hi:Int} (l:List Int) (hr:∀ x,x∈l→0≤x∧x<hi):Chn hi none (Lib.compact (l.mergeSort fun x y=>decide (x≤y)))∧∀ n,n∈Lib.compact (l.mergeSort fun x y=>decide (x≤y))↔n∈l:=by
  have hp:=List.pairwise_mergeSort (le:=fun x y:Int=>decide (x≤y)) (fun a b c h1 h2=>by simp at *;omega) (fun a b=>by simp;omega) l
  have hperm:=List.mergeSort_perm l (fun x y:Int=>decide (x≤y))
  generalize hs:l.mergeSort (fun x y=>decide (x≤y))=s at hp hperm
  have hget:∀ i,i<s.length→s.toArray[i]! = s[i]!:=fun i hi=>by simp
  have key:=q9 (hi:=hi) s.toArray (fun i j hij hj=>by
    have hj':j<s.length:=by simpa using hj
    rw [hget i (by omega),hget j hj',List.getElem!_eq_getElem?_getD,List.getElem!_eq_getElem?_getD,List.getElem?_eq_getElem hj',List.getElem?_eq_getElem (show i<s.length by omega)]
    by_cases e:i=j
    · subst e;exact Int.le_refl _
    · have:=List.pairwise_iff_getElem.1 hp i j (by omega) hj' (by omega)
      simpa using this) (fun i hi2=>by
    have hi':i<s.length:=by simpa using hi2
    rw [hget i hi',List.getElem!_eq_getElem?_getD,List.getElem?_eq_getElem hi']
    exact hr _ (hperm.mem_iff.1 (List.getElem_mem hi'))) s.length (by simp)
  refine ⟨key.1,fun n=>?_⟩
  have h2:=key.2 n
  unfold Lib.compact
  rw [h2,← hperm.mem_iff]
  constructor
  · rintro ⟨j,hj,e⟩
    rw [hget j hj,List.getElem!_eq_getElem?_getD,List.getElem?_eq_getElem hj] at e
    exact e ▸ List.getElem_mem hj
  · intro hn
    obtain ⟨j,hj,e⟩:=List.getElem_of_mem hn
    exact ⟨j,hj,by rw [hget j hj,List.getElem!_eq_getElem?_getD,List.getElem?_eq_getElem hj];exact e⟩
theorem qcu (vs:List Int) {x y:Nat} (h:∀ w,w∈vs→x.testBit w.toNat=y.testBit w.toNat):row vs x=row vs y:=by
  apply Nat.eq_of_testBit_eq
  intro j
  rw [Bool.eq_iff_iff,qj,qj]
  constructor
  · rintro ⟨v,hv,hb⟩;exact ⟨v,hv,by rw [← h v (List.mem_of_getElem? hv)];exact hb⟩
  · rintro ⟨v,hv,hb⟩;exact ⟨v,hv,by rw [h v (List.mem_of_getElem? hv)];exact hb⟩
theorem qcv {hi:Int} {vs:List Int} (h:Chn hi none vs) (x:Nat) {w:Int} (hw:w∈vs):(asg vs (row vs x)).testBit w.toNat=x.testBit w.toNat:=by
  rw [Bool.eq_iff_iff,qv h]
  obtain ⟨i,hi2⟩:=List.getElem?_of_mem hw
  constructor
  · rintro ⟨m,v,hv,e,hb⟩
    obtain ⟨u,hu,hb⟩:=(qj vs x m).1 hb
    rw [hv] at hu
    injection hu with hu
    rw [e,hu];exact hb
  · intro hb
    exact ⟨i,w,hi2,rfl,(qj vs x i).2 ⟨w,hi2,hb⟩⟩
theorem qdb {hi:Int} {vs:List Int} (h:Chn hi none vs) (r:Nat) {v:Int} (hv:0≤v) (hn:v∉vs):(asg vs r).testBit v.toNat=false:=by
  rw [Bool.eq_false_iff]
  intro hb
  obtain ⟨m,w,hw,e,_⟩:=(qv h r _).1 hb
  have hm:=List.mem_of_getElem? hw
  have:=h.mem w hm
  exact hn (by rw [show v=w by omega];exact hm)
theorem q3 (vs rs:List Int) {x y:Nat} (h:∀ w,w∈vs→x.testBit w.toNat=y.testBit w.toNat):hs vs rs x=hs vs rs y:=by
  unfold hs;rw [qcu vs h]
theorem qdx {us:List Int} (hc:Chn 24 none us) (t:Nat→Bool) (x:Nat):hs us (ovr us t) x=t (asg us (row us x)):=by
  unfold hs
  rw [Bool.eq_iff_iff,decide_eq_true_eq,qda]
  constructor
  · rintro ⟨m,_,h1,h2⟩
    have:row us x=m:=by omega
    rw [this];exact h1
  · intro h;exact ⟨row us x,qJ us x,h,rfl⟩
def q4 (a:Nat) (v:Int) (b:Bool):Nat:=a||| (b.toNat * 2 ^ v.toNat)
theorem qcO (a:Nat) (v:Int) (b:Bool) (j:Nat):(q4 a v b).testBit j=(a.testBit j||(b&&decide (j=v.toNat))):=by
  unfold q4
  rw [Nat.testBit_or]
  have:=qap b 0 v.toNat (Nat.two_pow_pos _) j
  rw [Nat.zero_add,Nat.zero_testBit,Bool.false_or] at this
  rw [this]
def wo (vs:List Int) (v:Int):List Int:=vs.filter fun x=>!(x == v)
theorem qcw (vs:List Int) (v w:Int):w∈wo vs v↔w∈vs∧w≠v:=by unfold wo;rw [List.mem_filter];simp
theorem qaa {hi:Int} {vs:List Int} (h:Chn hi none vs) (v:Int):Chn hi none (wo vs v):=h.filter _
theorem qc3 (vs:List Int) (v:Int):(wo vs v).length≤vs.length:=List.length_filter_le _ _
theorem VT.row_of {vs rs:List Int} (h:VT vs rs) {r:Int} (hr:r∈rs):0≤r∧r.toNat<2 ^ vs.length∧row vs (asg vs r.toNat)=r.toNat:=by
  have h1:=h.rows.mem r hr
  have h2:r.toNat<2 ^ vs.length:=by
    have:=h1.2.1
    generalize 2 ^ vs.length=z at *
    omega
  exact ⟨h1.1,h2,qc8 h.vars h2⟩
theorem VT.zero {vs rs:List Int} (h:VT vs rs) (v:Int) (t:Nat→Bool):VT (wo vs v) (ovr (wo vs v) t):=
  ⟨Nat.le_trans (qc3 vs v) h.len,qaa h.vars v,qc9 _ _⟩
theorem qa1 (vs:List Int) (hl:(vs.length:Int)≤9223372036854775807):∀ (d i:Nat),i+d=vs.length→Ev (fun k=>ancepsref38_Variables.l0 k vs i) (chk 24 (prv vs i) (vs.drop i))
  | 0,i,h=>by
    rw [List.drop_eq_nil_of_le (by omega)]
    refine Ev.step (f:=fun _=>some 0) (fun k=>by rw [ancepsref38_Variables.l0,if_neg (by omega)]) ?_
    cases prv vs i <;> exact Ev.now _
  | d+1,i,h=>by
    have hi:i<vs.length:=by omega
    have hw:=qb i vs.length hi hl
    have ih:=qa1 vs hl d (i+1) (by omega)
    rw [qZ] at ih
    rw [qg vs i hi]
    have hj:rd vs i<0∨24≤rd vs i→∀ p,chk 24 p (rd vs i :: vs.drop (i+1))=6:=fun h p=>by cases p <;> simp only [chk] <;> rw [if_pos h]
    by_cases h0:rd vs i<0
    · rw [hj (.inl h0)]
      exact Ev.step (f:=fun _=>some 6) (fun k=>by rw [ancepsref38_Variables.l0,if_pos (by omega),if_pos (by omega),if_pos h0]) (Ev.now _)
    · by_cases h1:rd vs i>23
      · rw [hj (.inr (by omega))]
        exact Ev.step (f:=fun _=>some 6) (fun k=>by rw [ancepsref38_Variables.l0,if_pos (by omega),if_pos (by omega),if_neg h0,if_pos h1]) (Ev.now _)
      · by_cases e:i=0
        · have ep:prv vs i=none:=by unfold prv;rw [if_pos e]
          rw [ep]
          simp only [chk]
          rw [if_neg (by omega)]
          refine Ev.step (fun k=>by rw [ancepsref38_Variables.l0,if_pos (by omega),if_pos (by omega),if_neg h0,if_neg h1,if_neg (by omega),hw]) ih
        · have ep:prv vs i=some (rd vs ((i:Int) - 1)):=by unfold prv;rw [if_neg e]
          rw [ep]
          simp only [chk]
          rw [if_neg (by omega)]
          by_cases h2:rd vs i≤rd vs ((i:Int) - 1)
          · rw [if_pos h2]
            exact Ev.step (f:=fun _=>some 18) (fun k=>by rw [ancepsref38_Variables.l0,if_pos (by omega),if_pos (by omega),if_neg h0,if_neg h1,if_pos (by omega),qi ((i:Int) - 1) (by omega),if_pos (by omega),if_pos (by omega),if_pos h2]) (Ev.now _)
          · rw [if_neg h2]
            refine Ev.step (fun k=>by rw [ancepsref38_Variables.l0,if_pos (by omega),if_pos (by omega),if_neg h0,if_neg h1,if_pos (by omega),qi ((i:Int) - 1) (by omega),if_pos (by omega),if_pos (by omega),if_neg h2,hw]) ih
theorem qdc (vs:List Int) (hl:(vs.length:Int)≤9223372036854775807):Ev (fun k=>ancepsref38_Variables.f k vs) (asc vs):=by
  unfold asc ancepsref38_Variables.f
  refine qd (fun _=>Ev.now _) (fun _=>?_)
  simpa [prv] using qa1 vs hl vs.length 0 (by omega)
theorem qaw (vs rs:List Int) (hv:vs.length≤10) (hl:(rs.length:Int)≤9223372036854775807):∀ (d i:Nat),i+d=rs.length→Ev (fun k=>ancepsref38_Valid.l0 k i vs rs) (chk ((2 ^ vs.length:Nat):Int) (prv rs i) (rs.drop i))
  | 0,i,h=>by
    rw [List.drop_eq_nil_of_le (by omega)]
    refine Ev.step (f:=fun _=>some 0) (fun k=>by rw [ancepsref38_Valid.l0,if_neg (by omega)]) ?_
    cases prv rs i <;> exact Ev.now _
  | d+1,i,h=>by
    have hi:i<rs.length:=by omega
    have hw:=qb i rs.length hi hl
    have ih:=qaw vs rs hv hl d (i+1) (by omega)
    have hs:=q0 vs.length (by omega)
    rw [qZ] at ih
    rw [qg rs i hi]
    have hj:rd rs i<0∨((2 ^ vs.length:Nat):Int)≤rd rs i→∀ p,chk ((2 ^ vs.length:Nat):Int) p (rd rs i :: rs.drop (i+1))=6:=fun h p=>by cases p <;> simp only [chk] <;> rw [if_pos h]
    by_cases h0:rd rs i<0
    · rw [hj (.inl h0)]
      exact Ev.step (f:=fun _=>some 6) (fun k=>by rw [ancepsref38_Valid.l0,if_pos (by omega),if_pos (by omega),if_pos h0]) (Ev.now _)
    · by_cases h1:rd rs i≥((2 ^ vs.length:Nat):Int)
      · rw [hj (.inr h1)]
        exact Ev.step (f:=fun _=>some 6) (fun k=>by rw [ancepsref38_Valid.l0,if_pos (by omega),if_pos (by omega),if_neg h0,hs,if_pos h1]) (Ev.now _)
      · by_cases e:i=0
        · have ep:prv rs i=none:=by unfold prv;rw [if_pos e]
          rw [ep]
          simp only [chk]
          rw [if_neg (by omega)]
          refine Ev.step (fun k=>by rw [ancepsref38_Valid.l0,if_pos (by omega),if_pos (by omega),if_neg h0,hs,if_neg h1,if_neg (by omega),hw]) ih
        · have ep:prv rs i=some (rd rs ((i:Int) - 1)):=by unfold prv;rw [if_neg e]
          rw [ep]
          simp only [chk]
          rw [if_neg (by omega)]
          by_cases h2:rd rs i≤rd rs ((i:Int) - 1)
          · rw [if_pos h2]
            exact Ev.step (f:=fun _=>some 18) (fun k=>by rw [ancepsref38_Valid.l0,if_pos (by omega),if_pos (by omega),if_neg h0,hs,if_neg h1,if_pos (by omega),qi ((i:Int) - 1) (by omega),if_pos (by omega),if_pos (by omega),if_pos h2]) (Ev.now _)
          · rw [if_neg h2]
            refine Ev.step (fun k=>by rw [ancepsref38_Valid.l0,if_pos (by omega),if_pos (by omega),if_neg h0,hs,if_neg h1,if_pos (by omega),qi ((i:Int) - 1) (by omega),if_pos (by omega),if_pos (by omega),if_neg h2,hw]) ih
theorem qcx (vs rs:List Int) (hl:(vs.length:Int)≤9223372036854775807) (hr:(rs.length:Int)≤9223372036854775807):Ev (fun k=>ancepsref38_Valid.f k vs rs) (qx vs rs):=by
  unfold qx
  refine Ev.bind (qdc vs hl) ?_
  refine qd (fun h=>?_) (fun _=>Ev.now _)
  simpa [prv] using qaw vs rs (qbR h) hr rs.length 0 (by omega)
theorem qbo (x n i out:Nat) (hn:n≤60) (hi:i≤30) (ho:out<2 ^ i):wrap64 ((out:Int)+shl .i64 (Int.tmod (shr .i64 (x:Int) (n:Int)) 2) (i:Int))=((out+(x.testBit n).toNat * 2 ^ i:Nat):Int):=by
  have hb:IntKind.i64.bits=64:=rfl
  have h1:shr .i64 (x:Int) (n:Int)=((x / 2 ^ n:Nat):Int):=by
    unfold shr
    rw [hb,show min ((n:Int)).toNat 64=n by omega]
    simp
  have h2:Int.tmod ((x / 2 ^ n:Nat):Int) 2=(((x.testBit n).toNat:Nat):Int):=by
    rw [Nat.toNat_testBit,Int.tmod_eq_emod_of_nonneg (Int.natCast_nonneg _)]
    simp
  have hip:(2:Nat) ^ i≤2 ^ 30:=Nat.pow_le_pow_right (by decide) hi
  have h30:(2:Nat) ^ 30=1073741824:=by decide
  have hbl:(x.testBit n).toNat * 2 ^ i≤2 ^ i:=by cases x.testBit n <;> simp
  have h3:shl .i64 (((x.testBit n).toNat:Nat):Int) (i:Int)=(((x.testBit n).toNat * 2 ^ i:Nat):Int):=by
    unfold shl
    rw [hb,show min ((i:Int)).toNat 64=i by omega]
    have e:(((x.testBit n).toNat:Nat):Int) * 2 ^ i=(((x.testBit n).toNat * 2 ^ i:Nat):Int):=by simp
    rw [e,IntKind.wrap_i64]
    omega
  rw [h1,h2,h3,qi _ (by omega)]
  omega
theorem qa2 (vs:List Int) (hv:∀ v,v∈vs→0≤v∧v<24) (hl:vs.length≤24) (a:Nat):∀ (d i out:Nat),i+d=vs.length→out<2 ^ i→
    Ev (fun k=>ancepsref38_Row.l0 k vs (a:Int) (out:Int) i) ((qF a (vs.drop i) i out:Nat):Int)
  | 0,i,out,h,ho=>by
    rw [List.drop_eq_nil_of_le (by omega)]
    exact Ev.step (f:=fun _=>some (out:Int)) (fun k=>by rw [ancepsref38_Row.l0,if_neg (by omega)]) (Ev.now _)
  | d+1,i,out,h,ho=>by
    have hi:i<vs.length:=by omega
    have hw:=qb i vs.length hi (by omega)
    have hm:=hv _ (qm vs i hi)
    have ih:=qa2 vs hv hl a d (i+1) _ (by omega) (qC (a.testBit (rd vs i).toNat) out i ho)
    rw [qg vs i hi,qF]
    refine Ev.step (fun k=>?_) ih
    rw [ancepsref38_Row.l0,if_pos (by omega),if_pos (by omega),if_pos (by omega),hw]
    have hb:=qbo a (rd vs i).toNat i out (by omega) (by omega) ho
    rw [← qn hm.1] at hb
    rw [hb]
theorem qdd (vs:List Int) (hv:∀ v,v∈vs→0≤v∧v<24) (hl:vs.length≤24) (a:Nat):Ev (fun k=>ancepsref38_Row.f k vs (a:Int)) ((row vs a:Nat):Int):=by
  have:=qa2 vs hv hl a vs.length 0 0 (by omega) (by decide)
  exact this
theorem qa3 {vs:List Int} (r:Nat) (hl:vs.length≤24):∀ (d i out:Nat) (p:Option Int),i+d=vs.length→Chn 24 p (vs.drop i)→q2 out (vs.drop i)→
    Ev (fun k=>ancepsref38_Assignment.l0 k vs (r:Int) (out:Int) i) ((qQ r (vs.drop i) i out:Nat):Int)
  | 0,i,out,p,h,hc,ho=>by
    rw [List.drop_eq_nil_of_le (by omega)]
    exact Ev.step (f:=fun _=>some (out:Int)) (fun k=>by rw [ancepsref38_Assignment.l0,if_neg (by omega)]) (Ev.now _)
  | d+1,i,out,p,h,hc,ho=>by
    have hi:i<vs.length:=by omega
    have hw:=qb i vs.length hi (by omega)
    rw [qg vs i hi] at hc ho ⊢
    have hx:=qC (r.testBit i) out (rd vs i).toNat ho
    have ih:=qa3 r hl d (i+1) _ (some (rd vs i)) (by omega) hc.2.2.2 (qM hc.2.2.2 hc.1 hx)
    rw [qQ]
    refine Ev.step (fun k=>?_) ih
    have h0:=hc.1
    have h1:=hc.2.1
    rw [ancepsref38_Assignment.l0,if_pos (by omega),if_pos (by omega),if_pos (by omega),hw]
    have hb:=qbo r i (rd vs i).toNat out (by omega) (by omega) ho
    rw [← qn h0] at hb
    rw [hb]
theorem qde {vs:List Int} (hc:Chn 24 none vs) (hl:vs.length≤24) (r:Nat):Ev (fun k=>ancepsref38_Assignment.f k vs (r:Int)) ((asg vs r:Nat):Int):=by
  have:=qa3 r hl vs.length 0 0 none (by omega) hc (qN _)
  exact this
theorem qbW (rs:List Int) (hl:(rs.length:Int)≤9223372036854775807) (x:Int):∀ (d i:Nat),i+d=rs.length→Ev (fun k=>ancepsref38_in.l0 k rs x i) (decide (x∈rs.drop i))
  | 0,i,h=>by
    rw [List.drop_eq_nil_of_le (by omega)]
    exact Ev.step (f:=fun _=>some false) (fun k=>by rw [ancepsref38_in.l0,if_neg (by omega)]) (by simpa using Ev.now _)
  | d+1,i,h=>by
    have hi:i<rs.length:=by omega
    have hw:=qb i rs.length hi hl
    have ih:=qbW rs hl x d (i+1) (by omega)
    rw [qg rs i hi]
    by_cases e:rd rs i=x
    · have:decide (x∈rd rs i :: rs.drop (i+1))=true:=by simp [e]
      rw [this]
      exact Ev.step (f:=fun _=>some true) (fun k=>by rw [ancepsref38_in.l0,if_pos (by omega),if_pos (by omega),if_pos e]) (Ev.now _)
    · have:decide (x∈rd rs i :: rs.drop (i+1))=decide (x∈rs.drop (i+1)):=by
        rw [decide_eq_decide,List.mem_cons]
        exact ⟨fun h=>by rcases h with h|h;exact absurd h.symm e;exact h,.inr⟩
      rw [this]
      exact Ev.step (fun k=>by rw [ancepsref38_in.l0,if_pos (by omega),if_pos (by omega),if_neg e,hw]) ih
theorem qdM (rs:List Int) (hl:(rs.length:Int)≤9223372036854775807) (x:Int):Ev (fun k=>ancepsref38_in.f k rs x) (decide (x∈rs)):=by
  have:=qbW rs hl x rs.length 0 (by omega)
  rw [List.drop_zero] at this
  exact this
theorem qcP (vs rs:List Int):∃ b,ancepsref38_Few.f vs rs=some b∧(b=true→vs.length≤12∧rs.length≤1030):=by
  unfold ancepsref38_Few.f
  by_cases h1:(vs.length:Int)≤12
  · rw [if_pos h1];exact ⟨_,rfl,fun h=>by have:=of_decide_eq_true h;omega⟩
  · rw [if_neg h1];exact ⟨_,rfl,fun h=>by simp at h⟩
theorem qdf (o:List Bool) (m n:Nat) (v:Bool) (hl:m<o.length):rdOf false (o.set m v) (n:Int)=if m=n then v else rdOf false o (n:Int):=by
  unfold rdOf
  rw [Int.toNat_natCast]
  by_cases h:m=n
  · subst h;rw [if_pos rfl,List.getD,List.getElem?_set_self hl];rfl
  · rw [if_neg h];simp [List.getD,List.getElem?_set_ne h]
theorem qcQ {vs rs:List Int} (h:VT vs rs) (a:Nat):Ev (fun k=>ancepsref38_Holds.f k vs rs (a:Int)) (hs vs rs a):=by
  have h1:=h.rows_len
  have h2:=h.len
  exact Ev.bind (qdd vs h.vars' (by omega) a) (Ev.bind (qdM rs (by omega) _) (Ev.now _))
theorem qa4 (vs rs:List Int) (hv:∀ v,v∈vs→0≤v∧v<24) (hl:vs.length≤24) (a:Nat) (ha:a<2 ^ 60):∀ (d i out:Nat),i+d=vs.length→out<2 ^ i→
    Ev (fun k=>solve_row.l0 k (a:Int) (out:Int) vs vs.length i) ((qF a (vs.drop i) i out:Nat):Int)
  | 0,i,out,h,ho=>by
    rw [List.drop_eq_nil_of_le (by omega)]
    exact Ev.step (f:=fun _=>some (out:Int)) (fun k=>by rw [solve_row.l0,if_neg (by omega)]) (Ev.now _)
  | d+1,i,out,h,ho=>by
    have hi:i<vs.length:=by omega
    have hw:=qb i vs.length hi (by omega)
    have hm:=hv _ (qm vs i hi)
    have ih:=qa4 vs rs hv hl a ha d (i+1) _ (by omega) (qC (a.testBit (rd vs i).toNat) out i ho)
    rw [qg vs i hi,qF]
    refine Ev.step (fun k=>?_) ih
    rw [solve_row.l0,if_pos (by omega),if_pos (by omega),if_pos (by omega),if_pos (by omega),hw]
    have hb:=qbk a (rd vs i).toNat i out ha (by omega) (by omega) ho
    rw [← qn hm.1] at hb
    rw [hb]
theorem qaT (vs rs:List Int) (hv:∀ v,v∈vs→0≤v∧v<24) (hl:vs.length≤24) (a:Nat) (ha:a<2 ^ 60):Ev (fun k=>solve_row.f k vs rs (a:Int)) ((row vs a:Nat):Int):=by
  have:=qa4 vs rs hv hl a ha vs.length 0 0 (by omega) (by decide)
  exact this
theorem qo (l:List S63) (i:Nat) (hi:i<l.length):l.drop i=rd_T63 l i :: l.drop (i+1):=qT l i z63 hi
theorem qk (l:List S63) (i:Nat) (hi:i<l.length):rd_T63 l i∈l:=by
  unfold rd_T63
  simp only [Int.toNat_natCast,List.getD,List.getElem?_eq_getElem hi,Option.getD_some]
  exact List.getElem_mem hi
def qu:List S63→Int
  | []=>0
  | t :: ts=>if qx t.f0 t.f1=0 then qu ts else qx t.f0 t.f1
def qp (l:List S63):Int:=if (l.length:Int)>16 then 3 else qu l
def Sm (l:List S63):Prop:=∀ t,t∈l→t.f0.length≤1030∧t.f1.length≤1030
structure VS (l:List S63):Prop where
  len:l.length≤16
  tab:∀ t,t∈l→VT t.f0 t.f1
theorem qa5:∀ l:List S63,qu l=0↔∀ t,t∈l→VT t.f0 t.f1
  | []=>by simp [qu]
  | t :: ts=>by
    have ih:=qa5 ts
    unfold qu
    by_cases h:qx t.f0 t.f1=0
    · rw [if_pos h,ih]
      exact ⟨fun h2 x hx=>by rcases List.mem_cons.1 hx with rfl|hx;exact (qE _ _).1 h;exact h2 x hx,fun h2 x hx=>h2 x (List.mem_cons_of_mem _ hx)⟩
    · rw [if_neg h]
      exact ⟨fun h2=>absurd h2 h,fun h2=>absurd ((qE _ _).2 (h2 t List.mem_cons_self)) h⟩
theorem qf (l:List S63):qp l=0↔VS l:=by
  unfold qp
  by_cases h:(l.length:Int)>16
  · rw [if_pos h];exact ⟨fun h2=>by omega,fun h2=>by have:=h2.len;omega⟩
  · rw [if_neg h,qa5];exact ⟨fun h2=>⟨by omega,h2⟩,fun h2=>h2.tab⟩
theorem qax (l:List S63) (hs:Sm l) (hl:l.length≤1000):∀ (d i:Nat),i+d=l.length→Ev (fun k=>solve_valid.l0 k l l.length i) (qu (l.drop i))
  | 0,i,h=>by
    rw [List.drop_eq_nil_of_le (by omega)]
    exact Ev.step (f:=fun _=>some 0) (fun k=>by rw [solve_valid.l0,if_neg (by omega)]) (Ev.now _)
  | d+1,i,h=>by
    have hi:i<l.length:=by omega
    have hw:=qb i l.length hi (by omega)
    have hm:=hs _ (qk l i hi)
    rw [qo l i hi,qu]
    refine Ev.step (fun k=>by rw [solve_valid.l0,if_pos (by omega),if_pos (by omega),if_pos (by omega),hw]) (Ev.bind (q1 _ _ (by omega) (by omega)) ?_)
    exact qd (fun _=>qax l hs hl d (i+1) (by omega)) (fun _=>Ev.now _)
theorem qz (l:List S63) (hs:Sm l) (hl:l.length≤1000):Ev (fun k=>solve_valid.f k l) (qp l):=by
  unfold qp solve_valid.f
  exact qd (fun _=>Ev.now _) (fun _=>by simpa using qax l hs hl l.length 0 (by omega))
theorem qab (l:List S63) (hs:Sm l) (hl:l.length≤1000):∀ (d i:Nat),i+d=l.length→Ev (fun k=>ancepsref40_Valid.l0 k l i) (qu (l.drop i))
  | 0,i,h=>by
    rw [List.drop_eq_nil_of_le (by omega)]
    exact Ev.step (f:=fun _=>some 0) (fun k=>by rw [ancepsref40_Valid.l0,if_neg (by omega)]) (Ev.now _)
  | d+1,i,h=>by
    have hi:i<l.length:=by omega
    have hw:=qb i l.length hi (by omega)
    have hm:=hs _ (qk l i hi)
    rw [qo l i hi,qu]
    refine Ev.step (fun k=>by rw [ancepsref40_Valid.l0,if_pos (by omega),if_pos (by omega),hw]) (Ev.bind (qcx _ _ (by omega) (by omega)) ?_)
    exact qd (fun _=>qab l hs hl d (i+1) (by omega)) (fun _=>Ev.now _)
theorem qs (l:List S63) (hs:Sm l) (hl:l.length≤1000):Ev (fun k=>ancepsref40_Valid.f k l) (qp l):=by
  unfold qp ancepsref40_Valid.f
  exact qd (fun _=>Ev.now _) (fun _=>by simpa using qab l hs hl l.length 0 (by omega))
theorem qac (l:List S63) (Q:Prop) (rows:Int) (i:Nat) (hi:i<l.length) (hl:l.length≤18) (hv:(rd_T63 l i).f0.length≤1030)
    (H:∀ (seen:List Bool) (n:Int),seen.length=24→∃ b,Ev (fun k=>ancepsref40_Few.l0 k l seen n rows ((i+1:Nat):Int)) b∧(b=true→Q)) :
    ∀ (d j:Nat) (seen:List Bool) (n:Int),j+d=(rd_T63 l i).f0.length→seen.length=24→∃ b,Ev (fun k=>ancepsref40_Few.l1 k l seen n rows i j) b∧(b=true→Q)
  | 0,j,seen,n,h,hs=>by
    obtain ⟨b,hb,hq⟩:=H seen n hs
    have hw:=qb i l.length hi (by omega)
    exact ⟨b,Ev.step (fun k=>by rw [ancepsref40_Few.l1,if_pos (by omega),if_pos (by omega),if_neg (by omega),hw]) hb,hq⟩
  | d+1,j,seen,n,h,hs=>by
    have hj:j<(rd_T63 l i).f0.length:=by omega
    have hw:=qb j _ hj (by omega)
    by_cases h0:rd (rd_T63 l i).f0 j≥0
    · by_cases h1:rd (rd_T63 l i).f0 j<24
      · by_cases hb:rdOf false seen (rd (rd_T63 l i).f0 j)=true
        · obtain ⟨b,e,hq⟩:=qac l Q rows i hi hl hv H d (j+1) seen n (by omega) hs
          exact ⟨b,Ev.step (fun k=>by rw [ancepsref40_Few.l1,if_pos (by omega),if_pos (by omega),if_pos (by omega),if_pos (by omega),if_pos h0,if_pos h1,if_pos (by omega),if_pos (by omega),if_pos hb,hw]) e,hq⟩
        · obtain ⟨b,e,hq⟩:=qac l Q rows i hi hl hv H d (j+1) (seen.set (rd (rd_T63 l i).f0 j).toNat true) (wrap64 (n+1)) (by omega) (by rw [List.length_set];exact hs)
          exact ⟨b,Ev.step (fun k=>by rw [ancepsref40_Few.l1,if_pos (by omega),if_pos (by omega),if_pos (by omega),if_pos (by omega),if_pos h0,if_pos h1,if_pos (by omega),if_pos (by omega),if_neg hb,hw]) e,hq⟩
      · obtain ⟨b,e,hq⟩:=qac l Q rows i hi hl hv H d (j+1) seen n (by omega) hs
        exact ⟨b,Ev.step (fun k=>by rw [ancepsref40_Few.l1,if_pos (by omega),if_pos (by omega),if_pos (by omega),if_pos (by omega),if_pos h0,if_neg h1,hw]) e,hq⟩
    · obtain ⟨b,e,hq⟩:=qac l Q rows i hi hl hv H d (j+1) seen n (by omega) hs
      exact ⟨b,Ev.step (fun k=>by rw [ancepsref40_Few.l1,if_pos (by omega),if_pos (by omega),if_pos (by omega),if_pos (by omega),if_neg h0,hw]) e,hq⟩
theorem qbX (l:List S63) (hl:l.length≤18):∀ (d i:Nat) (seen:List Bool) (n rows:Int),i+d=l.length→seen.length=24→∃ b,Ev (fun k=>ancepsref40_Few.l0 k l seen n rows i) b∧(b=true→Sm (l.drop i))
  | 0,i,seen,n,rows,h,hs=>by
    rw [List.drop_eq_nil_of_le (by omega)]
    have hq:Sm []:=fun t ht=>by simp at ht
    by_cases hn:n≤10
    · exact ⟨_,Ev.step (f:=fun _=>some (decide (rows≤2000))) (fun k=>by rw [ancepsref40_Few.l0,if_neg (by omega),if_pos hn]) (Ev.now _),fun _=>hq⟩
    · exact ⟨false,Ev.step (f:=fun _=>some false) (fun k=>by rw [ancepsref40_Few.l0,if_neg (by omega),if_neg hn]) (Ev.now _),fun h=>by cases h⟩
  | d+1,i,seen,n,rows,h,hs=>by
    have hi:i<l.length:=by omega
    obtain ⟨b,hb,hf⟩:=qcP (rd_T63 l i).f0 (rd_T63 l i).f1
    cases b with
    | false=>exact ⟨false,Ev.step (f:=fun _=>some false) (fun k=>by rw [ancepsref40_Few.l0,if_pos (by omega),if_pos (by omega),hb];rfl) (Ev.now _),fun h=>by cases h⟩
    | true=>
      obtain ⟨f1,f2⟩:=hf rfl
      obtain ⟨b,e,hq⟩:=qac l (Sm (l.drop (i+1))) (wrap64 (rows+((rd_T63 l i).f1.length:Int))) i hi hl (by omega)
        (fun seen n hs=>qbX l hl d (i+1) seen n _ (by omega) hs) (rd_T63 l i).f0.length 0 seen n (by omega) hs
      refine ⟨b,Ev.step (fun k=>by rw [ancepsref40_Few.l0,if_pos (by omega),if_pos (by omega),hb];rfl) e,fun h=>?_⟩
      rw [qo l i hi]
      intro t ht
      rcases List.mem_cons.1 ht with rfl|ht
      · omega
      · exact hq h t ht
theorem qdg (l:List S63):∃ b,Ev (fun k=>ancepsref40_Few.f k l) b∧(b=true→Sm l∧l.length≤18):=by
  unfold ancepsref40_Few.f
  by_cases h:(l.length:Int)>18
  · exact ⟨false,qa h (Ev.now _),fun h=>by cases h⟩
  · obtain ⟨b,e,hq⟩:=qbX l (by omega) l.length 0 (List.replicate 24 false) 0 0 (by omega) (by simp)
    exact ⟨b,qc h (qa (by decide) (by simpa using e)),fun h2=>⟨by simpa using hq h2,by omega⟩⟩
def flat (l:List S63):List Int:=l.flatMap (·.f0)
def occ (l:List S63):List Int:=Lib.compact ((flat l).mergeSort fun x y=>decide (x≤y))
theorem VS.flat {l:List S63} (h:VS l):∀ v,v∈flat l→0≤v∧v<24:=fun v hv=>by
  obtain ⟨t,ht,hv⟩:=List.mem_flatMap.1 hv
  exact (h.tab t ht).vars' v hv
theorem VS.occ {l:List S63} (h:VS l):Chn 24 none (occ l)∧∀ v,v∈occ l↔v∈Pure.flat l:=qW (Pure.flat l) h.flat
theorem qa6 (t:S63) (l:List S63):flat (t :: l)=t.f0++flat l:=by simp [flat]
theorem qbp (l:List S63) (hs:Sm l) (hl:l.length≤1000):∀ (d i:Nat) (acc:List Int),i+d=l.length→acc.length≤1030 * i→Ev (fun k=>solve_occurring.l0 k acc l l.length i) (Lib.compact ((acc++flat (l.drop i)).mergeSort fun x y=>decide (x≤y)))
  | 0,i,acc,h,ha=>by
    rw [List.drop_eq_nil_of_le (by omega),show flat []=[] from rfl,List.append_nil]
    refine Ev.step (fun k=>by rw [solve_occurring.l0,if_neg (by omega)]) ?_
    have hs:slices_Sort_int_int.f acc=some (acc.mergeSort fun x y=>decide (x≤y)):=by
      unfold slices_Sort_int_int.f
      rw [if_pos (by omega)]
    simp only [hs,Option.bind_some]
    exact Ev.now _
  | d+1,i,acc,h,ha=>by
    have hi:i<l.length:=by omega
    have hw:=qb i l.length hi (by omega)
    have hm:=hs _ (qk l i hi)
    have ih:=qbp l hs hl d (i+1) (acc++(rd_T63 l i).f0) (by omega) (by rw [List.length_append];omega)
    rw [qo l i hi,qa6,← List.append_assoc]
    exact Ev.step (fun k=>by rw [solve_occurring.l0,if_pos (by omega),if_pos (by omega),if_pos (by omega),if_pos (by omega),hw]) ih
theorem qaG (l:List S63) (hs:Sm l) (hl:l.length≤1000):Ev (fun k=>solve_occurring.f k l) (occ l):=by
  have:=qbp l hs hl l.length 0 [] (by omega) (by simp)
  rw [List.nil_append,List.drop_zero] at this
  exact this
def qr:List Int→List Bool→List Bool
  | [],s=>s
  | v :: vs,s=>qr vs (s.set v.toNat true)
theorem qad:∀ (vs:List Int) (s:List Bool),(qr vs s).length=s.length
  | [],_=>rfl
  | v :: vs,s=>by rw [qr,qad,List.length_set]
theorem qbq:∀ (vs:List Int) (s:List Bool),(∀ v,v∈vs→0≤v∧v<(s.length:Int))→∀ m:Nat,rdOf false (qr vs s) (m:Int)=(rdOf false s (m:Int)||decide ((m:Int)∈vs))
  | [],s,_,m=>by simp [qr]
  | v :: vs,s,h,m=>by
    have hv:=h v List.mem_cons_self
    rw [qr,qbq vs _ (fun x hx=>by rw [List.length_set];exact h x (List.mem_cons_of_mem _ hx)),qdf s v.toNat m true (by omega)]
    by_cases e:v.toNat=m
    · rw [if_pos e,Bool.true_or]
      have:(m:Int)=v:=by omega
      simp [this]
    · rw [if_neg e]
      have:(m:Int)≠v:=by omega
      simp [this]
theorem qbY (l:List S63) (i:Nat) (hi:i<l.length) (hl:l.length≤16) (hv:(rd_T63 l i).f0.length≤1030) (hr:∀ v,v∈(rd_T63 l i).f0→0≤v∧v<24) (r:List Int) :
    ∀ (d j:Nat) (seen:List Bool),j+d=(rd_T63 l i).f0.length→seen.length=24→Ev (fun k=>ancepsref40_Vars.l0 k l (qr ((rd_T63 l i).f0.drop j) seen) ((i+1:Nat):Int)) r→Ev (fun k=>ancepsref40_Vars.l1 k l seen i j) r
  | 0,j,seen,h,hs,H=>by
    rw [List.drop_eq_nil_of_le (by omega)] at H
    have hw:=qb i l.length hi (by omega)
    exact Ev.step (fun k=>by rw [ancepsref40_Vars.l1,if_pos (by omega),if_pos (by omega),if_neg (by omega),hw];rfl) H
  | d+1,j,seen,h,hs,H=>by
    have hj:j<(rd_T63 l i).f0.length:=by omega
    have hw:=qb j _ hj (by omega)
    have hm:=hr _ (qm (rd_T63 l i).f0 j hj)
    rw [qg _ j hj,qr] at H
    have ih:=qbY l i hi hl hv hr r d (j+1) (seen.set (rd (rd_T63 l i).f0 j).toNat true) (by omega) (by rw [List.length_set];exact hs) H
    exact Ev.step (fun k=>by rw [ancepsref40_Vars.l1,if_pos (by omega),if_pos (by omega),if_pos (by omega),if_pos (by omega),if_pos (by omega),if_pos (by omega),hw]) ih
theorem qaC (seen:List Bool) (hs:seen.length=24):∀ (d v:Nat) (acc:List Int),v+d=24→acc.length≤v→Ev (fun k=>ancepsref40_Vars.l2 k seen acc v) (acc++flt (fun m=>rdOf false seen (m:Int)) d v)
  | 0,v,acc,h,ha=>by
    exact Ev.step (f:=fun _=>some acc) (fun k=>by rw [ancepsref40_Vars.l2,if_neg (by omega)]) (by simpa [flt] using Ev.now _)
  | d+1,v,acc,h,ha=>by
    have hw:wrap64 ((v:Int)+1)=((v+1:Nat):Int):=by rw [qi _ (by omega)];omega
    rw [flt]
    by_cases e:rdOf false seen (v:Int)=true
    · have ih:=qaC seen hs d (v+1) (acc++[(v:Int)]) (by omega) (by simp;omega)
      rw [if_pos e]
      rw [List.append_assoc,List.singleton_append] at ih
      exact Ev.step (fun k=>by rw [ancepsref40_Vars.l2,if_pos (by omega),if_pos (by omega),if_pos (by omega),if_pos e,if_pos (by omega),hw]) ih
    · have ih:=qaC seen hs d (v+1) acc (by omega) (by omega)
      rw [if_neg e]
      exact Ev.step (fun k=>by rw [ancepsref40_Vars.l2,if_pos (by omega),if_pos (by omega),if_pos (by omega),if_neg e,hw]) ih
theorem qa7 (l:List S63) (h:VS l):∀ (d i:Nat) (seen:List Bool),i+d=l.length→seen.length=24→Ev (fun k=>ancepsref40_Vars.l0 k l seen i) (flt (fun m=>rdOf false (qr (flat (l.drop i)) seen) (m:Int)) 24 0)
  | 0,i,seen,hd,hs=>by
    rw [List.drop_eq_nil_of_le (by omega)]
    have:=qaC seen hs 24 0 [] (by omega) (by simp)
    rw [List.nil_append] at this
    exact Ev.step (fun k=>by rw [ancepsref40_Vars.l0,if_neg (by omega)];rfl) this
  | d+1,i,seen,hd,hs=>by
    have hi:i<l.length:=by omega
    have hm:=h.tab _ (qk l i hi)
    have ih:=qa7 l h d (i+1) (qr (rd_T63 l i).f0 seen) (by omega) (by rw [qad];exact hs)
    have hap:∀ (a b:List Int) (s:List Bool),qr (a++b) s=qr b (qr a s):=by
      intro a
      induction a with
      | nil=>intro b s;rfl
      | cons x xs ihx=>intro b s;rw [List.cons_append,qr,qr,ihx]
    rw [qo l i hi,qa6,hap]
    have key:=qbY l i hi h.len (by have:=hm.len;omega) hm.vars' _ (rd_T63 l i).f0.length 0 seen (by omega) hs (by rw [List.drop_zero];exact ih)
    exact Ev.step (fun k=>by rw [ancepsref40_Vars.l0,if_pos (by omega)];rfl) key
theorem qR {l:List S63} (h:VS l) (hs:Sm l):Ev (fun k=>ancepsref40_Vars.f k l) (occ l):=by
  have hl:=h.len
  refine Ev.bind (qs l hs (by omega)) (qa ((qf l).2 h) (qa (by decide) ?_))
  refine qh (qa7 l h l.length 0 (List.replicate 24 false) (by omega) (by simp)) ?_
  rw [List.drop_zero]
  have h24:=qO (fun m=>rdOf false (qr (flat l) (List.replicate 24 false)) (m:Int)) 24 0 none (fun q hq=>by cases hq)
  refine Chn.same h24 h.occ.1 (fun n=>?_)
  rw [h.occ.2,qV]
  have hat:=qbq (flat l) (List.replicate 24 false) (fun v hv=>by have:=h.flat v hv;simp;omega)
  have hz:∀ m:Nat,rdOf false (List.replicate 24 false) (m:Int)=false:=by
    intro m
    unfold rdOf
    simp only [Int.toNat_natCast,List.getD_eq_getElem?_getD,List.getElem?_replicate]
    split <;> rfl
  constructor
  · rintro ⟨m,_,hm,ht,rfl⟩
    rw [hat,hz,Bool.false_or,decide_eq_true_eq] at ht
    exact ht
  · intro hn
    have:=h.flat n hn
    refine ⟨n.toNat,by omega,by omega,?_,by omega⟩
    rw [hat,hz,Bool.false_or,decide_eq_true_eq,← qn this.1]
    exact hn

theorem qaH (l:List Int) (hl:(l.length:Int)≤9223372036854775807) (x:Int):∀ (d i:Nat),i+d=l.length→∃ q:Int,Ev (fun k=>slices_Index_int_int.l0 k l x l.length i) q∧decide (q≥0)=decide (x∈l.drop i)
  | 0,i,h=>by
    rw [List.drop_eq_nil_of_le (by omega)]
    exact ⟨-1,Ev.step (f:=fun _=>some (-1)) (fun k=>by rw [slices_Index_int_int.l0,if_neg (by omega)]) (Ev.now _),by simp⟩
  | d+1,i,h=>by
    have hi:i<l.length:=by omega
    have hw:=qb i l.length hi hl
    obtain ⟨q,hq,hq2⟩:=qaH l hl x d (i+1) (by omega)
    rw [qg l i hi]
    by_cases e:x=rd l i
    · exact ⟨i,Ev.step (f:=fun _=>some (i:Int)) (fun k=>by rw [slices_Index_int_int.l0,if_pos (by omega),if_pos (by omega),if_pos (by omega),if_pos e]) (Ev.now _),decide_eq_decide.2 ⟨fun _=>by rw [e];exact List.mem_cons_self,fun _=>by omega⟩⟩
    · refine ⟨q,Ev.step (fun k=>by rw [slices_Index_int_int.l0,if_pos (by omega),if_pos (by omega),if_pos (by omega),if_neg e,hw]) hq,?_⟩
      rw [hq2,decide_eq_decide,List.mem_cons]
      exact ⟨.inr,fun h=>by rcases h with h|h;exact absurd h e;exact h⟩
theorem qw (l:List Int) (hl:(l.length:Int)≤9223372036854775807) (x:Int):Ev (fun k=>slices_Contains_int_int.f k l x) (decide (x∈l)):=by
  obtain ⟨q,hq,hq2⟩:=qaH l hl x l.length 0 (by omega)
  rw [List.drop_zero] at hq2
  rw [← hq2]
  exact Ev.bind hq (Ev.now _)

theorem qay (a b:Nat) (ha:a<2 ^ 62) (hb:b<2 ^ 62):Go.bits .andNot .i64 (a:Int) (b:Int)=((a&&& (a ^^^ b):Nat):Int):=by
  have h62:(2:Nat) ^ 62=4611686018427387904:=by decide
  have h64:(2:Nat) ^ IntKind.i64.bits=18446744073709551616:=by decide
  have hx:a&&& (a ^^^ b)≤a:=Nat.and_le_left
  have ha':a % 2 ^ IntKind.i64.bits=a:=Nat.mod_eq_of_lt (by omega)
  have hb':b % 2 ^ IntKind.i64.bits=b:=Nat.mod_eq_of_lt (by omega)
  have e:∀ x y:BitVec IntKind.i64.bits,x&&& ~~~y=x&&& (x ^^^ y):=by
    intro x y
    ext i hi
    simp only [BitVec.getElem_and,BitVec.getElem_not,BitVec.getElem_xor]
    cases x[i] <;> cases y[i] <;> rfl
  simp only [Go.bits,BitVec.ofInt_natCast,e,BitVec.toNat_and,BitVec.toNat_xor,BitVec.toNat_ofNat,ha',hb']
  rw [IntKind.wrap_i64]
  omega
def ql:List Int→Nat→Nat
  | [],m=>m
  | v :: vs,m=>ql vs (m||| 2 ^ v.toNat)
theorem qy:∀ (vs:List Int) (m j:Nat),(ql vs m).testBit j=(m.testBit j||vs.any fun v=>v.toNat == j)
  | [],m,j=>by simp [ql]
  | v :: vs,m,j=>by
    rw [ql,qy vs,Nat.testBit_or,Nat.testBit_two_pow,List.any_cons,Bool.or_assoc]
    congr 1
theorem qbZ:∀ (vs:List Int) (m:Nat),(∀ v,v∈vs→0≤v∧v<24)→m<2 ^ 24→ql vs m<2 ^ 24
  | [],m,_,h=>h
  | v :: vs,m,hv,h=>qbZ vs _ (fun x hx=>hv x (List.mem_cons_of_mem _ hx)) (Nat.or_lt_two_pow h (Nat.pow_lt_pow_right (by decide) (by have:=hv v List.mem_cons_self;omega)))
theorem qaI {hi:Int} {vs:List Int} (h:Chn hi none vs) (a j:Nat):(asg vs (row vs a)).testBit j=(a.testBit j&&(ql vs 0).testBit j):=by
  rw [qy,Nat.zero_testBit,Bool.false_or,Bool.eq_iff_iff,qv h,Bool.and_eq_true,List.any_eq_true]
  constructor
  · rintro ⟨m,v,hv,rfl,hb⟩
    obtain ⟨u,hu,hb⟩:=(qj vs a m).1 hb
    rw [hv] at hu
    injection hu with hu
    exact ⟨by rw [hu];exact hb,v,List.mem_of_getElem? hv,by simp⟩
  · rintro ⟨hb,v,hv,e⟩
    obtain ⟨i,hi2⟩:=List.getElem?_of_mem hv
    have e2:v.toNat=j:=by simpa using e
    exact ⟨i,v,hi2,e2.symm,(qj vs a i).2 ⟨v,hi2,by rw [e2];exact hb⟩⟩
theorem qcg {hi:Int} {vs:List Int} (h:Chn hi none vs) (a:Nat):asg vs (row vs a)=a↔a&&& (a ^^^ ql vs 0)=0:=by
  constructor
  · intro e
    apply Nat.eq_of_testBit_eq
    intro j
    have:=qaI h a j
    rw [e] at this
    rw [Nat.testBit_and,Nat.testBit_xor,Nat.zero_testBit]
    revert this
    cases a.testBit j <;> cases (ql vs 0).testBit j <;> simp
  · intro e
    apply Nat.eq_of_testBit_eq
    intro j
    rw [qaI h]
    have:=congrArg (fun z=>z.testBit j) e
    simp only [Nat.testBit_and,Nat.testBit_xor,Nat.zero_testBit] at this
    revert this
    cases a.testBit j <;> cases (ql vs 0).testBit j <;> simp
theorem qaJ (l:List S63) (vs:List Int) (hv:∀ v,v∈vs→0≤v∧v<24) (hl:vs.length≤24) (a:Int) (r:Bool):∀ (d i m:Nat),i+d=vs.length→m<2 ^ 24→
    Ev (fun k=>if (Go.bits .andNot .i64 a ((ql (vs.drop i) m:Nat):Int))=0 then ((api_Table_solve_Holds_1.f k l a).bind fun t=>(some (!t))) else (some false)) r→Ev (fun k=>solve_Holds.l0 k l (m:Int) vs vs.length i a) r
  | 0,i,m,h,hm,H=>by
    rw [List.drop_eq_nil_of_le (by omega)] at H
    exact Ev.step (fun k=>by rw [solve_Holds.l0,if_neg (by omega)];rfl) H
  | d+1,i,m,h,hm,H=>by
    have hi:i<vs.length:=by omega
    have hw:=qb i vs.length hi (by omega)
    have h1:=hv _ (qm vs i hi)
    rw [qg vs i hi,ql] at H
    have ih:=qaJ l vs hv hl a r d (i+1) _ (by omega) (Nat.or_lt_two_pow hm (Nat.pow_lt_pow_right (by decide) (by omega))) H
    refine Ev.step (fun k=>?_) ih
    rw [solve_Holds.l0,if_pos (by omega),if_pos (by omega),if_pos (by omega),if_pos (by omega),hw]
    have e:=q0 (rd vs i).toNat (by omega)
    rw [← qn h1.1] at e
    have hp:2 ^ (rd vs i).toNat<2 ^ 24:=Nat.pow_lt_pow_right (by decide) (by omega)
    have hw2:∀ z:Int,0≤z→z<2 ^ 62→IntKind.i64.wrap z=z:=fun z h0 h1=>by
      rw [IntKind.wrap_i64]
      have:(2:Int) ^ 62=4611686018427387904:=by decide
      omega
    have h62:(2:Nat) ^ 24≤2 ^ 62:=by decide
    rw [e,(bits_nat .i64 62 (by decide) hw2 m _ (by omega) (by omega)).2]
theorem qaK {l:List S63} (h:VS l) (a:Nat) (ha:a<2 ^ 24):∀ (d i:Nat),i+d=l.length→∃ q:Int,Ev (fun k=>api_Table_solve_Holds_1_v2.l0 k l l.length i (a:Int)) q∧decide (q≥0)=(l.drop i).any fun t=>!hs t.f0 t.f1 a
  | 0,i,hd=>by
    rw [List.drop_eq_nil_of_le (by omega)]
    exact ⟨-1,Ev.step (f:=fun _=>some (-1)) (fun k=>by rw [api_Table_solve_Holds_1_v2.l0,if_neg (by omega)]) (Ev.now _),rfl⟩
  | d+1,i,hd=>by
    have hi:i<l.length:=by omega
    have hl:=h.len
    have hw:=qb i l.length hi (by omega)
    have hm:=h.tab _ (qk l i hi)
    have hr:=hm.rows_len
    obtain ⟨q,hq,hq2⟩:=qaK h a ha d (i+1) (by omega)
    have h1:Ev (fun k=>solve_Holds_1_v1.f k (rd_T63 l i).f0 (rd_T63 l i).f1 (a:Int)) (!hs (rd_T63 l i).f0 (rd_T63 l i).f1 a):=
      Ev.bind (qaT _ _ hm.vars' (by have:=hm.len;omega) a (Nat.lt_of_lt_of_le ha (by decide))) (Ev.bind (qw _ (by omega) _) (Ev.now _))
    rw [qo l i hi,List.any_cons]
    by_cases e:(!hs (rd_T63 l i).f0 (rd_T63 l i).f1 a)=true
    · rw [e] at h1 ⊢
      exact ⟨i,Ev.step (fun k=>by rw [api_Table_solve_Holds_1_v2.l0,if_pos (by omega),if_pos (by omega),if_pos (by omega)]) (Ev.bind h1 (qa rfl (Ev.now _))),by rw [Bool.true_or];exact decide_eq_true (by omega)⟩
    · rw [Bool.not_eq_true] at e
      rw [e] at h1 ⊢
      exact ⟨q,Ev.step (fun k=>by rw [api_Table_solve_Holds_1_v2.l0,if_pos (by omega),if_pos (by omega),if_pos (by omega),hw]) (Ev.bind h1 (qc Bool.false_ne_true hq)),by rw [Bool.false_or];exact hq2⟩
def hsS (l:List S63) (a:Nat):Bool:=decide (asg (occ l) (row (occ l) a)=a)&&l.all fun t=>hs t.f0 t.f1 a
def hld (l:List S63) (a:Int):Bool:=if qp l=0 then if a<0 then false else if a≥16777216 then false else hsS l a.toNat else false
theorem VS.occ' {l:List S63} (h:VS l):∀ v,v∈Pure.occ l→0≤v∧v<24:=fun v hv=>by have:=h.occ.1.mem v hv;omega
theorem VS.occ_len {l:List S63} (h:VS l):(Pure.occ l).length≤24:=by have:=h.occ.1.len (by decide);omega
theorem qcR (l:List S63) (hs':Sm l) (hl:l.length≤1000) (a:Int):Ev (fun k=>solve_Holds.f k l a) (hld l a):=by
  refine Ev.bind (qz l hs' hl) (qd (fun h=>qd (fun _=>Ev.now _) (fun h0=>?_)) (fun _=>Ev.now _))
  have hv:=(qf l).1 h
  by_cases h1:a≥16777216
  · rw [if_pos h1];exact qa h1 (Ev.now _)
  · rw [if_neg h1]
    refine qc h1 (Ev.bind (qaG l hs' hl) ?_)
    have h24:(2:Nat) ^ 24=16777216:=by decide
    have ha:a.toNat<2 ^ 24:=by omega
    refine qaJ l (occ l) hv.occ' hv.occ_len a _ (occ l).length 0 0 (by omega) (by decide) ?_
    rw [List.drop_zero]
    have hm:=qbZ (occ l) 0 hv.occ' (by decide)
    have e:Go.bits .andNot .i64 a ((ql (occ l) 0:Nat):Int)=((a.toNat&&& (a.toNat ^^^ ql (occ l) 0):Nat):Int):=by
      have:=qay a.toNat (ql (occ l) 0) (Nat.lt_of_lt_of_le ha (by decide)) (Nat.lt_of_lt_of_le hm (by decide))
      rw [← qn (by omega)] at this
      exact this
    have iff:=qcg hv.occ.1 a.toNat
    unfold hsS
    by_cases c:asg (occ l) (row (occ l) a.toNat)=a.toNat
    · have c2:=iff.1 c
      rw [decide_eq_true c,Bool.true_and]
      refine qa (by rw [e,c2];rfl) ?_
      obtain ⟨q,hq,hq2⟩:=qaK hv a.toNat ha l.length 0 (by omega)
      rw [← qn (by omega),List.drop_zero] at *
      refine Ev.bind (show Ev (fun k=>api_Table_solve_Holds_1.f k l a) (decide (q≥0)) from Ev.bind hq (Ev.now _)) ?_
      rw [hq2]
      refine qh (Ev.now _) ?_
      rw [List.any_eq_not_all_not,Bool.not_not]
      (try simp only [Bool.not_not])
    · rw [decide_eq_false c,Bool.false_and]
      refine qc (fun h2=>c (iff.2 ?_)) (Ev.now _)
      rw [e] at h2
      exact_mod_cast h2
def fl (t:S63) (C V:Nat):Bool:=!(t.f1.any fun r=>r.toNat&&& row t.f0 C == row t.f0 V)
theorem w62:∀ z:Int,0≤z→z<2 ^ 62→IntKind.i64.wrap z=z:=fun z h0 h1=>by
  rw [IntKind.wrap_i64]
  have:(2:Int) ^ 62=4611686018427387904:=by decide
  omega
theorem qa8 (rs:List Int) (hl:(rs.length:Int)≤9223372036854775807) (hr:∀ r,r∈rs→0≤r∧r.toNat<2 ^ 62) (m w:Nat) (hm:m<2 ^ 62):∀ (d i:Nat),i+d=rs.length→
    ∃ q:Int,Ev (fun k=>slices_IndexFunc_int_int_solve_choices_fails_1.l0 k rs rs.length i (m:Int) (w:Int)) q∧decide (q≥0)=(rs.drop i).any fun r=>r.toNat&&& m == w
  | 0,i,h=>by
    rw [List.drop_eq_nil_of_le (by omega)]
    exact ⟨-1,Ev.step (f:=fun _=>some (-1)) (fun k=>by rw [slices_IndexFunc_int_int_solve_choices_fails_1.l0,if_neg (by omega)]) (Ev.now _),rfl⟩
  | d+1,i,h=>by
    have hi:i<rs.length:=by omega
    have hw:=qb i rs.length hi hl
    obtain ⟨q,hq,hq2⟩:=qa8 rs hl hr m w hm d (i+1) (by omega)
    have h1:=hr _ (qm rs i hi)
    have hb:=(bits_nat .i64 62 (by decide) w62 (rd rs i).toNat m h1.2 hm).1
    rw [← qn h1.1] at hb
    have hf:solve_choices_fails_1_v1.f (rd rs i) (m:Int) (w:Int)=some ((rd rs i).toNat&&& m == w):=by
      unfold solve_choices_fails_1_v1.f
      rw [hb]
      congr 1
      rw [Bool.eq_iff_iff,beq_iff_eq,beq_iff_eq]
      omega
    rw [qg rs i hi,List.any_cons]
    by_cases e:((rd rs i).toNat&&& m == w)=true
    · rw [e] at hf ⊢
      exact ⟨i,Ev.step (fun k=>by rw [slices_IndexFunc_int_int_solve_choices_fails_1.l0,if_pos (by omega),if_pos (by omega),if_pos (by omega),hf];rfl) (Ev.now (i:Int)),by rw [Bool.true_or];exact decide_eq_true (by omega)⟩
    · rw [Bool.not_eq_true] at e
      rw [e] at hf ⊢
      exact ⟨q,Ev.step (fun k=>by rw [slices_IndexFunc_int_int_solve_choices_fails_1.l0,if_pos (by omega),if_pos (by omega),if_pos (by omega),hf,hw];rfl) hq,by rw [Bool.false_or];exact hq2⟩
theorem p62 {a n:Nat} (h:a<2 ^ n) (hn:n≤62):a<2 ^ 62:=Nat.lt_of_lt_of_le h (Nat.pow_le_pow_right (by decide) hn)
theorem qcS {t:S63} (h:VT t.f0 t.f1) (C V:Nat) (hC:C<2 ^ 24) (hV:V<2 ^ 24):Ev (fun k=>solve_choices_fails.f k (C:Int) (V:Int) t.f0 t.f1) (fl t C V):=by
  have hl:=h.len
  have hr:=h.rows_len
  refine Ev.bind (qaT _ _ h.vars' (by omega) C (p62 hC (by decide) |> fun _=>Nat.lt_of_lt_of_le hC (by decide))) (Ev.bind (qaT _ _ h.vars' (by omega) V (Nat.lt_of_lt_of_le hV (by decide))) ?_)
  obtain ⟨q,hq,hq2⟩:=qa8 t.f1 (by omega) (fun r hr=>⟨(h.row_of hr).1,p62 (h.row_of hr).2.1 (by omega)⟩) (row t.f0 C) (row t.f0 V) (p62 (qJ _ _) (by omega)) t.f1.length 0 (by omega)
  rw [List.drop_zero] at hq2
  refine Ev.bind (show Ev (fun k=>slices_ContainsFunc_int_int_solve_choices_fails_1.f k t.f1 ((row t.f0 C:Nat):Int) ((row t.f0 V:Nat):Int)) (decide (q≥0)) from Ev.bind hq (Ev.now _)) ?_
  rw [hq2]
  exact Ev.now _
def ffl (C V:Nat):List S63→Nat→Int
  | [],_=>-1
  | t :: ts,i=>if fl t C V=true then (i:Int) else ffl C V ts (i+1)
theorem qaU (C V:Nat):∀ (l:List S63) (i:Nat),0≤ffl C V l i↔(l.any fun t=>fl t C V)=true
  | [],i=>by simp [ffl]
  | t :: ts,i=>by
    have ih:=qaU C V ts (i+1)
    rw [ffl,List.any_cons]
    by_cases h:fl t C V=true
    · rw [if_pos h,h];simp
    · rw [if_neg h,ih];rw [Bool.not_eq_true] at h;rw [h,Bool.false_or]
theorem qae {l:List S63} (h:VS l) (C V:Nat) (hC:C<2 ^ 24) (hV:V<2 ^ 24):∀ (d i:Nat),i+d=l.length→Ev (fun k=>api_Table_solve_choices_fails.l0 k l l.length i (C:Int) (V:Int)) (ffl C V (l.drop i) i)
  | 0,i,hd=>by
    rw [List.drop_eq_nil_of_le (by omega)]
    exact Ev.step (f:=fun _=>some (-1)) (fun k=>by rw [api_Table_solve_choices_fails.l0,if_neg (by omega)]) (Ev.now _)
  | d+1,i,hd=>by
    have hi:i<l.length:=by omega
    have hl:=h.len
    have hw:=qb i l.length hi (by omega)
    have ih:=qae h C V hC hV d (i+1) (by omega)
    rw [qo l i hi,ffl]
    refine Ev.step (fun k=>by rw [api_Table_solve_choices_fails.l0,if_pos (by omega),if_pos (by omega),if_pos (by omega),hw]) (Ev.bind (qcS (h.tab _ (qk l i hi)) C V hC hV) ?_)
    exact qd (fun _=>Ev.now _) (fun _=>ih)
theorem qaL {l:List S63} (h:VS l) (C V:Nat) (hC:C<2 ^ 24) (hV:V<2 ^ 24):Ev (fun k=>solve_choices_failing.f k (C:Int) (V:Int) l) (ffl C V l 0):=by
  have:=qae h C V hC hV l.length 0 (by omega)
  rw [List.drop_zero] at this
  exact Ev.bind this (Ev.now _)
def wC (C:Nat) (v:Int):Nat:=C||| 2 ^ v.toNat
def wV (V:Nat) (v:Int) (b:Bool):Nat:=(V&&& (V ^^^ 2 ^ v.toNat))||| b.toNat * 2 ^ v.toNat
theorem qc4 {C:Nat} {v:Int} (h:C<2 ^ 24) (h0:0≤v) (h1:v<24):wC C v<2 ^ 24:=Nat.or_lt_two_pow h (Nat.pow_lt_pow_right (by decide) (by omega))
theorem qc5 {V:Nat} {v:Int} (b:Bool) (h:V<2 ^ 24) (h0:0≤v) (h1:v<24):wV V v b<2 ^ 24:=by
  have hp:2 ^ v.toNat<2 ^ 24:=Nat.pow_lt_pow_right (by decide) (by omega)
  refine Nat.or_lt_two_pow (Nat.lt_of_le_of_lt Nat.and_le_left h) ?_
  cases b
  · simp
  · simpa using hp
theorem qbr (C:Nat) (v:Int) (j:Nat):(wC C v).testBit j=(C.testBit j||v.toNat == j):=by
  unfold wC
  rw [Nat.testBit_or,Nat.testBit_two_pow]
  congr 1
theorem qbs (V:Nat) (v:Int) (b:Bool) (j:Nat):(wV V v b).testBit j=((V.testBit j&&!(v.toNat == j))||(b&&v.toNat == j)):=by
  unfold wV
  rw [Nat.testBit_or,Nat.testBit_and,Nat.testBit_xor,Nat.testBit_two_pow]
  have h1:(b.toNat * 2 ^ v.toNat).testBit j=(b&&v.toNat == j):=by
    cases b
    · simp
    · simp only [Bool.toNat_true,Nat.one_mul,Nat.testBit_two_pow,Bool.true_and]
      rfl
  rw [h1]
  congr 1
  have e:decide (v.toNat=j)=(v.toNat == j):=rfl
  rw [e]
  cases V.testBit j <;> cases (v.toNat == j) <;> rfl
theorem qb0 {C V:Nat} {v:Int} (b:Bool) (hC:C<2 ^ 24) (hV:V<2 ^ 24) (h0:0≤v) (h1:v<24):solve_choices_with.f (C:Int) (V:Int) v ((b.toNat:Nat):Int)=some (((wC C v:Nat):Int),((wV V v b:Nat):Int)):=by
  unfold solve_choices_with.f
  rw [if_pos h0]
  have hp:2 ^ v.toNat<2 ^ 24:=Nat.pow_lt_pow_right (by decide) (by omega)
  have e1:=q0 v.toNat (by omega)
  rw [← qn h0] at e1
  have e2:shl .i64 ((b.toNat:Nat):Int) v=((b.toNat * 2 ^ v.toNat:Nat):Int):=by
    cases b
    · simp only [Bool.toNat_false,Nat.zero_mul]
      unfold shl
      rw [show ((0:Nat):Int)=0 from rfl,Int.zero_mul]
      rfl
    · simp only [Bool.toNat_true,Nat.one_mul]
      exact e1
  have hbp:b.toNat * 2 ^ v.toNat<2 ^ 24:=by
    cases b
    · simp
    · simpa using hp
  have k1:=(bits_nat .i64 62 (by decide) w62 C (2 ^ v.toNat) (p62 hC (by decide)) (p62 hp (by decide))).2
  have k2:=qay V (2 ^ v.toNat) (p62 hV (by decide)) (p62 hp (by decide))
  have k3:=(bits_nat .i64 62 (by decide) w62 (V&&& (V ^^^ 2 ^ v.toNat)) (b.toNat * 2 ^ v.toNat) (p62 (Nat.lt_of_le_of_lt Nat.and_le_left hV) (by decide)) (p62 hbp (by decide))).2
  rw [e1,e2,k1,k2,k3]
  rfl
def qaf (l:List S63):List Int→Nat→Nat→List Int
  | [],C,V=>if (l.any fun t=>fl t C V)=true then [] else [(V:Int)]
  | v :: us,C,V=>if (l.any fun t=>fl t C V)=true then [] else qaf l us (wC C v) (wV V v false)++qaf l us (wC C v) (wV V v true)
theorem qag {l:List S63} (h:VS l):∀ (us:List Int) (C V:Nat),C<2 ^ 24→V<2 ^ 24→us.length≤24→(∀ v,v∈us→0≤v∧v<24)→Ev (fun k=>solve_search.f k l us.reverse (C:Int) (V:Int)) (qaf l us C V)
  | [],C,V,hC,hV,hl,hv=>by
    refine Ev.step (fun k=>by rw [solve_search.f]) (Ev.bind (qaL h C V hC hV) ?_)
    have hn:=qaU C V l 0
    rw [qaf]
    by_cases e:(l.any fun t=>fl t C V)=true
    · rw [if_pos e];exact qa (hn.2 e) (Ev.now _)
    · rw [if_neg e];exact qc (fun h2=>e (hn.1 h2)) (qa rfl (Ev.now _))
  | v :: us,C,V,hC,hV,hl,hv=>by
    refine Ev.step (fun k=>by rw [solve_search.f]) (Ev.bind (qaL h C V hC hV) ?_)
    have hn:=qaU C V l 0
    have h1:=hv v List.mem_cons_self
    rw [List.length_cons] at hl
    rw [qaf]
    by_cases e:(l.any fun t=>fl t C V)=true
    · rw [if_pos e];exact qa (hn.2 e) (Ev.now _)
    · rw [if_neg e]
      have hlen:((v :: us).reverse.length:Int)=(us.length:Int)+1:=by simp
      have hwr:wrap64 (((v :: us).reverse.length:Int) - 1)=(us.length:Int):=by rw [hlen,qi _ (by omega)];omega
      have hrd:rd (v :: us).reverse (us.length:Int)=v:=by
        unfold rd
        simp [List.getD]
      have htk:(v :: us).reverse.take ((us.length:Int)).toNat=us.reverse:=by
        rw [List.reverse_cons,Int.toNat_natCast,List.take_append_of_le_length (by simp),List.take_of_length_le (by simp)]
      have ih0:=qag h us (wC C v) (wV V v false) (qc4 hC h1.1 h1.2) (qc5 false hV h1.1 h1.2) (by omega) (fun x hx=>hv x (List.mem_cons_of_mem _ hx))
      have ih1:=qag h us (wC C v) (wV V v true) (qc4 hC h1.1 h1.2) (qc5 true hV h1.1 h1.2) (by omega) (fun x hx=>hv x (List.mem_cons_of_mem _ hx))
      have w0:=qb0 (v:=v) false hC hV h1.1 h1.2
      have w1:=qb0 (v:=v) true hC hV h1.1 h1.2
      refine qc (fun h2=>e (hn.1 h2)) (qc (by omega) ?_)
      rw [hwr,hrd,htk]
      refine qa (by omega) (qa (by omega) (qa (by omega) ?_))
      rw [show (0:Int)=((false.toNat:Nat):Int) from rfl,w0]
      refine Ev.bind (Ev.now _) (Ev.bind ih0 ?_)
      rw [show (1:Int)=((true.toNat:Nat):Int) from rfl,w1]
      exact Ev.bind (Ev.now _) (Ev.bind ih1 (Ev.now _))
theorem qdh {t:S63} (h:VT t.f0 t.f1) {C V:Nat} (hc:∀ w,w∈t.f0→C.testBit w.toNat=true):fl t C V=!hs t.f0 t.f1 V:=by
  unfold fl hs
  congr 1
  rw [Bool.eq_iff_iff,List.any_eq_true,decide_eq_true_eq]
  have key:∀ r:Nat,r<2 ^ t.f0.length→r&&& row t.f0 C=r:=by
    intro r hr
    apply Nat.eq_of_testBit_eq
    intro j
    rw [Nat.testBit_and]
    by_cases hj:j<t.f0.length
    · have:(row t.f0 C).testBit j=true:=(qj _ _ _).2 ⟨_,List.getElem?_eq_getElem hj,hc _ (List.getElem_mem hj)⟩
      rw [this,Bool.and_true]
    · rw [Nat.testBit_lt_two_pow (Nat.lt_of_lt_of_le hr (Nat.pow_le_pow_right (by decide) (by omega))),Bool.false_and]
  constructor
  · rintro ⟨r,hr,e⟩
    have hro:=h.row_of hr
    rw [key _ hro.2.1,beq_iff_eq] at e
    rw [← e,← qn hro.1];exact hr
  · intro hm
    exact ⟨_,hm,by rw [Int.toNat_natCast,key _ (qJ _ _)];simp⟩
theorem qcT {t:S63} {C V a:Nat} (hf:fl t C V=true) (ha:∀ w,w∈t.f0→V.testBit w.toNat=(a.testBit w.toNat&&C.testBit w.toNat)):hs t.f0 t.f1 a=false:=by
  rw [Bool.eq_false_iff]
  intro hh
  unfold fl at hf
  rw [Bool.not_eq_true',List.any_eq_false] at hf
  have hm:((row t.f0 a:Nat):Int)∈t.f1:=by simpa [hs] using hh
  refine hf _ hm ?_
  rw [Int.toNat_natCast,beq_iff_eq]
  apply Nat.eq_of_testBit_eq
  intro j
  rw [Nat.testBit_and,Bool.eq_iff_iff,Bool.and_eq_true,qj,qj,qj]
  constructor
  · rintro ⟨⟨v,hv,h1⟩,u,hu,h2⟩
    rw [hv] at hu
    injection hu with hu
    subst hu
    exact ⟨v,hv,by rw [ha v (List.mem_of_getElem? hv),h1,h2];rfl⟩
  · rintro ⟨v,hv,h1⟩
    rw [ha v (List.mem_of_getElem? hv),Bool.and_eq_true] at h1
    exact ⟨⟨v,hv,h1.1⟩,v,hv,h1.2⟩
def sat (l:List S63) (a:Nat):Bool:=l.all fun t=>hs t.f0 t.f1 a
def sl (l:List S63) (us:List Int) (V:Nat):List Nat:=((List.range (2 ^ us.length)).map fun i=>asg us i||| V).filter (sat l)
theorem qaD {hi:Int}:∀ {us ws:List Int} {p:Option Int},Chn hi p (us++ws)→Chn hi p us
  | [],_,_,_=>trivial
  | _ :: us,ws,_,⟨h0,h1,h2,h3⟩=>⟨h0,h1,h2,qaD h3⟩
theorem qbt {hi:Int} {us:List Int} {v:Int} (h:Chn hi none (us++[v])) (i:Nat) (V:Nat) :
    (i<2 ^ us.length→asg (us++[v]) i||| V=asg us i||| V)∧(i<2 ^ us.length→asg (us++[v]) (2 ^ us.length+i)||| V=asg us i||| (V||| 2 ^ v.toNat)):=by
  have hu:=qaD h
  have gl:∀ (m:Nat) (w:Int),(us++[v])[m]?=some w↔us[m]?=some w∨(m=us.length∧w=v):=by
    intro m w
    by_cases hm:m<us.length
    · rw [List.getElem?_append_left hm]
      exact ⟨.inl,fun hh=>hh.elim id (fun ⟨e,_⟩=>by omega)⟩
    · rw [List.getElem?_append_right (by omega),List.getElem?_eq_none (by omega:us.length≤m)]
      by_cases e:m=us.length
      · subst e;simp [eq_comm]
      · rw [List.getElem?_eq_none (by simp;omega)];simp [e]
  have gb:∀ m,us[m]?≠none→m<us.length:=fun m hm=>by
    rcases Nat.lt_or_ge m us.length with h|h
    · exact h
    · exact absurd (List.getElem?_eq_none h) hm
  constructor
  · intro hi2
    apply Nat.eq_of_testBit_eq
    intro j
    rw [Nat.testBit_or,Nat.testBit_or]
    congr 1
    rw [Bool.eq_iff_iff,qv h,qv hu]
    constructor
    · rintro ⟨m,w,hm,rfl,hb⟩
      rcases (gl m w).1 hm with h1|⟨rfl,rfl⟩
      · exact ⟨m,w,h1,rfl,hb⟩
      · rw [Nat.testBit_lt_two_pow hi2] at hb;exact absurd hb (by simp)
    · rintro ⟨m,w,hm,rfl,hb⟩
      exact ⟨m,w,(gl m w).2 (.inl hm),rfl,hb⟩
  · intro hi2
    have hbit:∀ m,(2 ^ us.length+i).testBit m=(i.testBit m||m == us.length):=by
      intro m
      have:=qap true i us.length hi2 m
      simp only [Bool.toNat_true,Nat.one_mul,Bool.true_and] at this
      rw [Nat.add_comm]
      exact this
    apply Nat.eq_of_testBit_eq
    intro j
    rw [Nat.testBit_or,Nat.testBit_or,Nat.testBit_or,Nat.testBit_two_pow]
    have e:(asg (us++[v]) (2 ^ us.length+i)).testBit j=((asg us i).testBit j||decide (v.toNat=j)):=by
      rw [Bool.eq_iff_iff,qv h,Bool.or_eq_true,qv hu,decide_eq_true_eq]
      constructor
      · rintro ⟨m,w,hm,rfl,hb⟩
        rcases (gl m w).1 hm with h1|⟨rfl,rfl⟩
        · rw [hbit] at hb
          have:=gb m (by rw [h1];simp)
          rw [show (m == us.length)=false from by simp;omega,Bool.or_false] at hb
          exact .inl ⟨m,w,h1,rfl,hb⟩
        · exact .inr rfl
      · rintro (⟨m,w,hm,rfl,hb⟩|rfl)
        · exact ⟨m,w,(gl m w).2 (.inl hm),rfl,by rw [hbit,hb,Bool.true_or]⟩
        · exact ⟨us.length,v,(gl _ _).2 (.inr ⟨rfl,rfl⟩),rfl,by rw [hbit];simp⟩
    rw [e]
    cases (asg us i).testBit j <;> cases V.testBit j <;> cases decide (v.toNat=j) <;> rfl
theorem qb1 (l:List S63) {hi:Int} {us:List Int} {v:Int} (h:Chn hi none (us++[v])) (V:Nat):sl l (us++[v]) V=sl l us V++sl l us (V||| 2 ^ v.toNat):=by
  unfold sl
  rw [List.length_append,List.length_singleton,Nat.pow_succ,Nat.mul_two,List.range_add,List.map_append,List.filter_append,List.map_map]
  congr 1
  · congr 1
    exact List.map_congr_left (fun i hi2=>(qbt h i V).1 (List.mem_range.1 hi2))
  · congr 1
    exact List.map_congr_left (fun i hi2=>(qbt h i V).2 (List.mem_range.1 hi2))
theorem qL (v:Int) (ws:List Int) (j:Nat):(ql (v :: ws) 0).testBit j=((ql ws 0).testBit j||v.toNat == j):=by
  rw [qy,qy,List.any_cons,Nat.zero_testBit,Bool.false_or,Bool.false_or,Bool.or_comm]
theorem qaV {l:List S63} (h:VS l):∀ (us ws:List Int) (V:Nat),occ l=us.reverse++ws→(∀ j,V.testBit j=true→(ql ws 0).testBit j=true)→qaf l us (ql ws 0) V=(sl l us.reverse V).map fun a:Nat=>(a:Int)
  | [],ws,V,ho,hv=>by
    have hw:ws=occ l:=by simpa using ho.symm
    have e:(l.any fun t=>fl t (ql ws 0) V)=!sat l V:=by
      unfold sat
      rw [List.not_all_eq_any_not,Bool.eq_iff_iff,List.any_eq_true,List.any_eq_true]
      have hx:∀ t,t∈l→fl t (ql ws 0) V=!hs t.f0 t.f1 V:=fun t ht=>qdh (h.tab t ht) (fun w hw2=>by
        rw [qy,Nat.zero_testBit,Bool.false_or,List.any_eq_true]
        exact ⟨w,by rw [hw,h.occ.2];exact List.mem_flatMap.2 ⟨t,ht,hw2⟩,by simp⟩)
      exact ⟨fun ⟨t,ht,h2⟩=>⟨t,ht,by rw [← hx t ht];exact h2⟩,fun ⟨t,ht,h2⟩=>⟨t,ht,by rw [hx t ht];exact h2⟩⟩
    rw [qaf,e]
    have hz:sl l [] V=if sat l V=true then [V] else []:=by
      unfold sl
      have:asg [] 0=0:=rfl
      simp only [List.length_nil,Nat.pow_zero,List.range_one,List.map_cons,List.map_nil,this,Nat.zero_or,List.filter_cons,List.filter_nil]
    rw [List.reverse_nil,hz]
    cases sat l V <;> simp
  | v :: us,ws,V,ho,hv=>by
    have ho2:occ l=us.reverse++(v :: ws):=by rw [ho];simp
    have hc:=h.occ.1
    rw [ho] at hc
    have hch:=qaD hc
    rw [List.reverse_cons] at hch
    rw [qaf]
    have hvb:V.testBit v.toNat=false:=by
      rw [Bool.eq_false_iff]
      intro hb
      have hm:=hv _ hb
      rw [qy,Nat.zero_testBit,Bool.false_or,List.any_eq_true] at hm
      obtain ⟨w,hw,e⟩:=hm
      have hw2:w.toNat=v.toNat:=by simpa using e
      have hall:=h.occ.1
      rw [ho2] at hall
      obtain ⟨m,hm⟩:=List.getElem?_of_mem hw
      have i1:(us.reverse++(v :: ws))[us.reverse.length]?=some v:=by rw [List.getElem?_append_right (by omega)];simp
      have i2:(us.reverse++(v :: ws))[us.reverse.length+(m+1)]?=some w:=by rw [List.getElem?_append_right (by omega)];simpa using hm
      have:=hall.inj _ _ _ _ i1 i2 hw2.symm
      omega
    have eC:wC (ql ws 0) v=ql (v :: ws) 0:=by
      apply Nat.eq_of_testBit_eq
      intro j
      rw [qbr,qL]
    have e0:wV V v false=V:=by
      apply Nat.eq_of_testBit_eq
      intro j
      rw [qbs,Bool.false_and,Bool.or_false]
      by_cases e:v.toNat=j
      · subst e;rw [hvb,Bool.false_and]
      · have:(v.toNat == j)=false:=by simpa using e
        rw [this];simp
    have e1:wV V v true=V||| 2 ^ v.toNat:=by
      apply Nat.eq_of_testBit_eq
      intro j
      rw [qbs,Bool.true_and,Nat.testBit_or,Nat.testBit_two_pow]
      have e:decide (v.toNat=j)=(v.toNat == j):=rfl
      rw [e]
      cases V.testBit j <;> cases (v.toNat == j) <;> rfl
    have ih0:=qaV h us (v :: ws) V ho2 (fun j hj=>by rw [qL,hv j hj,Bool.true_or])
    have ih1:=qaV h us (v :: ws) (V||| 2 ^ v.toNat) ho2 (fun j hj=>by
      rw [qL]
      rw [Nat.testBit_or,Nat.testBit_two_pow,Bool.or_eq_true] at hj
      rcases hj with hj|hj
      · rw [hv j hj,Bool.true_or]
      · have e:(v.toNat == j)=true:=hj
        rw [e,Bool.or_true])
    rw [List.reverse_cons,qb1 l hch,List.map_append,eC,e0,e1,ih0,ih1]
    by_cases e:(l.any fun t=>fl t (ql ws 0) V)=true
    · rw [if_pos e,← List.map_append,← qb1 l hch]
      obtain ⟨t,ht,hf⟩:=List.any_eq_true.1 e
      have hnil:sl l (us.reverse++[v]) V=[]:=by
        unfold sl
        rw [List.filter_eq_nil_iff]
        intro a ha
        obtain ⟨i,hi2,rfl⟩:=List.mem_map.1 ha
        have:hs t.f0 t.f1 (asg (us.reverse++[v]) i||| V)=false:=by
          refine qcT hf (fun w hw=>?_)
          rw [Nat.testBit_or]
          by_cases hm:(ql ws 0).testBit w.toNat=true
          · rw [hm,Bool.and_true]
            have:(asg (us.reverse++[v]) i).testBit w.toNat=false:=by
              rw [Bool.eq_false_iff]
              intro hb
              obtain ⟨m,u,hu,eu,_⟩:=(qv hch i _).1 hb
              rw [qy,Nat.zero_testBit,Bool.false_or,List.any_eq_true] at hm
              obtain ⟨x,hx,ex⟩:=hm
              have ex2:x.toNat=w.toNat:=by simpa using ex
              obtain ⟨n,hn⟩:=List.getElem?_of_mem hx
              have hml:m<(us.reverse++[v]).length:=(List.getElem?_eq_some_iff.1 hu).1
              have hall:=h.occ.1
              rw [ho,List.reverse_cons] at hall
              have i1:((us.reverse++[v])++ws)[m]?=some u:=by rw [List.getElem?_append_left hml];exact hu
              have i2:((us.reverse++[v])++ws)[(us.reverse++[v]).length+n]?=some x:=by rw [List.getElem?_append_right (by omega)];simpa using hn
              have:=hall.inj _ _ _ _ i1 i2 (by omega)
              omega
            rw [this,Bool.false_or]
          · rw [Bool.not_eq_true] at hm
            have hvf:V.testBit w.toNat=false:=by
              rw [Bool.eq_false_iff]
              intro hb
              rw [hv _ hb] at hm
              exact absurd hm (by simp)
            rw [hm,Bool.and_false,hvf]
        unfold sat
        rw [Bool.not_eq_true,List.all_eq_false]
        exact ⟨t,ht,by rw [this];simp⟩
      rw [hnil];rfl
    · rw [if_neg e]
def SS (l:List S63):List Int:=(sl l (occ l) 0).map fun a:Nat=>(a:Int)
theorem qbu {l:List S63} (h:VS l):Ev (fun k=>solve_search.f k l (occ l) 0 0) (SS l):=by
  have h1:=qag h (occ l).reverse 0 0 (by decide) (by decide) (by rw [List.length_reverse];exact h.occ_len) (fun v hv=>h.occ' v (List.mem_reverse.1 hv))
  rw [List.reverse_reverse] at h1
  refine qh h1 ?_
  have:=qaV h (occ l).reverse [] 0 (by simp) (fun j hj=>by simp at hj)
  rw [List.reverse_reverse] at this
  exact this

def solve_All.of (s:List Int):List Int×Int:=if s.length≤1000 then (s,0) else ([],3)

def qe (l:List S63):Int×Int:=if qp l=0 then solve_First.of (SS l) else (0,qp l)
theorem qA (l:List S63) (hs:Sm l) (hl:l.length≤1000):Ev (fun k=>solve_First.f k l) (qe l):=
  Ev.bind (qz l hs hl) (qd (fun h=>Ev.bind (qaG l hs hl) (Ev.bind (qbu ((qf l).1 h)) (Ev.now _))) (fun _=>Ev.now _))
theorem qaz (l:List Int) (hl:(l.length:Int)≤9223372036854775807):∀ (d i:Nat),i+d=l.length→Ev (fun k=>slices_Equal_int_int.l0 k l l l.length i) true
  | 0,i,h=>Ev.step (f:=fun _=>some true) (fun k=>by rw [slices_Equal_int_int.l0,if_neg (by omega)]) (Ev.now _)
  | d+1,i,h=>by
    have hw:=qb i l.length (by omega) hl
    exact Ev.step (fun k=>by rw [slices_Equal_int_int.l0,if_pos (by omega),if_pos (by omega),if_pos (by omega),if_pos (by omega),if_pos rfl,hw]) (qaz l hl d (i+1) (by omega))
theorem qcy (l:List Int) (hl:(l.length:Int)≤9223372036854775807):Ev (fun k=>slices_Equal_int_int.f k l l) true:=qa rfl (qaz l hl l.length 0 (by omega))

inductive Tr where
  | leaf (t:Int)
  | node (v:Int) (a b:Tr)
namespace Tr
def sz:Tr→Nat
  | leaf _=>1
  | node _ a b=>1+a.sz+b.sz
def nod:Tr→Nat→List S103
  | leaf t,_=>[⟨-1,0,0,t⟩]
  | node v a b,p=>⟨v,((p+1:Nat):Int),((p+1+a.sz:Nat):Int),0⟩ :: (a.nod (p+1)++b.nod (p+1+a.sz))
theorem sz_pos:∀ T:Tr,1≤T.sz
  | leaf _=>Nat.le_refl _
  | node _ a b=>by simp only [sz];omega
theorem nod_len:∀ (T:Tr) (p:Nat),(T.nod p).length=T.sz
  | leaf _,_=>rfl
  | node _ a b,p=>by simp only [nod,sz,List.length_cons,List.length_append,nod_len a,nod_len b];omega
end Tr
def Free (C V:Nat) (vs:List Int):Prop:=(∀ j,V.testBit j=true→C.testBit j=true)∧∀ v,v∈vs→C.testBit v.toNat=false
theorem Free.step {C V:Nat} {v:Int} {vs:List Int} {hi:Int} {p:Option Int} (h:Free C V (v :: vs)) (hc:Chn hi p (v :: vs)) (h0:∀ w,w∈v :: vs→0≤w) (b:Bool):Free (wC C v) (wV V v b) vs:=by
  refine ⟨fun j hj=>?_,fun w hw=>?_⟩
  · rw [qbs] at hj
    rw [qbr]
    by_cases e:v.toNat=j
    · simp [e]
    · simp [e] at hj
      rw [h.1 j hj];rfl
  · have hlt:v<w:=by
      obtain ⟨i,hi',e⟩:=List.getElem_of_mem hw
      exact hc.below 0 (i+1) v w (by omega) rfl (by simp [List.getElem?_eq_getElem hi',e])
    have h1:=h0 v (.head _)
    rw [qbr,h.2 w (.tail _ hw)]
    simp;omega
theorem qa9 {l:List S63} (h:VS l) (most:Int) (vars out:List Int) (i a:Nat) (hi:i<16777216) (ho:out.length<17592186044416) (r:List Int):∀ (d j:Nat),j+d=l.length→
    (sat (l.drop j) a=true→Ev (fun k=>ancepsref40_solutions.l0 k l most vars (out++[(a:Int)]) ((i+1:Nat):Int)) r)→(sat (l.drop j) a=false→Ev (fun k=>ancepsref40_solutions.l0 k l most vars out ((i+1:Nat):Int)) r)→
    Ev (fun k=>ancepsref40_solutions.l1 k l most vars out i (a:Int) true j) r
  | 0,j,hd,h1,h2=>by
    rw [List.drop_eq_nil_of_le (by omega)] at h1
    have hw:wrap64 ((i:Int)+1)=((i+1:Nat):Int):=by rw [qi _ (by omega)];omega
    exact Ev.step (fun k=>by rw [ancepsref40_solutions.l1,if_neg (by omega),if_pos rfl,if_pos ho,hw]) (h1 rfl)
  | d+1,j,hd,h1,h2=>by
    have hj:j<l.length:=by omega
    have hl:=h.len
    have hw:wrap64 ((i:Int)+1)=((i+1:Nat):Int):=by rw [qi _ (by omega)];omega
    have hwj:=qb j l.length hj (by omega)
    have hm:=h.tab _ (qk l j hj)
    have e:sat (l.drop j) a=(hs (rd_T63 l j).f0 (rd_T63 l j).f1 a&&sat (l.drop (j+1)) a):=by
      unfold sat
      rw [qo l j hj,List.all_cons]
    rw [e] at h1 h2
    refine Ev.step (fun k=>by rw [ancepsref40_solutions.l1,if_pos (by omega),if_pos rfl,if_pos (by omega),hwj]) (Ev.bind (qcQ hm a) ?_)
    cases c:hs (rd_T63 l j).f0 (rd_T63 l j).f1 a
    · rw [c] at h2
      have h2:=h2 rfl
      by_cases hj2:((j+1:Nat):Int)<(l.length:Int)
      · exact Ev.step (fun k=>by rw [ancepsref40_solutions.l1,if_pos hj2,if_neg Bool.false_ne_true,hw]) h2
      · exact Ev.step (fun k=>by rw [ancepsref40_solutions.l1,if_neg hj2,if_neg Bool.false_ne_true,hw]) h2
    · rw [c,Bool.true_and] at h1 h2
      exact qa9 h most vars out i a hi ho r d (j+1) (by omega) h1 h2
theorem qah {l:List S63} (h:VS l) {vars:List Int} (hc:Chn 24 none vars) (hv:vars.length≤24) (most:Nat) (hm:most≤40000000):∀ (d i:Nat) (out:List Int),i+d=2 ^ vars.length→out.length≤i→out.length≤most→
    Ev (fun k=>ancepsref40_solutions.l0 k l (most:Int) vars out i) ((out++(((List.range' i d).map fun i=>asg vars i).filter (sat l)).map fun a:Nat=>(a:Int)).take most)
  | 0,i,out,hd,ho,hom=>by
    have hs1:=q0 vars.length (by omega)
    have hp:2 ^ vars.length≤16777216:=Nat.le_trans (Nat.pow_le_pow_right (by decide) hv) (by decide)
    rw [show List.range' i 0=[] from rfl,List.map_nil,List.filter_nil,List.map_nil,List.append_nil,List.take_of_length_le hom]
    exact Ev.step (f:=fun _=>some out) (fun k=>by rw [ancepsref40_solutions.l0,hs1,if_neg (by omega)]) (Ev.now _)
  | d+1,i,out,hd,ho,hom=>by
    have hs1:=q0 vars.length (by omega)
    have hp:2 ^ vars.length≤16777216:=Nat.le_trans (Nat.pow_le_pow_right (by decide) hv) (by decide)
    by_cases hlt:(out.length:Int)<(most:Int)
    · refine Ev.step (fun k=>by rw [ancepsref40_solutions.l0,hs1,if_pos (by omega),if_pos hlt]) (Ev.bind (qde hc hv i) ?_)
      rw [List.range'_succ,List.map_cons,List.filter_cons]
      refine qa9 h _ vars out i (asg vars i) (by omega) (by omega) _ l.length 0 (by omega) (fun e=>?_) (fun e=>?_)
      · rw [List.drop_zero] at e
        have ih:=qah h hc hv most hm d (i+1) (out++[((asg vars i:Nat):Int)]) (by omega) (by simp;omega) (by simp;omega)
        rw [if_pos e,List.map_cons]
        rw [List.append_assoc,List.singleton_append] at ih
        exact ih
      · rw [List.drop_zero] at e
        have ih:=qah h hc hv most hm d (i+1) out (by omega) (by omega) hom
        rw [if_neg (by rw [e];simp)]
        exact ih
    · refine qh (Ev.step (f:=fun _=>some out) (fun k=>by rw [ancepsref40_solutions.l0,hs1,if_pos (by omega),if_neg hlt]) (Ev.now _)) ?_
      rw [List.take_append_of_le_length (by omega),List.take_of_length_le (by omega)]
theorem qdi {l:List S63} (h:VS l) (hs:Sm l) (most:Nat) (hm:most≤40000000):Ev (fun k=>ancepsref40_solutions.f k l (most:Int)) ((SS l).take most):=by
  refine Ev.bind (qR h hs) ?_
  have:=qah h h.occ.1 h.occ_len most hm (2 ^ (occ l).length) 0 [] (by omega) (by simp) (by simp)
  rw [List.nil_append,← List.range_eq_range'] at this
  refine qh this ?_
  unfold SS sl
  simp only [Nat.or_zero]

theorem qba (l:List S63) (hs:Sm l) (hl:l.length≤1000):Ev (fun k=>ancepsref40_First.f k l) (qe l):=by
  refine Ev.bind (qs l hs hl) (qd (fun h=>Ev.bind (show Ev (fun k=>ancepsref40_solutions.f k l 1) ((SS l).take 1) from qdi ((qf l).1 h) hs 1 (by decide)) ?_) (fun _=>Ev.now _))
  cases SS l with
  | nil=>exact qa rfl (Ev.now _)
  | cons x xs=>exact qc (by simp) (qa (by simp) (Ev.now _))
def vrs (l:List S63):List Int:=if qp l=0 then occ l else []
theorem qG (l:List S63) (hs:Sm l) (hl:l.length≤1000):Ev (fun k=>solve_Vars.f k l) (vrs l):=
  Ev.bind (qz l hs hl) (qd (fun _=>Ev.bind (qaG l hs hl) (Ev.now _)) (fun _=>Ev.now _))
theorem qcz (l:List S63) (hs:Sm l) (hl:l.length≤1000):Ev (fun k=>ancepsref40_Vars.f k l) (vrs l):=by
  unfold vrs
  by_cases h:qp l=0
  · rw [if_pos h];exact qR ((qf l).1 h) hs
  · rw [if_neg h];exact Ev.bind (qs l hs hl) (qc h (Ev.now _))
theorem qb2 (l:List S63):(vrs l).length≤1000:=by
  unfold vrs
  split
  · rename_i h;have:=((qf l).1 h).occ_len;omega
  · simp
theorem qdy (l:List S103) (i:Nat) (hi:i<l.length):l.drop i=rd_T103 l i :: l.drop (i+1):=qT l i z103 hi
def Lies (N:List S103) (T:Tr) (p:Nat):Prop:=∃ suf,N.drop p=T.nod p++suf
theorem Lies.lt {N:List S103} {T:Tr} {p:Nat} (h:Lies N T p):p+T.sz≤N.length:=by
  obtain ⟨suf,h⟩:=h
  have:=congrArg List.length h
  rw [List.length_drop,List.length_append,T.nod_len] at this
  have:=T.sz_pos
  omega
theorem Lies.rd {N:List S103} {T:Tr} {p:Nat} (h:Lies N T p):(∀ t,T=.leaf t→rd_T103 N p=⟨-1,0,0,t⟩)∧(∀ v a b,T=.node v a b→rd_T103 N p=⟨v,((p+1:Nat):Int),((p+1+a.sz:Nat):Int),0⟩∧Lies N a (p+1)∧Lies N b (p+1+a.sz)):=by
  have hl:=h.lt
  have hs:=T.sz_pos
  obtain ⟨suf,h⟩:=h
  rw [qdy N p (by omega)] at h
  constructor
  · rintro t rfl
    exact (List.cons.inj h).1
  · rintro v a b rfl
    obtain ⟨h1,h2⟩:=List.cons.inj h
    change _=(a.nod (p+1)++b.nod (p+1+a.sz))++suf at h2
    rw [List.append_assoc] at h2
    refine ⟨h1,⟨_,h2⟩,⟨suf,?_⟩⟩
    have:=congrArg (List.drop a.sz) h2
    have e:(a.nod (p+1)).drop a.sz=[]:=List.drop_eq_nil_of_le (by rw [a.nod_len];omega)
    rw [List.drop_drop,List.drop_append_of_le_length (by rw [a.nod_len];omega),e,List.nil_append] at this
    exact this
theorem qH (l:List Int) (h:l.length<17592186044416):slices_Clone_int_int.f l=some l:=by
  unfold slices_Clone_int_int.f
  simp only [Option.bind_some,List.length_nil,List.nil_append,if_pos (show 0+l.length<17592186044416 by omega)]

def giv (l:List S63) (v x:Int):List S63×Int:=if qp l=0 then (if v<0 then ([],6) else if v≥24 then ([],6) else if x<0 then ([],6) else if x>1 then ([],6) else if (l.length:Int)=16 then ([],3) else (l++[⟨[v],[x]⟩],0)) else ([],qp l)
theorem qaM (l:List S63) (hs:Sm l) (hl:l.length≤1000) (v x:Int):∀ (d i:Nat) (acc:List S63),i+d=l.length→acc.length≤i→Ev (fun k=>solve_Given.l0 k v x acc l l.length i) ((acc++l.drop i)++[⟨[v],[x]⟩],0)
  | 0,i,acc,h,ha=>by
    rw [List.drop_eq_nil_of_le (by omega),List.append_nil]
    exact Ev.step (fun k=>by rw [solve_Given.l0,if_neg (by omega),if_pos (by omega)]) (Ev.now _)
  | d+1,i,acc,h,ha=>by
    have hi:i<l.length:=by omega
    have hw:=qb i l.length hi (by omega)
    have hm:=hs _ (qk l i hi)
    have ih:=qaM l hs hl v x d (i+1) (acc++[rd_T63 l i]) (by omega) (by simp;omega)
    rw [List.append_assoc acc,List.singleton_append,← qo l i hi] at ih
    refine Ev.step (fun k=>?_) ih
    rw [solve_Given.l0,if_pos (by omega),if_pos (by omega),if_pos (by omega),qH _ (by omega),qH _ (by omega),hw]
    simp only [Option.bind_some]
    rw [if_pos (by omega)]
theorem qaq (l:List S63) (hs:Sm l) (hl:l.length≤1000) (v x:Int):Ev (fun k=>solve_Given.f k l v x) (giv l v x):=by
  refine Ev.bind (qz l hs hl) (qd (fun _=>qd (fun _=>Ev.now _) (fun _=>qd (fun _=>Ev.now _) (fun _=>qd (fun _=>Ev.now _) (fun _=>qd (fun _=>Ev.now _) (fun _=>qd (fun _=>Ev.now _) (fun _=>?_)))))) (fun _=>Ev.now _))
  have:=qaM l hs hl v x l.length 0 [] (by omega) (by simp)
  rw [List.drop_zero,List.nil_append] at this
  exact this
theorem qdj (l:List S63) (hs:Sm l) (hl:l.length≤1000) (v x:Int):Ev (fun k=>ancepsref40_Given.f k l v x) (giv l v x):=by
  refine Ev.bind (qs l hs hl) (qd (fun _=>qd (fun _=>Ev.now _) (fun _=>?_)) (fun _=>Ev.now _))
  have hE:Ev (fun k=>if (l.length:Int)=16 then some ([],3) else (some []).bind fun a=>if (a:List S63).length+l.length<2932031007402 then (some (a++l)).bind fun b=>if b.length<2932031007402 then some (b++[(⟨[v],[x]⟩:S63)],(0:Int)) else none else none) (if (l.length:Int)=16 then ([],3) else (l++[⟨[v],[x]⟩],0)):=by
    refine qd (fun _=>Ev.now _) (fun _=>Ev.bind (Ev.now []) (qa (by simp;omega) (Ev.bind (Ev.now ([]++l)) (qa (by simp;omega) ?_))))
    exact qh (Ev.now _) (by rw [List.nil_append])
  exact qd (fun _=>Ev.now _) (fun _=>qd (fun _=>Ev.now _) (fun _=>qd (fun _=>Ev.now _) (fun _=>hE)))
theorem qbb {l:List S63} (hs:Sm l) (hl:l.length≤100) (v x:Int):Sm (giv l v x).1∧(giv l v x).1.length≤1000:=by
  have h0:Sm []:=fun t ht=>by simp at ht
  unfold giv
  repeat' split
  all_goals first|exact ⟨h0,by simp⟩|skip
  refine ⟨fun t ht=>?_,by simp;omega⟩
  rcases List.mem_append.1 ht with h|h
  · exact hs t h
  · rw [List.mem_singleton.1 h];exact ⟨by simp,by simp⟩
theorem qcU {l:List S63} (h:VS l) (h15:l.length≤15) {v:Int} (hv:v∈occ l) (b:Bool):VS (l++[⟨[v],[((b.toNat:Nat):Int)]⟩]):=by
  have h1:=h.occ' v hv
  refine ⟨by rw [List.length_append,List.length_singleton];omega,fun t ht=>?_⟩
  rcases List.mem_append.1 ht with ht|ht
  · exact h.tab t ht
  · rw [List.mem_singleton.1 ht]
    refine ⟨by simp,⟨h1.1,h1.2,(fun q hq=>by cases hq),trivial⟩,?_⟩
    have e:(2 ^ [v].length:Nat)=2:=rfl
    rw [e]
    refine ⟨by cases b <;> decide,by cases b <;> decide,(fun q hq=>by cases hq),trivial⟩
theorem qdz {v:Int} (b:Bool) (a:Nat):hs [v] [((b.toNat:Nat):Int)] a=(a.testBit v.toNat == b):=by
  have hr:row [v] a=(a.testBit v.toNat).toNat:=by
    have hlt:=qJ [v] a
    have hb:(row [v] a).testBit 0=a.testBit v.toNat:=by
      rw [Bool.eq_iff_iff,qj]
      constructor
      · rintro ⟨w,hw,hb⟩
        simp at hw
        rw [hw];exact hb
      · exact fun hb=>⟨v,rfl,hb⟩
    rw [Nat.testBit_zero] at hb
    have h2:(2:Nat) ^ [v].length=2:=rfl
    rw [h2] at hlt
    cases e:a.testBit v.toNat <;> rw [e] at hb <;> simp at hb ⊢ <;> omega
  unfold hs
  rw [hr]
  cases a.testBit v.toNat <;> cases b <;> decide
theorem qbv (vs:List Int) (hv:∀ v,v∈vs→0≤v∧v<24) (hl:vs.length≤24) (a:Nat) (ha:a<2 ^ 60):∀ (d i out:Nat),i+d=vs.length→out<2 ^ i→
    Ev (fun k=>table_row.l0 k (a:Int) (out:Int) vs vs.length i) ((qF a (vs.drop i) i out:Nat):Int)
  | 0,i,out,h,ho=>by
    rw [List.drop_eq_nil_of_le (by omega)]
    exact Ev.step (f:=fun _=>some (out:Int)) (fun k=>by rw [table_row.l0,if_neg (by omega)]) (Ev.now _)
  | d+1,i,out,h,ho=>by
    have hi:i<vs.length:=by omega
    have hw:=qb i vs.length hi (by omega)
    have hm:=hv _ (qm vs i hi)
    have ih:=qbv vs hv hl a ha d (i+1) _ (by omega) (qC (a.testBit (rd vs i).toNat) out i ho)
    rw [qg vs i hi,qF]
    refine Ev.step (fun k=>?_) ih
    rw [table_row.l0,if_pos (by omega),if_pos (by omega),if_pos (by omega),if_pos (by omega),hw]
    have hb:=qbk a (rd vs i).toNat i out ha (by omega) (by omega) ho
    rw [← qn hm.1] at hb
    rw [hb]
theorem qdA (vs:List Int) (hv:∀ v,v∈vs→0≤v∧v<24) (hl:vs.length≤24) (a:Nat) (ha:a<2 ^ 60):Ev (fun k=>table_row.f k vs (a:Int)) ((row vs a:Nat):Int):=by
  have:=qbv vs hv hl a ha vs.length 0 0 (by omega) (by decide)
  exact this
theorem qbw {vs:List Int} (r:Nat) (hr:r<2 ^ 60) (hl:vs.length≤24):∀ (d i out:Nat) (p:Option Int),i+d=vs.length→Chn 24 p (vs.drop i)→q2 out (vs.drop i)→
    Ev (fun k=>table_assignment.l0 k (r:Int) (out:Int) vs vs.length i) ((qQ r (vs.drop i) i out:Nat):Int)
  | 0,i,out,p,h,hc,ho=>by
    rw [List.drop_eq_nil_of_le (by omega)]
    exact Ev.step (f:=fun _=>some (out:Int)) (fun k=>by rw [table_assignment.l0,if_neg (by omega)]) (Ev.now _)
  | d+1,i,out,p,h,hc,ho=>by
    have hi:i<vs.length:=by omega
    have hw:=qb i vs.length hi (by omega)
    rw [qg vs i hi] at hc ho ⊢
    have hx:=qC (r.testBit i) out (rd vs i).toNat ho
    have ih:=qbw r hr hl d (i+1) _ (some (rd vs i)) (by omega) hc.2.2.2 (qM hc.2.2.2 hc.1 hx)
    rw [qQ]
    refine Ev.step (fun k=>?_) ih
    have h0:=hc.1
    have h1:=hc.2.1
    rw [table_assignment.l0,if_pos (by omega),if_pos (by omega),if_pos (by omega),if_pos (by omega),hw]
    have hb:=qbk r i (rd vs i).toNat out hr (by omega) (by omega) ho
    rw [← qn h0] at hb
    rw [hb]
theorem qdB {vs:List Int} (hc:Chn 24 none vs) (hl:vs.length≤24) (r:Nat) (hr:r<2 ^ 60):Ev (fun k=>table_assignment.f k vs (r:Int)) ((asg vs r:Nat):Int):=by
  have:=qbw r hr hl vs.length 0 0 none (by omega) hc (qN _)
  exact this
theorem qS {hi:Int} {rs:List Int} (hc:Chn hi none rs) (hl:(rs.length:Int)≤1000000) (x:Int):∀ (d i j:Nat),j - i≤d→i≤j→j≤rs.length→(∀ m y,m<i→rs[m]?=some y→y<x)→(∀ m y,j≤m→rs[m]?=some y→x≤y)→
    ∃ q:Int×Bool,Ev (fun k=>slices_BinarySearch_int_int.l0 k rs x rs.length i j) q∧(q.2=true↔x∈rs)
  | d,i,j,hd,hij,hj,hlo,hhi=>by
    by_cases h:i<j
    · cases d with
      | zero=>omega
      | succ d=>
        have hh:(wrap64 ((IntKind.u64.wrap (wrap64 ((i:Int)+(j:Int)))) / 2))=(((i+j) / 2:Nat):Int):=by
          rw [qi ((i:Int)+j) (by omega),qcN _ (by omega) (by omega),qi _ (by omega)];omega
        have hm:(i+j) / 2<rs.length:=by omega
        have hg:=qU rs ((i+j) / 2) hm
        have hless:cmp_Less_int.f (rd rs (((i+j) / 2:Nat):Int)) x=some (decide (rd rs (((i+j) / 2:Nat):Int)<x)):=by
          simp [cmp_Less_int.f,cmp_isNaN_int.f]
        by_cases hx:rd rs (((i+j) / 2:Nat):Int)<x
        · obtain ⟨q,hq,hqi⟩:=qS hc hl x d ((i+j) / 2+1) j (by omega) (by omega) hj (fun m y hm2 hy=>by
            by_cases e:m=(i+j) / 2
            · subst e;rw [hg] at hy;injection hy with hy;omega
            · have:=hc.below m ((i+j) / 2) y _ (by omega) hy hg;omega) hhi
          refine ⟨q,Ev.step (fun k=>?_) hq,hqi⟩
          rw [slices_BinarySearch_int_int.l0,if_pos (by omega),hh,if_pos (by omega),if_pos (by omega),hless,Option.bind_some,if_pos (decide_eq_true hx),qi _ (by omega)]
          rfl
        · obtain ⟨q,hq,hqi⟩:=qS hc hl x d i ((i+j) / 2) (by omega) (by omega) (by omega) hlo (fun m y hm2 hy=>by
            by_cases e:m=(i+j) / 2
            · subst e;rw [hg] at hy;injection hy with hy;omega
            · have:=hc.below ((i+j) / 2) m _ y (by omega) hg hy;omega)
          refine ⟨q,Ev.step (fun k=>?_) hq,hqi⟩
          rw [slices_BinarySearch_int_int.l0,if_pos (by omega),hh,if_pos (by omega),if_pos (by omega),hless,Option.bind_some,if_neg (by simpa using hx)]
    · have e:i=j:=by omega
      subst e
      by_cases hn:i<rs.length
      · have hg:=qU rs i hn
        by_cases hx:rd rs i=x
        · refine ⟨((i:Int),true),Ev.step (f:=fun _=>some ((i:Int),true)) (fun k=>?_) (Ev.now _),⟨fun _=>hx ▸ qm rs i hn,fun _=>rfl⟩⟩
          rw [slices_BinarySearch_int_int.l0,if_neg (by omega),if_pos (by omega),if_pos (by omega),if_pos (by omega),if_pos hx]
        · refine ⟨((i:Int),false),Ev.step (f:=fun _=>some ((i:Int),false)) (fun k=>?_) (Ev.now _),⟨fun h=>by simp at h,fun hm=>?_⟩⟩
          · rw [slices_BinarySearch_int_int.l0,if_neg (by omega),if_pos (by omega),if_pos (by omega),if_pos (by omega),if_neg hx]
            simp [slices_isNaN_int.f]
          · obtain ⟨m,hm2⟩:=List.getElem?_of_mem hm
            rcases Nat.lt_trichotomy m i with h2|h2|h2
            · have:=hlo m x h2 hm2;omega
            · subst h2;rw [hg] at hm2;injection hm2 with hm2;exact absurd hm2 hx
            · have h3:=hc.below i m _ x h2 hg hm2
              have h4:=hhi i _ (Nat.le_refl _) hg
              omega
      · refine ⟨((i:Int),false),Ev.step (f:=fun _=>some ((i:Int),false)) (fun k=>?_) (Ev.now _),⟨fun h=>by simp at h,fun hm=>?_⟩⟩
        · rw [slices_BinarySearch_int_int.l0,if_neg (by omega),if_neg (by omega)]
        · obtain ⟨m,hm2⟩:=List.getElem?_of_mem hm
          have hml:m<rs.length:=(List.getElem?_eq_some_iff.1 hm2).1
          have:=hlo m x (by omega) hm2;omega
theorem qch {hi:Int} {rs:List Int} (hc:Chn hi none rs) (hl:(rs.length:Int)≤1000000) (x:Int):∃ q:Int×Bool,Ev (fun k=>slices_BinarySearch_int_int.f k rs x) q∧q.2=decide (x∈rs):=by
  obtain ⟨q,hq,hqi⟩:=qS hc hl x rs.length 0 rs.length (by omega) (by omega) (Nat.le_refl _) (fun m y h=>by omega) (fun m y h hy=>by
    have:=(List.getElem?_eq_some_iff.1 hy).1;omega)
  exact ⟨q,hq,by rw [Bool.eq_iff_iff,hqi];simp⟩
theorem qdk {vs rs:List Int} (h:VT vs rs) (a:Nat) (ha:a<2 ^ 60):Ev (fun k=>table_has.f k vs rs (a:Int)) (hs vs rs a):=by
  have h1:=h.rows_len
  have h2:=h.len
  refine Ev.bind (qdA vs h.vars' (by omega) a ha) ?_
  obtain ⟨q,hq,hq2⟩:=qch h.rows (by omega) ((row vs a:Nat):Int)
  refine Ev.bind hq ?_
  rw [show hs vs rs a=q.2 from hq2.symm]
  exact Ev.now _

theorem qdC (a:Nat) (v:Int) (b:Bool) (ha:a<2 ^ 24) (h0:0≤v) (h1:v<24):Go.bits .or .i64 (a:Int) (shl .i64 ((b.toNat:Nat):Int) v)=((q4 a v b:Nat):Int):=by
  have hw:∀ z:Int,0≤z→z<2 ^ 62→IntKind.i64.wrap z=z:=fun z h0 h1=>by
    rw [IntKind.wrap_i64]
    have:(2:Int) ^ 62=4611686018427387904:=by decide
    omega
  have hb:IntKind.i64.bits=64:=rfl
  have hip:(2:Nat) ^ v.toNat≤2 ^ 24:=Nat.pow_le_pow_right (by decide) (by omega)
  have h24:(2:Nat) ^ 24=16777216:=by decide
  have h62:(2:Nat) ^ 62=4611686018427387904:=by decide
  have hbl:b.toNat * 2 ^ v.toNat≤2 ^ v.toNat:=by cases b <;> simp
  have h3:shl .i64 ((b.toNat:Nat):Int) v=((b.toNat * 2 ^ v.toNat:Nat):Int):=by
    unfold shl
    rw [hb,show min v.toNat 64=v.toNat by omega]
    have e:((b.toNat:Nat):Int) * 2 ^ v.toNat=((b.toNat * 2 ^ v.toNat:Nat):Int):=by simp
    rw [e]
    exact hw _ (by omega) (by have:(2:Int) ^ 62=4611686018427387904:=by decide
                              omega)
  rw [h3,(bits_nat .i64 62 (by decide) hw a _ (by omega) (by omega)).2]
  rfl
theorem qdl (a:Nat) (v:Int) (b:Bool) (ha:a<2 ^ 24) (h1:v<24):q4 a v b<2 ^ 60:=by
  have h2:(2:Nat) ^ v.toNat≤2 ^ 24:=Nat.pow_le_pow_right (by decide) (by omega)
  have hbl:b.toNat * 2 ^ v.toNat≤2 ^ v.toNat:=by cases b <;> simp
  have h3:b.toNat * 2 ^ v.toNat<2 ^ 60:=Nat.lt_of_le_of_lt (Nat.le_trans hbl h2) (by decide)
  exact Nat.or_lt_two_pow (Nat.lt_of_lt_of_le ha (by decide)) h3
theorem qci (l:List Int) (a:Int) (h:l.length<17592186044416):Ev (fun _=>table_without.f l a) (wo l a):=by
  unfold table_without.f
  rw [qH l h]
  exact Ev.now _
theorem qai {vs:List Int} (hc:Chn 24 none vs) (hl:vs.length≤10) (t0 t1:List Int) (b v:Int) (t:Nat→Bool) (ht:∀ a:Nat,a<2 ^ 24→Ev (fun k=>table_Restrict_1_v1.f k (a:Int) t0 t1 b v) (t a)) (V:List Int) (N:Nat) (hN:N≤1024):∀ (d r:Nat) (acc:List Int),r+d=N→acc.length≤r→
    Ev (fun k=>table_over_table_Restrict_1.l0 k vs (N:Int) (r:Int) t0 t1 b v V acc) (V,acc++flt (fun r=>t (asg vs r)) d r)
  | 0,r,acc,h,ha=>Ev.step (f:=fun _=>some (V,acc)) (fun k=>by rw [table_over_table_Restrict_1.l0,if_neg (by omega)]) (by simpa [flt] using Ev.now _)
  | d+1,r,acc,h,ha=>by
    have hw:wrap64 ((r:Int)+1)=((r+1:Nat):Int):=by rw [qi _ (by omega)];omega
    have hr:r<2 ^ 60:=Nat.lt_of_le_of_lt (show r≤1024 by omega) (by decide)
    refine Ev.step (fun k=>by rw [table_over_table_Restrict_1.l0,if_pos (by omega)]) (Ev.bind (qdB hc (by omega) r hr) (Ev.bind (ht _ (qdw hc r)) ?_))
    rw [flt,hw]
    by_cases e:t (asg vs r)=true
    · have ih:=qai hc hl t0 t1 b v t ht V N hN d (r+1) (acc++[(r:Int)]) (by omega) (by simp;omega)
      rw [if_pos e]
      rw [List.append_assoc,List.singleton_append] at ih
      exact qa e (qa (by omega) ih)
    · have ih:=qai hc hl t0 t1 b v t ht V N hN d (r+1) acc (by omega) (by omega)
      rw [if_neg e]
      exact qc e ih
theorem qdm {vs:List Int} (hc:Chn 24 none vs) (hl:vs.length≤10) (t0 t1:List Int) (b v:Int) (t:Nat→Bool) (ht:∀ a:Nat,a<2 ^ 24→Ev (fun k=>table_Restrict_1_v1.f k (a:Int) t0 t1 b v) (t a)):Ev (fun k=>table_over_table_Restrict_1.f k vs t0 t1 b v) (vs,ovr vs t):=by
  unfold table_over_table_Restrict_1.f
  rw [qH vs (by omega),q0 vs.length (by omega)]
  exact qai hc hl t0 t1 b v t ht vs (2 ^ vs.length) (qbh hl) (2 ^ vs.length) 0 [] (by omega) (by simp)

def qaW (vs rs:List Int) (v:Int) (b:Bool):List Int×List Int×Int:=if v∈vs then (wo vs v,ovr (wo vs v) (fun a=>hs vs rs (q4 a v b)),0) else ([],[],4)
def rst (vs rs:List Int) (v x:Int):List Int×List Int×Int:=if qx vs rs=0 then if x=0 then qaW vs rs v false else if x=1 then qaW vs rs v true else ([],[],6) else ([],[],qx vs rs)
theorem qdN {vs rs:List Int} (h:VT vs rs) {v:Int} (h0:0≤v) (h1:v<24) (b:Bool) (a:Nat) (ha:a<2 ^ 24):Ev (fun k=>table_Restrict_1_v1.f k (a:Int) vs rs ((b.toNat:Nat):Int) v) (hs vs rs (q4 a v b)):=by
  have:=qdC a v b ha h0 h1
  unfold table_Restrict_1_v1.f
  rw [this]
  exact qa h0 (Ev.bind (qdk h _ (qdl a v b ha h1)) (Ev.now _))
theorem qbc {vs rs:List Int} (h:VT vs rs) (v:Int) (b:Bool):Ev (fun k=>(slices_Contains_int_int.f k vs v).bind fun t849=>if t849=true then (table_without.f vs v).bind fun t850=>(table_over_table_Restrict_1.f k t850 vs rs ((b.toNat:Nat):Int) v).bind fun bt853=>some (bt853.1,bt853.2,(0:Int)) else some ([],[],4)) (qaW vs rs v b):=by
  have hl:=h.len
  refine Ev.bind (qw vs (by omega) v) ?_
  unfold qaW
  by_cases hv:v∈vs
  · have hv24:=h.vars' v hv
    have hwl:=qc3 vs v
    rw [if_pos hv]
    exact qa (decide_eq_true hv) (Ev.bind (qci vs v (by omega)) (Ev.bind (qdm (qaa h.vars v) (by omega) vs rs _ v _ (qdN h hv24.1 hv24.2 b)) (Ev.now _)))
  · rw [if_neg hv]
    exact qc (by simpa using hv) (Ev.now _)
theorem qbx (vs rs:List Int) (hl:(vs.length:Int)≤9223372036854775807) (hr:(rs.length:Int)≤9223372036854775807) (v x:Int):Ev (fun k=>table_Restrict.f k vs rs v x) (rst vs rs v x):=by
  refine Ev.bind (q1 vs rs hl hr) (qd (fun h=>?_) (fun _=>Ev.now _))
  have hv:=(qE vs rs).1 h
  refine qd (fun e=>?_) (fun e=>?_)
  · subst e;exact qbc hv v false
  · by_cases e1:x=1
    · subst e1;rw [if_pos rfl];exact qa rfl (qbc hv v true)
    · rw [if_neg e1]
      exact qc e1 (Ev.now _)

def step (P:List Int→Bool) (out:List (List Int)) (s:List Int):List (List Int):=if (out.any fun o=>o.all fun x=>decide (x∈s))=true then out else if P s=true then out++[s] else out
theorem qdD {l:List S63} (h:VS l):SS l≠[]↔∃ a,sat l a=true:=by
  unfold SS sl
  constructor
  · intro hn
    obtain ⟨x,hx⟩:=List.exists_mem_of_ne_nil _ hn
    obtain ⟨a,ha,_⟩:=List.mem_map.1 hx
    exact ⟨a,(List.mem_filter.1 ha).2⟩
  · rintro ⟨a,ha⟩ hn
    have hb:sat l (asg (occ l) (row (occ l) a)||| 0)=true:=by
      rw [Nat.or_zero]
      refine List.all_eq_true.2 (fun t ht=>?_)
      have:=List.all_eq_true.1 ha t ht
      rw [← this]
      exact q3 _ _ (fun w hw=>qcv h.occ.1 a ((h.occ.2 w).2 (List.mem_flatMap.2 ⟨t,ht,hw⟩)))
    have:(asg (occ l) (row (occ l) a)||| 0)∈((List.range (2 ^ (occ l).length)).map fun i=>asg (occ l) i||| 0).filter (sat l):=List.mem_filter.2 ⟨List.mem_map.2 ⟨_,List.mem_range.2 (qJ _ _),rfl⟩,hb⟩
    rw [List.map_eq_nil_iff] at hn
    rw [hn] at this
    cases this
theorem qq {l:List S63} (h:VS l):(qe l).2=0↔∃ a,sat l a=true:=by
  rw [← qdD h]
  unfold qe
  rw [if_pos ((qf l).2 h)]
  cases SS l with
  | nil=>exact ⟨fun e=>absurd e (by decide),fun e=>absurd rfl e⟩
  | cons x xs=>exact ⟨fun _ e=>(by cases e),fun _=>rfl⟩
def gvl (l:List S63):Int:=if qp l=0 then (if (l.length:Int)>15 then 3 else 0) else qp l
theorem qaj {l:List S63} (h:gvl l=0):VS l∧l.length≤15:=by
  unfold gvl at h
  by_cases e:qp l=0
  · rw [if_pos e] at h
    by_cases e2:(l.length:Int)>15
    · rw [if_pos e2] at h;cases h
    · exact ⟨(qf l).1 e,by omega⟩
  · rw [if_neg e] at h;exact absurd h e
theorem qcA {l:List S63} (h:VS l) (h15:l.length≤15):gvl l=0:=by
  unfold gvl
  rw [if_pos ((qf l).2 h),if_neg (by omega)]
theorem qbd (l:List S63) (hs:Sm l) (hl:l.length≤1000):∀ (d i:Nat),i+d=l.length→Ev (fun k=>shared_given.l0 k l l l.length i) (if qu (l.drop i)=0 then (if (l.length:Int)>15 then 3 else 0) else qu (l.drop i))
  | 0,i,h=>by
    rw [List.drop_eq_nil_of_le (by omega)]
    show Ev (fun k=>shared_given.l0 k l l l.length i) (if (l.length:Int)>15 then 3 else 0)
    have hE:Ev (fun k=>if (l.length:Int)>15 then some 3 else some 0) (if (l.length:Int)>15 then (3:Int) else 0):=qd (fun _=>Ev.now _) (fun _=>Ev.now _)
    exact Ev.step (fun k=>by rw [shared_given.l0,if_neg (by omega)]) hE
  | d+1,i,h=>by
    have hi:i<l.length:=by omega
    have hw:=qb i l.length hi (by omega)
    have hm:=hs _ (qk l i hi)
    have ih:=qbd l hs hl d (i+1) (by omega)
    rw [qo l i hi,qu]
    refine Ev.step (fun k=>by rw [shared_given.l0,if_pos (by omega),if_pos (by omega),if_pos (by omega),hw]) (Ev.bind (q1 _ _ (by omega) (by omega)) ?_)
    by_cases e:qx (rd_T63 l i).f0 (rd_T63 l i).f1=0
    · rw [if_pos e];exact qa e ih
    · rw [if_neg e,if_neg e];exact qc e (Ev.now _)
theorem qar (l:List S63) (hs:Sm l) (hl:l.length≤1000):Ev (fun k=>shared_given.f k l) (gvl l):=by
  unfold gvl qp
  by_cases e:(l.length:Int)>16
  · rw [if_pos e];exact qa e (Ev.now _)
  · rw [if_neg e]
    have:=qbd l hs hl l.length 0 (by omega)
    rw [List.drop_zero] at this
    exact qc e this
theorem qaX (l:List S63) (hs:Sm l) (hl:l.length≤1000):Ev (fun k=>ancepsref41_given.f k l) (gvl l):=
  Ev.bind (qs l hs hl) (qd (fun _=>qd (fun _=>Ev.now _) (fun _=>Ev.now _)) (fun _=>Ev.now _))
theorem qdn (l:List S63):∃ b,Ev (fun k=>ancepsref41_FewTables.f k l) b∧(b=true→Sm l∧l.length≤18):=by
  obtain ⟨b,hb,hq⟩:=qdg l
  cases b with
  | false=>exact ⟨false,Ev.bind hb (qc (by simp) (Ev.now _)),fun h=>by cases h⟩
  | true=>
    obtain ⟨h1,h2⟩:=hq rfl
    by_cases e:qp l=0
    · exact ⟨_,Ev.bind hb (qa rfl (Ev.bind (qs l h1 (by omega)) (qa e (Ev.bind (qR ((qf l).1 e) h1) (Ev.now _))))),fun _=>⟨h1,h2⟩⟩
    · exact ⟨_,Ev.bind hb (qa rfl (Ev.bind (qs l h1 (by omega)) (qc e (Ev.now _)))),fun _=>⟨h1,h2⟩⟩
theorem qby (l:List S63) (hs:Sm l) (hl:l.length≤1000):∀ (d i:Nat) (acc:List S63),i+d=l.length→acc.length≤i→Ev (fun k=>ancepslaw41_own.l0 k acc l l.length i) (acc++l.drop i)
  | 0,i,acc,h,ha=>by
    rw [List.drop_eq_nil_of_le (by omega),List.append_nil]
    exact Ev.step (f:=fun _=>some acc) (fun k=>by rw [ancepslaw41_own.l0,if_neg (by omega)]) (Ev.now _)
  | d+1,i,acc,h,ha=>by
    have hi:i<l.length:=by omega
    have hw:=qb i l.length hi (by omega)
    have hm:=hs _ (qk l i hi)
    have ih:=qby l hs hl d (i+1) (acc++[rd_T63 l i]) (by omega) (by simp;omega)
    rw [List.append_assoc acc,List.singleton_append,← qo l i hi] at ih
    refine Ev.step (fun k=>?_) ih
    rw [ancepslaw41_own.l0,if_pos (by omega),if_pos (by omega),if_pos (by omega),qH _ (by omega),qH _ (by omega),hw]
    simp only [Option.bind_some]
    rw [if_pos (by omega)]
theorem qdE (l:List S63) (hs:Sm l) (hl:l.length≤1000):Ev (fun k=>ancepslaw41_own.f k l) l:=by
  have:=qby l hs hl l.length 0 [] (by omega) (by simp)
  rwa [List.drop_zero,List.nil_append] at this
def wth (l:List S63) (v x:Int):Int×Int:=qe (giv l v x).1
theorem qaE (l:List S63) (hs:Sm l) (hl:l.length≤100) (v x:Int):Ev (fun k=>shared_with.f k l v x) ((giv l v x).1,(wth l v x).1,(wth l v x).2 == 0):=by
  obtain ⟨g1,g2⟩:=qbb hs hl v x
  exact Ev.bind (qaq l hs (by omega) v x) (Ev.bind (qA _ g1 g2) (Ev.now _))
theorem qaN (l:List S63) (hs:Sm l) (hl:l.length≤100) (v x:Int):Ev (fun k=>ancepsref41_with.f k l v x) ((wth l v x).1,(wth l v x).2 == 0):=by
  obtain ⟨g1,g2⟩:=qbb hs hl v x
  exact Ev.bind (qdj l hs (by omega) v x) (Ev.bind (qba _ g1 g2) (Ev.now _))
def vl (l:List S63) (v:Int):Int:=if ((wth l v 0).2 == 0)=true then (if ((wth l v 1).2 == 0)=true then 3 else 1) else 2
theorem qak (l:List S63) (hs:Sm l) (hl:l.length≤100) (v:Int):Ev (fun k=>shared_value.f k l v) (vl l v):=
  Ev.bind (qaE l hs hl v 0) (Ev.bind (qaE l hs hl v 1) (qd (fun _=>qd (fun _=>Ev.now _) (fun _=>Ev.now _)) (fun _=>Ev.now _)))
def sov (l:List S63):Int:=if gvl l=0 then (if (qe l).2=0 then 0 else 12) else gvl l
theorem qX (l:List S63) (hs:Sm l) (hl:l.length≤1000):Ev (fun k=>shared_solvable.f k l) (sov l):=
  Ev.bind (qar l hs hl) (qd (fun _=>Ev.bind (qA l hs hl) (qd (fun _=>Ev.now _) (fun _=>Ev.now _))) (fun _=>Ev.now _))
theorem qP (l:List S63) (hs:Sm l) (hl:l.length≤1000):Ev (fun k=>ancepsref41_solvable.f k l) ((qe l).2 == 0):=Ev.bind (qba l hs hl) (Ev.now _)
def vlu (l:List S63) (v:Int):Int×Int:=if gvl l=0 then (if v<0 then (0,6) else if v≥24 then (0,6) else if sov l=0 then (if v∈vrs l then (vl l v,0) else (0,4)) else (0,sov l)) else (0,gvl l)
theorem qb3 (l:List S63) (hs:Sm l) (hl:l.length≤100) (v:Int):Ev (fun k=>shared_Value.f k l v) (vlu l v):=by
  have hv:=qb2 l
  refine Ev.bind (qar l hs (by omega)) (qd (fun _=>qd (fun _=>Ev.now _) (fun _=>qd (fun _=>Ev.now _) (fun _=>Ev.bind (qX l hs (by omega)) (qd (fun _=>Ev.bind (qG l hs (by omega)) (Ev.bind (qw _ (by omega) _) ?_)) (fun _=>Ev.now _))))) (fun _=>Ev.now _))
  by_cases e:v∈vrs l
  · rw [if_pos e];exact qa (by simpa using e) (Ev.bind (qak l hs hl v) (Ev.now _))
  · rw [if_neg e];exact qc (by simpa using e) (Ev.now _)
theorem qbz (rs:List Int) (hl:(rs.length:Int)≤9223372036854775807) (x:Int):∀ (d i:Nat),i+d=rs.length→Ev (fun k=>ancepsref41_has.l0 k rs x i) (decide (x∈rs.drop i))
  | 0,i,h=>by
    rw [List.drop_eq_nil_of_le (by omega)]
    exact Ev.step (f:=fun _=>some false) (fun k=>by rw [ancepsref41_has.l0,if_neg (by omega)]) (by simpa using Ev.now _)
  | d+1,i,h=>by
    have hi:i<rs.length:=by omega
    have hw:=qb i rs.length hi hl
    have ih:=qbz rs hl x d (i+1) (by omega)
    rw [qg rs i hi]
    by_cases e:rd rs i=x
    · have:decide (x∈rd rs i :: rs.drop (i+1))=true:=by simp [e]
      rw [this]
      exact Ev.step (f:=fun _=>some true) (fun k=>by rw [ancepsref41_has.l0,if_pos (by omega),if_pos (by omega),if_pos e]) (Ev.now _)
    · have:decide (x∈rd rs i :: rs.drop (i+1))=decide (x∈rs.drop (i+1)):=by
        rw [decide_eq_decide,List.mem_cons]
        exact ⟨fun h=>by rcases h with h|h;exact absurd h.symm e;exact h,.inr⟩
      rw [this]
      exact Ev.step (fun k=>by rw [ancepsref41_has.l0,if_pos (by omega),if_pos (by omega),if_neg e,hw]) ih
theorem qcB (rs:List Int) (hl:(rs.length:Int)≤9223372036854775807) (x:Int):Ev (fun k=>ancepsref41_has.f k rs x) (decide (x∈rs)):=by
  have:=qbz rs hl x rs.length 0 (by omega)
  rw [List.drop_zero] at this
  exact this
theorem qdo {v:Int} (b:Bool) (a:Nat):hs [v] [((b.toNat:Nat):Int)] a=(a.testBit v.toNat == b):=qdz b a
theorem qaY {l:List S63} (h:VS l) (h15:l.length≤15) {v:Int} (hv:v∈occ l) (b:Bool):(wth l v ((b.toNat:Nat):Int)).2=0↔∃ a,sat l a=true∧a.testBit v.toNat=b:=by
  have h1:=h.occ' v hv
  have e:(giv l v ((b.toNat:Nat):Int)).1=l++[⟨[v],[((b.toNat:Nat):Int)]⟩]:=by
    have hb:0≤((b.toNat:Nat):Int)∧((b.toNat:Nat):Int)≤1:=by cases b <;> decide
    unfold giv
    rw [if_pos ((qf l).2 h),if_neg (by omega),if_neg (by omega),if_neg (by omega),if_neg (by omega),if_neg (by omega)]
  unfold wth
  rw [e,qq (qcU h h15 hv b)]
  have k:∀ a,sat (l++[⟨[v],[((b.toNat:Nat):Int)]⟩]) a=true↔sat l a=true∧a.testBit v.toNat=b:=fun a=>by
    unfold sat
    rw [List.all_append,Bool.and_eq_true,List.all_cons,List.all_nil,Bool.and_true]
    show _∧hs [v] [((b.toNat:Nat):Int)] a=true↔_
    rw [qdo,beq_iff_eq]
  exact ⟨fun ⟨a,ha⟩=>⟨a,(k a).1 ha⟩,fun ⟨a,ha⟩=>⟨a,(k a).2 ha⟩⟩
theorem qbA {l:List S63} (h:VS l) (h15:l.length≤15) {v:Int} (hv:v∈occ l) (hf:(qe l).2=0) (b:Bool):(∃ a,sat l a=true∧a.testBit v.toNat=b)↔(vl l v=3∨vl l v=1+((b.toNat:Nat):Int)):=by
  obtain ⟨a,ha⟩:=(qq h).1 hf
  have h0:=qaY h h15 hv false
  have h1:=qaY h h15 hv true
  have e0:(((false.toNat:Nat):Int))=0:=rfl
  have e1:(((true.toNat:Nat):Int))=1:=rfl
  rw [e0] at h0
  rw [e1] at h1
  unfold vl
  by_cases c0:(wth l v 0).2=0
  · by_cases c1:(wth l v 1).2=0
    · rw [if_pos (by simpa using c0),if_pos (by simpa using c1)]
      cases b
      · exact ⟨fun _=>.inl rfl,fun _=>h0.1 c0⟩
      · exact ⟨fun _=>.inl rfl,fun _=>h1.1 c1⟩
    · rw [if_pos (by simpa using c0),if_neg (by simpa using c1)]
      cases b
      · exact ⟨fun _=>.inr rfl,fun _=>h0.1 c0⟩
      · exact ⟨fun hh=>absurd (h1.2 hh) c1,fun hh=>by rcases hh with hh|hh <;> cases hh⟩
  · rw [if_neg (by simpa using c0)]
    cases b
    · exact ⟨fun hh=>absurd (h0.2 hh) c0,fun hh=>by rcases hh with hh|hh <;> cases hh⟩
    · refine ⟨fun _=>.inr rfl,fun _=>⟨a,ha,?_⟩⟩
      cases e:a.testBit v.toNat with
      | true=>rfl
      | false=>exact absurd (h0.2 ⟨a,ha,e⟩) c0
theorem qdp (l:List S63) (hs:Sm l) (hl:l.length≤100) (v:Int):Ev (fun k=>ancepsref41_Value.f k l v) (vlu l v):=by
  have hv:=qb2 l
  refine Ev.bind (qaX l hs (by omega)) (qd (fun hg=>qd (fun _=>Ev.now _) (fun _=>qd (fun _=>Ev.now _) (fun _=>Ev.bind (qP l hs (by omega)) ?_))) (fun _=>Ev.now _))
  unfold sov
  rw [if_pos hg]
  by_cases hf:(qe l).2=0
  · rw [if_pos hf,if_pos rfl]
    refine qa (by simpa using hf) (Ev.bind (qcz l hs (by omega)) (Ev.bind (qcB _ (by omega) _) ?_))
    by_cases e:v∈vrs l
    · rw [if_pos e]
      refine qa (by simpa using e) (Ev.bind (qaN l hs hl v 0) (Ev.bind (qaN l hs hl v 1) ?_))
      obtain ⟨hvs,h15⟩:=qaj hg
      have ho:v∈occ l:=by unfold vrs at e;rwa [if_pos ((qf l).2 hvs)] at e
      have k1:=qbA hvs h15 ho hf true
      rw [← qaY hvs h15 ho true,show (((true.toNat:Nat):Int))=1 from rfl] at k1
      by_cases c0:((wth l v 0).2 == 0)=true
      · by_cases c1:((wth l v 1).2 == 0)=true
        · have hvl:vl l v=3:=by unfold vl;rw [if_pos c0,if_pos c1]
          rw [hvl]
          exact qa c0 (qa c1 (Ev.now _))
        · have hvl:vl l v=1:=by unfold vl;rw [if_pos c0,if_neg c1]
          rw [hvl]
          exact qa c0 (qc c1 (Ev.now _))
      · have hvl:vl l v=2:=by unfold vl;rw [if_neg c0]
        rw [hvl] at k1 ⊢
        exact qc c0 (qa (by simpa using k1.2 (.inr rfl)) (Ev.now _))
    · rw [if_neg e];exact qc (by simpa using e) (Ev.now _)
  · rw [if_neg hf,if_neg (by decide)]
    exact qc (by simpa using hf) (Ev.now _)

structure Md (l:List S63):Prop where
  len:l.length≤6
  tab:∀ t,t∈l→VT t.f0 t.f1∧Chn 8 none t.f0
theorem Md.vs {l:List S63} (h:Md l):VS l:=⟨by have:=h.len;omega,fun t ht=>(h.tab t ht).1⟩
theorem qt {l:List S63} (h:VS l):Sm l:=fun t ht=>by
  have h1:=(h.tab t ht).len
  have h2:=(h.tab t ht).rows_len
  omega
theorem Md.occ_len {l:List S63} (h:Md l):(occ l).length≤8:=by
  have hc:Chn 8 none (occ l):=(qW (flat l) (fun v hv=>by
    obtain ⟨t,ht,hv⟩:=List.mem_flatMap.1 hv
    have:=(h.tab t ht).2.mem v hv
    omega)).1
  have:=hc.len (by decide)
  omega
def cmp (vs rs:List Int):List Int:=flt (fun m=>!decide ((m:Int)∈rs)) (2 ^ vs.length) 0
def imp (l:List S63) (vs rs:List Int):Bool×Int:=if gvl l=0 then (if qx vs rs=0 then ((qe (l++[⟨vs,cmp vs rs⟩])).2 != 0,0) else (false,qx vs rs)) else (false,gvl l)
theorem qdF {l:List S63} (h:l.length≤1000):api_Table_59.f l=some l:=by
  unfold api_Table_59.f
  rw [Option.bind_some,if_pos (by simp;omega),List.nil_append]
theorem qal {l:List S63} (h:l.length≤1000):Ev (fun _=>api_Table_59.f l) l:=by
  rw [qdF h]
  exact Ev.now _
theorem qam {l:List S63} (hs:Sm l) {vs rs:List Int} (h1:vs.length≤1030) (h2:rs.length≤1030):Sm (l++[⟨vs,rs⟩]):=fun t ht=>by
  rcases List.mem_append.1 ht with h|h
  · exact hs t h
  · rw [List.mem_singleton.1 h];exact ⟨h1,h2⟩
theorem qdq {vs rs:List Int} (h:vs.length≤10):(cmp vs rs).length≤1024:=Nat.le_trans (qbV _ _ _) (qbh h)
theorem qan (l:List S63) (hs:Sm l) (hl:l.length≤100) {vs rs:List Int} (h:VT vs rs):∀ (d i:Nat) (acc:List Int),i+d=2 ^ vs.length→acc.length≤i→acc++flt (fun m=>!decide ((m:Int)∈rs)) d i=cmp vs rs→
    Ev (fun k=>shared_Implied.l0 k l acc ((2 ^ vs.length:Nat):Int) i vs rs) ((qe (l++[⟨vs,cmp vs rs⟩])).2 != 0,0)
  | 0,i,acc,hd,ha,e=>by
    rw [flt,List.append_nil] at e
    rw [e]
    have h10:=h.len
    have hc:=qdq (rs:=rs) h10
    refine Ev.step (fun k=>by rw [shared_Implied.l0,if_neg (by omega)]) (Ev.bind (qal (l:=l) (by omega)) (Ev.bind (Ev.now ([⟨vs,cmp vs rs⟩]:List S63)) (qa (show l.length+([⟨vs,cmp vs rs⟩]:List S63).length<2932031007402 by simp;omega) (Ev.bind (qA (l++[⟨vs,cmp vs rs⟩]) (qam hs (by omega) (by omega)) (by simp;omega)) ?_))))
    exact Ev.now _
  | d+1,i,acc,hd,ha,e=>by
    have h10:=qbh h.len
    have hw:=qb i (2 ^ vs.length) (by omega) (by omega)
    have hr:=h.rows_len
    rw [flt] at e
    refine Ev.step (fun k=>by rw [shared_Implied.l0,if_pos (by omega),hw]) (Ev.bind (qw _ (by omega) _) ?_)
    by_cases c:(i:Int)∈rs
    · rw [if_neg (by simpa using c)] at e
      exact qa (by simpa using c) (qan l hs hl h d (i+1) acc (by omega) (by omega) e)
    · rw [if_pos (by simpa using c)] at e
      refine qc (by simpa using c) (Ev.bind (Ev.now [(i:Int)]) (qa (by simp;omega) (qan l hs hl h d (i+1) _ (by omega) (by simp;omega) ?_)))
      rw [List.append_assoc];exact e
theorem qb4 (l:List S63) (hs:Sm l) (hl:l.length≤100) (vs rs:List Int) (h1:vs.length≤1030) (h2:rs.length≤1030):Ev (fun k=>shared_Implied.f k l vs rs) (imp l vs rs):=by
  refine Ev.bind (qar l hs (by omega)) (qd (fun _=>Ev.bind (q1 _ _ (by omega) (by omega)) (qd (fun hv=>?_) (fun _=>Ev.now _))) (fun _=>Ev.now _))
  have h:=(qE vs rs).1 hv
  have:=qan l hs hl h (2 ^ vs.length) 0 [] (by omega) (by simp) (by rw [List.nil_append];rfl)
  rw [← q0 vs.length (by have:=h.len;omega)] at this
  exact this
def lk (l:List S63) (a b:Int):List S53:=(if (qe (l++[⟨[a,b],[1,2]⟩])).2=10 then [⟨a,b,true⟩] else [])++(if (qe (l++[⟨[a,b],[0,3]⟩])).2=10 then [⟨a,b,false⟩] else [])
theorem qbB (l:List S63) (a b:Int):(lk l a b).length≤2:=by
  unfold lk
  rw [List.length_append]
  split <;> split <;> simp
theorem qdG {l:List S63} (hs:Sm l) (hl:l.length≤100) (a b:Int) (out:List S53) (ho:out.length≤1000000) (x5 x24:List Int) (x25 x26:Int) (x34:List Int) (x35 x36:Int) {r:List S53×Int}
    (H:Ev (fun k=>shared_Linked.l1 k x5 (out++lk l a b) a x24 x25 x26 x34 x35 (wrap64 (x36+1)) l) r):Ev (fun k=>shared_Linked.l2 k x5 out a b x24 x25 x26 x34 x35 x36 [true,false] (([true,false]:List Bool).length:Int) 0 l) r:=by
  have hl':l.length<2932031007402:=by omega
  have hw1:wrap64 (1+1)=2:=by rw [qi _ (by decide)];rfl
  have hw0:wrap64 (0+1)=1:=by rw [qi _ (by decide)];rfl
  have f1:=qA (l++[⟨[a,b],[1,2]⟩]) (qam hs (by simp) (by simp)) (by simp;omega)
  have f2:=qA (l++[⟨[a,b],[0,3]⟩]) (qam hs (by simp) (by simp)) (by simp;omega)
  have e2:∀ o:List S53,Ev (fun k=>shared_Linked.l1 k x5 o a x24 x25 x26 x34 x35 (wrap64 (x36+1)) l) r→Ev (fun k=>shared_Linked.l2 k x5 o a b x24 x25 x26 x34 x35 x36 [true,false] (([true,false]:List Bool).length:Int) 2 l) r:=fun o h=>Ev.step (fun k=>by rw [shared_Linked.l2,if_neg (by decide)]) h
  have e1:∀ o:List S53,o.length≤1000001→Ev (fun k=>shared_Linked.l1 k x5 (o++(if (qe (l++[⟨[a,b],[0,3]⟩])).2=10 then [⟨a,b,false⟩] else [])) a x24 x25 x26 x34 x35 (wrap64 (x36+1)) l) r→Ev (fun k=>shared_Linked.l2 k x5 o a b x24 x25 x26 x34 x35 x36 [true,false] (([true,false]:List Bool).length:Int) 1 l) r:=fun o ho h=>by
    refine Ev.step (fun k=>by rw [shared_Linked.l2,if_pos (by decide),if_pos (by decide),if_pos (by decide),hw1]) (Ev.bind (qal (l:=l) (by omega)) (Ev.bind (show Ev (fun k=>shared_both.f a b (!(rdOf false [true,false] 1))) ([a,b],[0,3]) from Ev.now _) (qa hl' (Ev.bind f2 ?_))))
    by_cases c:(qe (l++[⟨[a,b],[0,3]⟩])).2=10
    · rw [if_pos c] at h
      exact qa c (qa (show o.length<5864062014805 by omega) (e2 _ h))
    · rw [if_neg c,List.append_nil] at h
      exact qc c (e2 _ h)
  refine Ev.step (fun k=>by rw [shared_Linked.l2,if_pos (by decide),if_pos (by decide),if_pos (by decide),hw0]) (Ev.bind (qal (l:=l) (by omega)) (Ev.bind (show Ev (fun k=>shared_both.f a b (!(rdOf false [true,false] 0))) ([a,b],[1,2]) from Ev.now _) (qa hl' (Ev.bind f1 ?_))))
  unfold lk at H
  rw [← List.append_assoc] at H
  by_cases c:(qe (l++[⟨[a,b],[1,2]⟩])).2=10
  · rw [if_pos c] at H
    exact qa c (qa (show out.length<5864062014805 by omega) (e1 _ (by simp;omega) H))
  · rw [if_neg c,List.append_nil] at H
    exact qc c (e1 _ (by omega) H)
theorem qcC {l:List S63} (hs:Sm l) (hl:l.length≤100) (a:Int) (ys:List Int) (hy:ys.length≤1000) (x5 x24:List Int) (x25 x26:Int) {r:List S53×Int}:∀ (d j:Nat) (out:List S53),j+d=ys.length→out.length+2 * d≤1000000→
    Ev (fun k=>shared_Linked.l0 k x5 (out++(ys.drop j).flatMap (lk l a)) x24 x25 (wrap64 (x26+1)) l) r→Ev (fun k=>shared_Linked.l1 k x5 out a x24 x25 x26 ys ys.length j l) r
  | 0,j,out,h,ho,H=>by
    rw [List.drop_eq_nil_of_le (by omega),List.flatMap_nil,List.append_nil] at H
    exact Ev.step (fun k=>by rw [shared_Linked.l1,if_neg (by omega)]) H
  | d+1,j,out,h,ho,H=>by
    have hj:j<ys.length:=by omega
    have hw:=qb j ys.length hj (by omega)
    have h2:=qbB l a (rd ys j)
    rw [qg ys j hj,List.flatMap_cons,← List.append_assoc] at H
    have ih:=qcC hs hl a ys hy x5 x24 x25 x26 d (j+1) (out++lk l a (rd ys j)) (by omega) (by rw [List.length_append];omega) H
    rw [← hw] at ih
    exact Ev.step (fun k=>by rw [shared_Linked.l1,if_pos (by omega),if_pos (by omega),if_pos (by omega)]) (Ev.bind (Ev.now [true,false]) (qdG hs hl a (rd ys j) out (by omega) x5 x24 x25 x26 ys ys.length j ih))
def lks (l:List S63):List Int→List S53
  | []=>[]
  | a :: vs=>vs.flatMap (lk l a)++lks l vs
theorem qas (l:List S63) (a:Int):∀ ys:List Int,(ys.flatMap (lk l a)).length≤2 * ys.length
  | []=>by simp
  | y :: ys=>by
    have:=qas l a ys
    have:=qbB l a y
    rw [List.flatMap_cons,List.length_append,List.length_cons]
    omega
theorem qbC {l:List S63} (hs:Sm l) (hl:l.length≤100) (vs:List Int) (hv:vs.length≤100):∀ (d i:Nat) (out:List S53),i+d=vs.length→out.length+200 * d≤900000→
    Ev (fun k=>shared_Linked.l0 k vs out vs vs.length i l) (out++lks l (vs.drop i),0)
  | 0,i,out,h,ho=>by
    rw [List.drop_eq_nil_of_le (by omega),lks,List.append_nil]
    exact Ev.step (f:=fun _=>some (out,0)) (fun k=>by rw [shared_Linked.l0,if_neg (by omega)]) (Ev.now _)
  | d+1,i,out,h,ho=>by
    have hi:i<vs.length:=by omega
    have hw:=qb i vs.length hi (by omega)
    have h2:=qas l (rd vs i) (vs.drop (i+1))
    rw [List.length_drop] at h2
    rw [qg vs i hi,lks,← List.append_assoc]
    have ih:=qbC hs hl vs hv d (i+1) (out++(vs.drop (i+1)).flatMap (lk l (rd vs i))) (by omega) (by rw [List.length_append];omega)
    have hl1:=qcC hs hl (rd vs i) (vs.drop (i+1)) (by rw [List.length_drop];omega) vs vs vs.length i (vs.drop (i+1)).length 0 out (by omega) (by rw [List.length_drop];omega) (r:=(out++(vs.drop (i+1)).flatMap (lk l (rd vs i))++lks l (vs.drop (i+1)),0)) (by rw [List.drop_zero,hw];exact ih)
    refine Ev.step (fun k=>by rw [shared_Linked.l0,if_pos (by omega),if_pos (by omega),if_pos (by omega),hw,if_pos (by omega),if_pos (by omega),show (((i+1:Nat):Int)).toNat=i+1 from rfl]) (Ev.bind (Ev.now (vs.drop (i+1))) hl1)
theorem qbe {l:List S63} (hs:Sm l) (hl:l.length≤100) (vs:List Int) (hv:vs.length≤1000) (ho:∀ v,v∈vs→vl l v=3):∀ (d i:Nat),i+d=vs.length→Ev (fun k=>slices_IndexFunc_int_int_shared_Linked_1.l0 k vs vs.length i l) (-1)
  | 0,i,h=>Ev.step (f:=fun _=>some (-1)) (fun k=>by rw [slices_IndexFunc_int_int_shared_Linked_1.l0,if_neg (by omega)]) (Ev.now _)
  | d+1,i,h=>by
    have hi:i<vs.length:=by omega
    have hw:=qb i vs.length hi (by omega)
    have h3:=ho _ (qm vs i hi)
    have hc:Ev (fun k=>shared_Linked_1_v1.f k (rd vs i) l) false:=by
      have:=Ev.bind (f:=fun _ t=>some (t != 3)) (qak l hs hl (rd vs i)) (Ev.now _)
      rw [h3] at this
      exact this
    exact Ev.step (fun k=>by rw [slices_IndexFunc_int_int_shared_Linked_1.l0,if_pos (by omega),if_pos (by omega),if_pos (by omega),hw]) (Ev.bind hc (qc Bool.false_ne_true (qbe hs hl vs hv ho d (i+1) (by omega))))
def qaZ (l:List S63):List Int:=flt (fun m=>decide ((m:Int)∈flat l)) 24 0
theorem qat {l:List S63} (h:VS l):occ l=qaZ l:=by
  have hc:=qO (fun m=>decide ((m:Int)∈flat l)) 24 0 none (fun q hq=>by cases hq)
  refine Chn.same h.occ.1 hc (fun n=>?_)
  rw [h.occ.2]
  unfold qaZ
  rw [qV]
  constructor
  · intro hn
    have:=h.flat n hn
    exact ⟨n.toNat,by omega,by omega,by rw [← qn this.1];simpa using hn,qn this.1⟩
  · rintro ⟨m,_,_,hm,rfl⟩
    simpa using hm
def qbi (l:List S63):Int×Int:=if qp l=0 then solve_First.of ((sl l (qaZ l) 0).map fun a:Nat=>(a:Int)) else (0,qp l)
theorem qD (l:List S63):qe l=qbi l:=by
  unfold qe qbi SS
  by_cases e:qp l=0
  · rw [if_pos e,if_pos e,qat ((qf l).1 e)]
  · rw [if_neg e,if_neg e]
def E2:List S63:=[⟨[0,1],[1,2]⟩,⟨[1,2],[0,3]⟩]
def E3:List S63:=[⟨[0,1],[1,2]⟩,⟨[1,2],[0,3]⟩,⟨[0],[1]⟩]
def K0:List S63:=[⟨[0,1],[1,2]⟩,⟨[1,2],[0,3]⟩,⟨[0],[1]⟩,⟨[0],[0]⟩]
def K1:List S63:=[⟨[0,1],[1,2]⟩,⟨[1,2],[0,3]⟩,⟨[0],[1]⟩,⟨[1],[1]⟩]
def K2:List S63:=[⟨[0,1],[1,2]⟩,⟨[1,2],[0,3]⟩,⟨[0],[1]⟩,⟨[2],[1]⟩]
theorem qcj:VS E2:=(qf _).1 (by decide)
theorem qck:VS E3:=(qf _).1 (by decide)
theorem qcl:VS K0:=(qf _).1 (by decide)
theorem qcm:VS K1:=(qf _).1 (by decide)
theorem qcn:VS K2:=(qf _).1 (by decide)
theorem qcD:occ E2=[0,1,2]:=(qat qcj).trans (by kernel_rfl)
theorem qbD:occ E3=[0,1,2]:=(qat qck).trans (by kernel_rfl)
def N0:List S103:=((solve_split.f 60 K0 [0,1,2] 0 0 []).getD ([],false)).1
def N1:List S103:=((solve_split.f 60 K1 [0,1,2] 0 0 []).getD ([],false)).1
def N2:List S103:=((solve_split.f 60 K2 [0,1,2] 0 0 []).getD ([],false)).1
theorem qco {K:List S63} (h:VS K) {vs:List Int} (ho:occ K=vs) {N:List S103} (hn:solve_search.f 60 K vs 0 0=some []) (hp:solve_split.f 60 K vs 0 0 []=some (N,true)):Ev (fun k=>solve_Refute.f k K) (N,0):=by
  have v:=qh (qz K (qt h) (by have:=h.len;omega)) ((qf _).2 h)
  have o:Ev (fun k=>solve_occurring.f k K) vs:=qh (qaG K (qt h) (by have:=h.len;omega)) ho
  have s:Ev (fun k=>solve_search.f k K vs 0 0) []:=Ev.of (fun k=>solve_search.mono _ _ _ _ k) (k:=60) hn
  have p:Ev (fun k=>solve_split.f k K vs 0 0 []) (N,true):=Ev.of (fun k=>solve_split.mono _ _ _ _ _ k) (k:=60) hp
  exact Ev.bind v (qa rfl (Ev.bind o (Ev.bind s (qa rfl (Ev.bind p (Ev.now _))))))
theorem qcp {K:List S63} (h:VS K) {N:List S103} (h1:solve_shape.f 200 K N=some true) (h2:solve_right.f 200 K N 0 0 0=some true):Ev (fun k=>solve_Check.f k K N) true:=by
  have v:=qh (qz K (qt h) (by have:=h.len;omega)) ((qf _).2 h)
  have a:Ev (fun k=>solve_shape.f k K N) true:=Ev.of (fun k=>solve_shape.mono _ _ k) (k:=200) h1
  have b:Ev (fun k=>solve_right.f k K N 0 0 0) true:=Ev.of (fun k=>solve_right.mono _ _ _ _ _ k) (k:=200) h2
  exact Ev.bind v (qa rfl (Ev.bind a (qa rfl (Ev.bind b (Ev.now _)))))
def X3:List S42:=[⟨0,2,1,0,0,⟨N0⟩⟩,⟨1,1,1,0,0,⟨N1⟩⟩,⟨2,1,1,0,0,⟨N2⟩⟩]
theorem qc6:∀ v,v∈[0,1,2]→vl E2 v=3:=by
  intro v hv
  simp only [List.mem_cons,List.not_mem_nil,or_false] at hv
  rcases hv with rfl|rfl|rfl <;> (unfold vl wth;rw [qD,qD];kernel_rfl)
theorem qcE:Ev (fun k=>shared_Linked.f k E2) ([⟨0,1,false⟩,⟨0,2,false⟩,⟨1,2,true⟩],0):=by
  have hs:=qt qcj
  have s:sov E2=0:=by unfold sov;rw [qD];kernel_rfl
  have v:Ev (fun k=>solve_Vars.f k E2) [0,1,2]:=qh (qG E2 hs (by decide)) (by unfold vrs;rw [qcD];kernel_rfl)
  have i:=qbe hs (by decide) [0,1,2] (by decide) qc6 3 0 rfl
  have k0:=qbC hs (by decide) [0,1,2] (by decide) 3 0 [] rfl (by decide)
  refine Ev.bind (qX E2 hs (by decide)) (qa s (Ev.bind v (Ev.bind (show Ev (fun k=>slices_DeleteFunc_int_int_shared_Linked_1.f k [0,1,2] E2) [0,1,2] from Ev.bind i (qa rfl (Ev.now _))) (qh k0 ?_))))
  show ([]++lks E2 [0,1,2],(0:Int))=_
  unfold lks lks lks lks
  simp only [List.flatMap_cons,List.flatMap_nil]
  unfold lk
  simp only [qD]
  kernel_rfl
theorem qY {l:List S63} (hs:Sm l) (hl:l.length≤100) {v x:Int} {q:List S63×Int×Bool} (h:((giv l v x).1,(qbi (giv l v x).1).1,(qbi (giv l v x).1).2 == 0)=q):Ev (fun k=>shared_with.f k l v x) q:=qh (qaE l hs hl v x) (by unfold wth;rw [qD];exact h)
theorem qdH:Ev (fun k=>shared_All.f k E3) (X3,0):=by
  have hs:=qt qck
  have s:sov E3=0:=by unfold sov;rw [qD];kernel_rfl
  have v:Ev (fun k=>solve_Vars.f k E3) [0,1,2]:=qh (qG E3 hs (by decide)) (by unfold vrs;rw [qbD];kernel_rfl)
  have r0:Ev (fun k=>solve_Refute.f k K0) (N0,0):=qco qcl ((qat qcl).trans (by kernel_rfl:qaZ K0=[0,1,2])) (by kernel_rfl) (by kernel_rfl)
  have r1:Ev (fun k=>solve_Refute.f k K1) (N1,0):=qco qcm ((qat qcm).trans (by kernel_rfl:qaZ K1=[0,1,2])) (by kernel_rfl) (by kernel_rfl)
  have r2:Ev (fun k=>solve_Refute.f k K2) (N2,0):=qco qcn ((qat qcn).trans (by kernel_rfl:qaZ K2=[0,1,2])) (by kernel_rfl) (by kernel_rfl)
  have w00:Ev (fun k=>shared_with.f k E3 0 0) (K0,0,false):=qY hs (by decide) (by kernel_rfl)
  have w01:Ev (fun k=>shared_with.f k E3 0 1) (E3++[⟨[0],[1]⟩],1,true):=qY hs (by decide) (by kernel_rfl)
  have w10:Ev (fun k=>shared_with.f k E3 1 0) (E3++[⟨[1],[0]⟩],1,true):=qY hs (by decide) (by kernel_rfl)
  have w11:Ev (fun k=>shared_with.f k E3 1 1) (K1,0,false):=qY hs (by decide) (by kernel_rfl)
  have w20:Ev (fun k=>shared_with.f k E3 2 0) (E3++[⟨[2],[0]⟩],1,true):=qY hs (by decide) (by kernel_rfl)
  have w21:Ev (fun k=>shared_with.f k E3 2 1) (K2,0,false):=qY hs (by decide) (by kernel_rfl)
  have e0:Ev (fun k=>shared_evidence.f k E3 0) (0,2,1,0,0,N0,0):=Ev.bind w00 (Ev.bind w01 (qc (by decide) (Ev.bind r0 (Ev.now _))))
  have e1:Ev (fun k=>shared_evidence.f k E3 1) (1,1,1,0,0,N1,0):=Ev.bind w10 (Ev.bind w11 (qa rfl (qc (by decide) (Ev.bind r1 (Ev.now _)))))
  have e2:Ev (fun k=>shared_evidence.f k E3 2) (2,1,1,0,0,N2,0):=Ev.bind w20 (Ev.bind w21 (qa rfl (qc (by decide) (Ev.bind r2 (Ev.now _)))))
  have x2:rd [0,1,2] ((2:Nat):Int)=2:=rfl
  have x1:rd [0,1,2] ((1:Nat):Int)=1:=rfl
  have x0:rd [0,1,2] ((0:Nat):Int)=0:=rfl
  have l3:Ev (fun k=>shared_All.l0 k E3 X3 [0,1,2] (([0,1,2]:List Int).length:Int) ((3:Nat):Int)) (X3,0):=Ev.step (f:=fun _=>some (X3,0)) (fun k=>by rw [shared_All.l0,if_neg (by decide)]) (Ev.now _)
  have l2:Ev (fun k=>shared_All.l0 k E3 (X3.take 2) [0,1,2] (([0,1,2]:List Int).length:Int) ((2:Nat):Int)) (X3,0):=Ev.step (fun k=>by rw [shared_All.l0,if_pos (by decide),if_pos (by decide),if_pos (by decide),qb 2 3 (by decide) (by decide),x2]) (Ev.bind e2 (qa rfl (qa (show (X3.take 2).length<2199023255552 by decide) l3)))
  have l1:Ev (fun k=>shared_All.l0 k E3 (X3.take 1) [0,1,2] (([0,1,2]:List Int).length:Int) ((1:Nat):Int)) (X3,0):=Ev.step (fun k=>by rw [shared_All.l0,if_pos (by decide),if_pos (by decide),if_pos (by decide),qb 1 3 (by decide) (by decide),x1]) (Ev.bind e1 (qa rfl (qa (show (X3.take 1).length<2199023255552 by decide) l2)))
  have l0:Ev (fun k=>shared_All.l0 k E3 [] [0,1,2] (([0,1,2]:List Int).length:Int) ((0:Nat):Int)) (X3,0):=Ev.step (fun k=>by rw [shared_All.l0,if_pos (by decide),if_pos (by decide),if_pos (by decide),qb 0 3 (by decide) (by decide),x0]) (Ev.bind e0 (qa rfl (qa (show ([]:List S42).length<2199023255552 by decide) l1)))
  exact Ev.bind (qX E3 hs (by decide)) (qa s (Ev.bind v l0))
theorem qcV:Ev (fun k=>shared_Check.f k E3 X3) true:=by
  have hs:=qt qck
  have g:gvl E3=0:=by decide
  have v:Ev (fun k=>solve_Vars.f k E3) [0,1,2]:=qh (qG E3 hs (by decide)) (by unfold vrs;rw [qbD];kernel_rfl)
  have f:Ev (fun k=>solve_First.f k E3) (1,0):=qh (qA E3 hs (by decide)) (by rw [qD];kernel_rfl)
  have q:=qcy [0,1,2] (by decide)
  have hh:Ev (fun k=>solve_Holds.f k E3 1) true:=qh (qcR E3 hs (by decide) 1) (by unfold hld hsS;rw [qbD];kernel_rfl)
  have g0:Ev (fun k=>solve_Given.f k E3 0 (wrap64 (2 - 2))) (K0,0):=qh (qaq E3 hs (by decide) 0 _) (by kernel_rfl)
  have g1:Ev (fun k=>solve_Given.f k E3 1 (wrap64 (2 - 1))) (K1,0):=qh (qaq E3 hs (by decide) 1 _) (by kernel_rfl)
  have g2:Ev (fun k=>solve_Given.f k E3 2 (wrap64 (2 - 1))) (K2,0):=qh (qaq E3 hs (by decide) 2 _) (by kernel_rfl)
  have c0:Ev (fun k=>solve_Check.f k K0 N0) true:=qcp qcl (by kernel_rfl) (by kernel_rfl)
  have c1:Ev (fun k=>solve_Check.f k K1 N1) true:=qcp qcm (by kernel_rfl) (by kernel_rfl)
  have c2:Ev (fun k=>solve_Check.f k K2 N2) true:=qcp qcn (by kernel_rfl) (by kernel_rfl)
  have r0:Ev (fun k=>shared_right.f k E3 0 2 1 0 0 N0) true:=qc (by decide) (qc (by decide) (qa rfl (Ev.bind g0 (qa rfl (qa rfl (qa rfl (Ev.bind hh (qa rfl (Ev.bind c0 (Ev.now _))))))))))
  have r1:Ev (fun k=>shared_right.f k E3 1 1 1 0 0 N1) true:=qc (by decide) (qa rfl (Ev.bind g1 (qa rfl (qa rfl (qa rfl (Ev.bind hh (qa rfl (Ev.bind c1 (Ev.now _)))))))))
  have r2:Ev (fun k=>shared_right.f k E3 2 1 1 0 0 N2) true:=qc (by decide) (qa rfl (Ev.bind g2 (qa rfl (qa rfl (qa rfl (Ev.bind hh (qa rfl (Ev.bind c2 (Ev.now _)))))))))
  have x2:rd_T42 X3 ((2:Nat):Int)=⟨2,1,1,0,0,⟨N2⟩⟩:=rfl
  have x1:rd_T42 X3 ((1:Nat):Int)=⟨1,1,1,0,0,⟨N1⟩⟩:=rfl
  have x0:rd_T42 X3 ((0:Nat):Int)=⟨0,2,1,0,0,⟨N0⟩⟩:=rfl
  have i3:Ev (fun k=>api_Evidence_shared_Check_1_v1.l0 k X3 (X3.length:Int) ((3:Nat):Int) E3) (-1):=Ev.step (f:=fun _=>some (-1)) (fun k=>by rw [api_Evidence_shared_Check_1_v1.l0,if_neg (by decide)]) (Ev.now _)
  have i2:Ev (fun k=>api_Evidence_shared_Check_1_v1.l0 k X3 (X3.length:Int) ((2:Nat):Int) E3) (-1):=Ev.step (fun k=>by rw [api_Evidence_shared_Check_1_v1.l0,if_pos (by decide),if_pos (by decide),if_pos (by decide),qb 2 3 (by decide) (by decide),x2]) (Ev.bind (show Ev (fun k=>shared_Check_1_v1.f k 2 1 1 0 0 N2 E3) false from Ev.bind r2 (Ev.now _)) (qc Bool.false_ne_true i3))
  have i1:Ev (fun k=>api_Evidence_shared_Check_1_v1.l0 k X3 (X3.length:Int) ((1:Nat):Int) E3) (-1):=Ev.step (fun k=>by rw [api_Evidence_shared_Check_1_v1.l0,if_pos (by decide),if_pos (by decide),if_pos (by decide),qb 1 3 (by decide) (by decide),x1]) (Ev.bind (show Ev (fun k=>shared_Check_1_v1.f k 1 1 1 0 0 N1 E3) false from Ev.bind r1 (Ev.now _)) (qc Bool.false_ne_true i2))
  have i0:Ev (fun k=>api_Evidence_shared_Check_1_v1.l0 k X3 (X3.length:Int) ((0:Nat):Int) E3) (-1):=Ev.step (fun k=>by rw [api_Evidence_shared_Check_1_v1.l0,if_pos (by decide),if_pos (by decide),if_pos (by decide),qb 0 3 (by decide) (by decide),x0]) (Ev.bind (show Ev (fun k=>shared_Check_1_v1.f k 0 2 1 0 0 N0 E3) false from Ev.bind r0 (Ev.now _)) (qc Bool.false_ne_true i1))
  have cf:Ev (fun k=>api_Evidence_shared_Check_1.f k X3 E3) false:=Ev.bind (show Ev (fun k=>api_Evidence_shared_Check_1_v1.f k X3 E3) (-1) from i0) (Ev.now _)
  have ct:Ev (fun k=>(api_Evidence_shared_Check_1.f k X3 E3).bind fun t=>some (!t)) true:=Ev.bind cf (Ev.now _)
  have l3:Ev (fun k=>shared_Check.l0 k X3 [0,1,2] X3 (X3.length:Int) ((3:Nat):Int) E3) true:=Ev.step (fun k=>by rw [shared_Check.l0,if_neg (by decide)]) (Ev.bind f (qa rfl (Ev.bind v (Ev.bind q (qa rfl ct)))))
  have l2:Ev (fun k=>shared_Check.l0 k X3 [0,1] X3 (X3.length:Int) ((2:Nat):Int) E3) true:=Ev.step (fun k=>by rw [shared_Check.l0,if_pos (by decide),if_pos (by decide),if_pos (by decide),if_pos (by decide),qb 2 3 (by decide) (by decide),x2];rfl) l3
  have l1:Ev (fun k=>shared_Check.l0 k X3 [0] X3 (X3.length:Int) ((1:Nat):Int) E3) true:=Ev.step (fun k=>by rw [shared_Check.l0,if_pos (by decide),if_pos (by decide),if_pos (by decide),if_pos (by decide),qb 1 3 (by decide) (by decide),x1];rfl) l2
  have l0:Ev (fun k=>shared_Check.l0 k X3 [] X3 (X3.length:Int) ((0:Nat):Int) E3) true:=Ev.step (fun k=>by rw [shared_Check.l0,if_pos (by decide),if_pos (by decide),if_pos (by decide),if_pos (by decide),qb 0 3 (by decide) (by decide),x0];rfl) l1
  exact Ev.bind (qar E3 hs (by decide)) (qa g l0)
theorem qbE:Ev (fun k=>ancepslaw41_awake.f k) true:=by
  have hs:=qt qcj
  have a:=qcE
  have b:Ev (fun k=>shared_Implied.f k E2 [0,2] [1,2,3]) (true,0):=qh (qb4 E2 hs (by decide) [0,2] [1,2,3] (by decide) (by decide)) (by unfold imp;rw [qD];kernel_rfl)
  have c:=qdH
  have d:Ev (fun k=>shared_Value.f k E2 0) (3,0):=qh (qb3 E2 hs (by decide) 0) (by unfold vlu sov vrs;rw [qc6 0 (by decide),qD,qcD];kernel_rfl)
  have e:=qcV
  have f:Ev (fun k=>api_Link_25.f k [⟨0,1,false⟩,⟨0,2,false⟩,⟨1,2,true⟩] [⟨0,1,false⟩,⟨0,2,false⟩,⟨1,2,true⟩]) true:=⟨60,fun k h=>by obtain ⟨j,rfl⟩:=Nat.exists_eq_add_of_le' h;kernel_rfl⟩
  unfold ancepslaw41_awake.f
  exact Ev.bind (Ev.now E2) (Ev.bind a (Ev.bind b (Ev.bind (Ev.now E2) (qa (by decide) (Ev.bind (Ev.now E3) (Ev.bind c (Ev.bind d (qa rfl (qa rfl (qa rfl (qa rfl (qa rfl (qa rfl (qa rfl (Ev.bind e (qa rfl (Ev.bind f (qa rfl (qa (by decide) (qa rfl (qa (by decide) (qa rfl (qa (by decide) (Ev.now _))))))))))))))))))))))))
theorem qcq:Ev (fun k=>(ancepslaw41_awake.f k).bind fun t=>some t) true:=Ev.bind qbE (Ev.now _)

theorem qau (l:List S63) (t:S63) (a:Nat):sat (l++[t]) a=true↔sat l a=true∧hs t.f0 t.f1 a=true:=by
  unfold sat
  rw [List.all_append,Bool.and_eq_true,List.all_cons,List.all_nil,Bool.and_true]
theorem qbF {l:List S63} (h:VS l) (h15:l.length≤15) {t:S63} (ht:VT t.f0 t.f1):VS (l++[t]):=by
  refine ⟨by rw [List.length_append,List.length_singleton];omega,fun u hu=>?_⟩
  rcases List.mem_append.1 hu with hu|hu
  · exact h.tab u hu
  · rw [List.mem_singleton.1 hu];exact ht
theorem qcF {l:List S63} (h:VS l) (h15:l.length≤15) {v:Int} (hv:v∈occ l):vlu l v=if (qe l).2=0 then (vl l v,0) else (0,12):=by
  have h1:=h.occ' v hv
  have hg:=qcA h h15
  have hvr:v∈vrs l:=by unfold vrs;rw [if_pos ((qf l).2 h)];exact hv
  unfold vlu sov
  rw [if_pos hg,if_neg (by omega),if_neg (by omega),if_pos hg]
  by_cases c:(qe l).2=0
  · rw [if_pos c,if_pos c,if_pos rfl,if_pos hvr]
  · rw [if_neg c,if_neg c,if_neg (by decide)]
theorem qcG {vs rs:List Int} (h:VT vs rs) (a:Nat):hs vs (cmp vs rs) a=!hs vs rs a:=by
  unfold hs cmp
  have hl:=qJ vs a
  rw [Bool.eq_iff_iff]
  simp only [decide_eq_true_iff,Bool.not_eq_true',decide_eq_false_iff_not,qV]
  constructor
  · rintro ⟨m,_,_,hm,e⟩
    have e':row vs a=m:=by omega
    subst e'
    simpa using hm
  · exact fun hn=>⟨row vs a,by omega,by omega,by simpa using hn,rfl⟩
theorem qdI {vs rs:List Int} (h:VT vs rs):VT vs (cmp vs rs):=by
  refine ⟨h.len,h.vars,?_⟩
  have:=qO (fun m=>!decide ((m:Int)∈rs)) (2 ^ vs.length) 0 none (fun q hq=>by cases hq)
  rwa [Nat.zero_add] at this
theorem qaA (a b:List Int) (hl:a.length≤1000) (he:a.length=b.length):∀ (d i:Nat),i+d=a.length→Ev (fun k=>slices_Equal_int_int.l0 k a b a.length i) (decide (a.drop i=b.drop i))
  | 0,i,h=>by
    rw [List.drop_eq_nil_of_le (by omega),List.drop_eq_nil_of_le (by omega)]
    exact Ev.step (f:=fun _=>some true) (fun k=>by rw [slices_Equal_int_int.l0,if_neg (by omega)]) (Ev.now _)
  | d+1,i,h=>by
    have hi:i<a.length:=by omega
    have hw:=qb i a.length hi (by omega)
    rw [qg a i hi,qg b i (by omega)]
    by_cases e:rd a i=rd b i
    · have ih:=qaA a b hl he d (i+1) (by omega)
      rw [show decide (rd a i :: a.drop (i+1)=rd b i :: b.drop (i+1))=decide (a.drop (i+1)=b.drop (i+1)) from decide_eq_decide.2 ⟨fun h=>(List.cons.inj h).2,fun h=>by rw [e,h]⟩]
      exact Ev.step (fun k=>by rw [slices_Equal_int_int.l0,if_pos (by omega),if_pos (by omega),if_pos (by omega),if_pos (by omega),if_pos e,hw]) ih
    · rw [decide_eq_false (fun h=>e (List.cons.inj h).1)]
      exact Ev.step (f:=fun _=>some false) (fun k=>by rw [slices_Equal_int_int.l0,if_pos (by omega),if_pos (by omega),if_pos (by omega),if_pos (by omega),if_neg e]) (Ev.now _)
theorem qcH (a b:List Int) (hl:a.length≤1000):Ev (fun k=>slices_Equal_int_int.f k a b) (decide (a=b)):=by
  by_cases he:a.length=b.length
  · have:=qaA a b hl he a.length 0 (by omega)
    rw [List.drop_zero,List.drop_zero] at this
    exact qa (by omega) this
  · rw [decide_eq_false (fun h=>he (by rw [h]))]
    exact qc (by omega) (Ev.now _)

def opn (l:List S63) (vs:List Int):List Int:=vs.filter fun v=>vl l v == 3
theorem q5 (l:List S63) (x:Int) (xs:List Int):opn l (x :: xs)=if vl l x=3 then x :: opn l xs else opn l xs:=by
  unfold opn
  rw [List.filter_cons]
  by_cases h:vl l x=3
  · rw [if_pos h,if_pos (by simpa using h)]
  · rw [if_neg h,if_neg (by simpa using h)]
theorem qb5 {l:List S63} (hs:Sm l) (hl:l.length≤100) (v:Int):Ev (fun k=>shared_Linked_1_v1.f k v l) (vl l v != 3):=Ev.bind (f:=fun _ t=>some (t != 3)) (qak l hs hl v) (Ev.now _)
theorem qb6 {l:List S63} (hs:Sm l) (hl:l.length≤100):∀ xs:List Int,Ev (fun k=>delF (fun x=>shared_Linked_1_v1.f k x l) xs) (opn l xs)
  | []=>Ev.now _
  | x :: xs=>by
    show Ev (fun k=>(shared_Linked_1_v1.f k x l).bind fun b=>(delF (fun x=>shared_Linked_1_v1.f k x l) xs).bind fun r=>some (if b=true then r else x :: r)) _
    refine Ev.bind (qb5 hs hl x) (Ev.bind (qb6 hs hl xs) (qh (Ev.now _) ?_))
    rw [q5]
    by_cases h:vl l x=3
    · rw [if_pos h,h];rfl
    · rw [if_neg h,if_pos (by simpa using h)]
theorem qbf {l:List S63} (hs:Sm l) (hl:l.length≤100) (vs:List Int) (hv:vs.length≤1000):∀ (d i:Nat),i+d=vs.length→∃ q:Int,Ev (fun k=>slices_IndexFunc_int_int_shared_Linked_1.l0 k vs vs.length i l) q∧
    ((q=-1∧opn l (vs.drop i)=vs.drop i)∨∃ m:Nat,q=m∧i≤m∧m<vs.length∧opn l (vs.drop i)=(vs.drop i).take (m - i)++opn l (vs.drop (m+1)))
  | 0,i,h=>⟨-1,Ev.step (f:=fun _=>some (-1)) (fun k=>by rw [slices_IndexFunc_int_int_shared_Linked_1.l0,if_neg (by omega)]) (Ev.now _),.inl ⟨rfl,by rw [List.drop_eq_nil_of_le (by omega)];rfl⟩⟩
  | d+1,i,h=>by
    have hi:i<vs.length:=by omega
    have hw:=qb i vs.length hi (by omega)
    have hc:=qb5 hs hl (rd vs i)
    by_cases h3:vl l (rd vs i)=3
    · obtain ⟨q,e,hq⟩:=qbf hs hl vs hv d (i+1) (by omega)
      rw [h3] at hc
      replace hc:Ev (fun k=>shared_Linked_1_v1.f k (rd vs i) l) false:=hc
      refine ⟨q,Ev.step (fun k=>by rw [slices_IndexFunc_int_int_shared_Linked_1.l0,if_pos (by omega),if_pos (by omega),if_pos (by omega),hw]) (Ev.bind hc (qc Bool.false_ne_true e)),?_⟩
      rw [qg vs i hi,q5,if_pos h3]
      rcases hq with ⟨rfl,hq⟩|⟨m,rfl,h1,h2,hq⟩
      · exact .inl ⟨rfl,by rw [hq]⟩
      · refine .inr ⟨m,rfl,by omega,h2,?_⟩
        rw [hq,show m - i=(m - (i+1))+1 by omega]
        rfl
    · have hn:(vl l (rd vs i) != 3)=true:=by simpa using h3
      rw [hn] at hc
      refine ⟨i,Ev.step (fun k=>by rw [slices_IndexFunc_int_int_shared_Linked_1.l0,if_pos (by omega),if_pos (by omega),if_pos (by omega),hw]) (Ev.bind hc (qa rfl (Ev.now _))),.inr ⟨i,rfl,Nat.le_refl _,hi,?_⟩⟩
      rw [qg vs i hi,q5,if_neg h3,Nat.sub_self]
      rfl
theorem qcW {l:List S63} (hs:Sm l) (hl:l.length≤100) (vs:List Int) (hv:vs.length≤1000):Ev (fun k=>slices_DeleteFunc_int_int_shared_Linked_1.f k vs l) (opn l vs):=by
  obtain ⟨q,e,hq⟩:=qbf hs hl vs hv vs.length 0 (by omega)
  rw [List.drop_zero] at hq
  refine Ev.bind e ?_
  rcases hq with ⟨rfl,hq⟩|⟨m,rfl,h1,h2,hq⟩
  · refine qa rfl ?_
    rw [hq]
    exact Ev.now _
  · refine qc (by omega) (qa (by omega) (qa (by omega) ?_))
    rw [Int.toNat_natCast]
    refine Ev.bind (qb6 hs hl (vs.drop (m+1))) (qh (Ev.now _) ?_)
    rw [hq,Nat.sub_zero]
theorem qa0 (l:List S63) (vs:List Int):(opn l vs).length≤vs.length:=List.length_filter_le _ _
def lkd (l:List S63):List S53×Int:=if sov l=0 then (lks l (opn l (occ l)),0) else ([],sov l)
theorem qbG {l:List S63} (h:sov l=0):VS l∧l.length≤15∧(qe l).2=0:=by
  unfold sov at h
  split at h
  · next hg=>
    split at h
    · next hf=>exact ⟨(qaj hg).1,(qaj hg).2,hf⟩
    · cases h
  · next hg=>exact absurd h hg
theorem qcI {l:List S63} (h:VS l):vrs l=occ l:=by unfold vrs;rw [if_pos ((qf l).2 h)]
theorem qcr (l:List S63) (hs:Sm l) (hl:l.length≤100):Ev (fun k=>shared_Linked.f k l) (lkd l):=by
  unfold lkd
  refine Ev.bind (qX l hs (by omega)) (qd (fun h=>?_) (fun _=>Ev.now _))
  obtain ⟨hv,h15,hf⟩:=qbG h
  have ho:=hv.occ_len
  have h2:=qa0 l (occ l)
  have hvr:=qG l hs (by omega)
  rw [qcI hv] at hvr
  refine Ev.bind hvr (Ev.bind (qcW hs hl (occ l) (by omega)) ?_)
  have:=qbC hs hl (opn l (occ l)) (by omega) (opn l (occ l)).length 0 [] (by omega) (by rw [List.length_nil];omega)
  rw [List.drop_zero,List.nil_append] at this
  exact this
theorem q6 {l:List S63} (hs:Sm l) (hl:l.length≤100) (vs:List Int) (hv:vs.length≤1000) (hw:∀ v,v∈vs→(vlu l v).1=vl l v):∀ (d i:Nat) (acc:List Int),i+d=vs.length→acc.length≤i→Ev (fun k=>ancepsref41_open.l0 k l acc vs i) (acc++opn l (vs.drop i))
  | 0,i,acc,h,_=>by
    rw [List.drop_eq_nil_of_le (by omega)]
    exact Ev.step (f:=fun _=>some acc) (fun k=>by rw [ancepsref41_open.l0,if_neg (by omega)]) (qh (Ev.now _) (List.append_nil _).symm)
  | d+1,i,acc,h,ha=>by
    have hi:i<vs.length:=by omega
    have hw1:=qb i vs.length hi (by omega)
    have e:=hw _ (qm vs i hi)
    rw [qg vs i hi,q5]
    refine Ev.step (fun k=>by rw [ancepsref41_open.l0,if_pos (by omega),if_pos (by omega),hw1]) (Ev.bind (qdp l hs hl (rd vs i)) ?_)
    by_cases h3:vl l (rd vs i)=3
    · rw [if_pos h3]
      refine qa (by rw [e];exact h3) (qa (by omega) ?_)
      have ih:=q6 hs hl vs hv hw d (i+1) (acc++[rd vs i]) (by omega) (by rw [List.length_append,List.length_cons,List.length_nil];omega)
      rw [List.append_assoc] at ih
      exact ih
    · rw [if_neg h3]
      exact qc (by rw [e];exact h3) (q6 hs hl vs hv hw d (i+1) acc (by omega) (by omega))
theorem qbH {m:List S63} (h:VS m):(qe m).2=0∨(qe m).2=10:=by
  unfold qe
  rw [if_pos ((qf m).2 h)]
  cases SS m with
  | nil=>exact .inr rfl
  | cons x xs=>exact .inl rfl
theorem qb7 {a b:Int} (h0:0≤a) (h1:a<b) (h2:b<24) {x y:Int} (hx:0≤x) (hxy:x<y) (hy:y<4):VT [a,b] [x,y] where
  len:=by show 2≤10;decide
  vars:=⟨h0,by omega,(fun _ e=>by cases e),by omega,h2,(fun q e=>by cases e;exact h1),trivial⟩
  rows:=by
    have e:((2 ^ ([a,b]:List Int).length:Nat):Int)=4:=rfl
    rw [e]
    exact ⟨hx,by omega,(fun _ e=>by cases e),by omega,hy,(fun q e=>by cases e;exact hxy),trivial⟩
theorem qcJ (a b:Int) (x:Nat):row [a,b] x=(x.testBit a.toNat).toNat+2 * (x.testBit b.toNat).toNat:=by
  have hl:=qJ [a,b] x
  have hl':row [a,b] x<4:=hl
  have b0:(row [a,b] x).testBit 0=x.testBit a.toNat:=by
    rw [Bool.eq_iff_iff,qj]
    exact ⟨fun ⟨v,e,h⟩=>by cases e;exact h,fun h=>⟨a,rfl,h⟩⟩
  have b1:(row [a,b] x).testBit 1=x.testBit b.toNat:=by
    rw [Bool.eq_iff_iff,qj]
    exact ⟨fun ⟨v,e,h⟩=>by cases e;exact h,fun h=>⟨b,rfl,h⟩⟩
  rw [← b0,← b1]
  generalize row [a,b] x=n at hl'
  have:n=0∨n=1∨n=2∨n=3:=by omega
  rcases this with rfl|rfl|rfl|rfl <;> decide
theorem qb8 (a b:Int) (x:Nat):hs [a,b] [0,3] x=(x.testBit a.toNat == x.testBit b.toNat)∧hs [a,b] [1,2] x=!(x.testBit a.toNat == x.testBit b.toNat):=by
  unfold hs
  rw [qcJ]
  cases x.testBit a.toNat <;> cases x.testBit b.toNat <;> decide
theorem qbI {l:List S63} (h:VS l) (h15:l.length≤15) {a b:Int} (h0:0≤a) (h1:a<b) (h2:b<24) :
    ((qe (l++[⟨[a,b],[0,3]⟩])).2=0∨(qe (l++[⟨[a,b],[0,3]⟩])).2=10)∧((qe (l++[⟨[a,b],[1,2]⟩])).2=0∨(qe (l++[⟨[a,b],[1,2]⟩])).2=10)∧
    ((qe (l++[⟨[a,b],[0,3]⟩])).2=0↔∃ x,sat l x=true∧x.testBit a.toNat=x.testBit b.toNat)∧((qe (l++[⟨[a,b],[1,2]⟩])).2=0↔∃ x,sat l x=true∧x.testBit a.toNat≠x.testBit b.toNat):=by
  have v1:=qbF h h15 (t:=⟨[a,b],[0,3]⟩) (qb7 h0 h1 h2 (by decide) (by decide) (by decide))
  have v2:=qbF h h15 (t:=⟨[a,b],[1,2]⟩) (qb7 h0 h1 h2 (by decide) (by decide) (by decide))
  refine ⟨qbH v1,qbH v2,?_,?_⟩
  · rw [qq v1]
    exact exists_congr fun x=>by rw [qau];dsimp only;rw [(qb8 a b x).1,beq_iff_eq]
  · rw [qq v2]
    exact exists_congr fun x=>by rw [qau];dsimp only;rw [(qb8 a b x).2];simp
def rlk (l:List S63) (a b:Int):List S53:=if (((qe (l++[⟨[a,b],[0,3]⟩])).2 == 0) != ((qe (l++[⟨[a,b],[1,2]⟩])).2 == 0))=true then [⟨a,b,(qe (l++[⟨[a,b],[0,3]⟩])).2 == 0⟩] else []
theorem qdJ {l:List S63} (h:VS l) (h15:l.length≤15) (hf:(qe l).2=0) {a b:Int} (h0:0≤a) (h1:a<b) (h2:b<24):rlk l a b=lk l a b:=by
  obtain ⟨c1,c2,e1,e2⟩:=qbI h h15 h0 h1 h2
  obtain ⟨s,hs⟩:=(qq h).1 hf
  have hor:(qe (l++[⟨[a,b],[0,3]⟩])).2=0∨(qe (l++[⟨[a,b],[1,2]⟩])).2=0:=by
    by_cases e:s.testBit a.toNat=s.testBit b.toNat
    · exact .inl (e1.2 ⟨s,hs,e⟩)
    · exact .inr (e2.2 ⟨s,hs,e⟩)
  unfold rlk lk
  rcases c1 with d1|d1 <;> rcases c2 with d2|d2
  · rw [d1,d2];rfl
  · rw [d1,d2];rfl
  · rw [d1,d2];rfl
  · rw [d1,d2] at hor;rcases hor with hor|hor <;> cases hor
theorem qb9 {l:List S63} (hl:l.length≤100) (vs rs:List Int):Ev (fun _=>ancepsref41_added.f l vs rs) (l++[⟨vs,rs⟩]):=by
  unfold ancepsref41_added.f
  refine Ev.bind (Ev.now ([]:List S63)) (qa (by rw [List.length_nil];omega) (Ev.bind (Ev.now _) (Ev.bind (Ev.now _) (qa (by rw [List.nil_append,List.length_cons,List.length_nil];omega) (Ev.now _)))))
theorem qbJ {l:List S63} (hs:Sm l) (hl:l.length≤90) (vs:List Int) (hv:vs.length≤100) (i:Nat) (hi:i<vs.length) (hk:∀ j:Nat,i<j→j<vs.length→rlk l (rd vs i) (rd vs j)=lk l (rd vs i) (rd vs j)) {r:List S53×Int}:∀ (d j:Nat) (out:List S53),j+d=vs.length→i<j→out.length+2 * d≤1000000→
    Ev (fun k=>ancepsref41_Linked.l0 k l (out++(vs.drop j).flatMap (lk l (rd vs i))) vs (wrap64 ((i:Int)+1))) r→Ev (fun k=>ancepsref41_Linked.l1 k l out vs i j) r
  | 0,j,out,h,hij,ho,H=>by
    rw [List.drop_eq_nil_of_le (by omega),List.flatMap_nil,List.append_nil] at H
    exact Ev.step (fun k=>by rw [ancepsref41_Linked.l1,if_neg (by omega)]) H
  | d+1,j,out,h,hij,ho,H=>by
    have hj:j<vs.length:=by omega
    have hw:=qb j vs.length hj (by omega)
    have e:=hk j hij hj
    have h2:=qbB l (rd vs i) (rd vs j)
    rw [qg vs j hj,List.flatMap_cons,← List.append_assoc] at H
    have ih:=qbJ hs hl vs hv i hi hk d (j+1) (out++lk l (rd vs i) (rd vs j)) (by omega) (by omega) (by rw [List.length_append];omega) H
    refine Ev.step (fun k=>by rw [ancepsref41_Linked.l1,if_pos (by omega),if_pos (by omega),if_pos (by omega),if_pos (by omega),hw]) ?_
    refine Ev.bind (Ev.now [rd vs i,rd vs j]) (Ev.bind (qb9 (by omega) _ _) (Ev.bind (qP _ (qam hs (by rw [List.length_cons,List.length_cons,List.length_nil];omega) (by decide)) (by rw [List.length_append,List.length_cons,List.length_nil];omega)) (Ev.bind (qb9 (by omega) _ _) (Ev.bind (qP _ (qam hs (by rw [List.length_cons,List.length_cons,List.length_nil];omega) (by decide)) (by rw [List.length_append,List.length_cons,List.length_nil];omega)) ?_))))
    rw [← e] at ih
    unfold rlk at ih
    by_cases c:(((qe (l++[⟨[rd vs i,rd vs j],[0,3]⟩])).2 == 0) != ((qe (l++[⟨[rd vs i,rd vs j],[1,2]⟩])).2 == 0))=true
    · rw [if_pos c] at ih
      exact qa c (qa (by omega) ih)
    · rw [if_neg c,List.append_nil] at ih
      exact qc c ih
theorem qbK {l:List S63} (hs:Sm l) (hl:l.length≤90) (vs:List Int) (hv:vs.length≤100) (hk:∀ i j:Nat,i<j→j<vs.length→rlk l (rd vs i) (rd vs j)=lk l (rd vs i) (rd vs j)):∀ (d i:Nat) (out:List S53),i+d=vs.length→out.length+200 * d≤900000→Ev (fun k=>ancepsref41_Linked.l0 k l out vs i) (out++lks l (vs.drop i),0)
  | 0,i,out,h,_=>by
    rw [List.drop_eq_nil_of_le (by omega),lks,List.append_nil]
    exact Ev.step (f:=fun _=>some (out,0)) (fun k=>by rw [ancepsref41_Linked.l0,if_neg (by omega)]) (Ev.now _)
  | d+1,i,out,h,ho=>by
    have hi:i<vs.length:=by omega
    have hw:=qb i vs.length hi (by omega)
    have h2:=qas l (rd vs i) (vs.drop (i+1))
    have h3:(vs.drop (i+1)).length≤100:=by rw [List.length_drop];omega
    rw [qg vs i hi,lks,← List.append_assoc]
    have ih:=qbK hs hl vs hv hk d (i+1) (out++(vs.drop (i+1)).flatMap (lk l (rd vs i))) (by omega) (by rw [List.length_append];omega)
    refine Ev.step (fun k=>by rw [ancepsref41_Linked.l0,if_pos (by omega),hw]) (qbJ hs hl vs hv i hi (hk i) (vs.length - (i+1)) (i+1) out (by omega) (by omega) (by omega) ?_)
    rw [hw]
    exact ih
theorem qcs (l:List S63) (hs:Sm l) (hl:l.length≤90):Ev (fun k=>ancepsref41_Linked.f k l) (lkd l):=by
  unfold lkd sov
  refine Ev.bind (qaX l hs (by omega)) ?_
  by_cases hg:gvl l=0
  · rw [if_pos hg]
    refine qa hg (Ev.bind (qP l hs (by omega)) ?_)
    by_cases hf:(qe l).2=0
    · rw [if_pos hf,if_pos rfl]
      refine qa (by rw [hf];rfl) ?_
      obtain ⟨hv,h15⟩:=qaj hg
      have ho:=hv.occ_len
      have h2:=qa0 l (occ l)
      have hop:Ev (fun k=>ancepsref41_open.f k l) (opn l (occ l)):=by
        have:=q6 hs (by omega) (occ l) (by omega) (fun v hm=>by rw [qcF hv h15 hm,if_pos hf]) (occ l).length 0 [] (by omega) (Nat.le_refl _)
        rw [List.drop_zero,List.nil_append] at this
        exact Ev.bind (qR hv hs) this
      refine Ev.bind hop ?_
      have hch:Chn 24 none (opn l (occ l)):=hv.occ.1.filter _
      have:=qbK hs hl (opn l (occ l)) (by omega) (fun i j hij hj=>by
        have hi:i<(opn l (occ l)).length:=by omega
        have b1:=hch.mem _ (qm _ i hi)
        have b2:=hch.mem _ (qm _ j hj)
        exact qdJ hv h15 hf b1.1 (hch.below i j _ _ hij (qU _ i hi) (qU _ j hj)) b2.2.1) (opn l (occ l)).length 0 [] (by omega) (by rw [List.length_nil];omega)
      rw [List.drop_zero,List.nil_append] at this
      exact this
    · rw [if_neg hf,if_neg (by decide)]
      exact qc (by simpa using hf) (Ev.now _)
  · rw [if_neg hg,if_neg hg]
    exact qc hg (Ev.now _)
def flp (a:Nat) (v:Int):Nat:=a ^^^ 2 ^ v.toNat
theorem qI (a:Nat) (v:Int) (j:Nat):(flp a v).testBit j=(a.testBit j ^^ decide (v.toNat=j)):=by unfold flp;rw [Nat.testBit_xor,Nat.testBit_two_pow]
def stb (a:Nat) (v:Int) (b:Bool):Nat:=if a.testBit v.toNat=b then a else flp a v
theorem qav (a:Nat) (v:Int) (b:Bool) (j:Nat):(stb a v b).testBit j=if v.toNat=j then b else a.testBit j:=by
  unfold stb
  split
  · next h=>
    split
    · next e=>rw [← e,h]
    · rfl
  · next h=>
    rw [qI]
    split
    · next e=>
      rw [← e] at *
      revert h
      cases a.testBit v.toNat <;> cases b <;> simp
    · next e=>rw [decide_eq_false e,Bool.xor_false]
def hlf (v x:Int) (t:S63):S63:=if v∈t.f0 then ⟨(rst t.f0 t.f1 v x).1,(rst t.f0 t.f1 v x).2.1⟩ else t
theorem qcK {t:S63} (h:VT t.f0 t.f1) {v:Int} (b:Bool) (hm:v∈t.f0):hlf v ((b.toNat:Nat):Int) t=⟨wo t.f0 v,ovr (wo t.f0 v) (fun a=>hs t.f0 t.f1 (q4 a v b))⟩:=by
  unfold hlf
  rw [if_pos hm]
  unfold rst
  rw [if_pos ((qE _ _).2 h)]
  cases b
  · rw [if_pos (by decide)]
    unfold qaW
    rw [if_pos hm]
  · rw [if_neg (by decide),if_pos (by decide)]
    unfold qaW
    rw [if_pos hm]
theorem qdK {t:S63} (h:VT t.f0 t.f1) (v:Int) (b:Bool):VT (hlf v ((b.toNat:Nat):Int) t).f0 (hlf v ((b.toNat:Nat):Int) t).f1:=by
  by_cases hm:v∈t.f0
  · rw [qcK h b hm]
    exact VT.zero h v (fun a=>hs t.f0 t.f1 (q4 a v b))
  · unfold hlf;rw [if_neg hm];exact h
theorem qcL {t:S63} (h:VT t.f0 t.f1) {v:Int} (h0:0≤v) (b:Bool) (a:Nat):hs (hlf v ((b.toNat:Nat):Int) t).f0 (hlf v ((b.toNat:Nat):Int) t).f1 a=hs t.f0 t.f1 (stb a v b):=by
  by_cases hm:v∈t.f0
  · rw [qcK h b hm]
    show hs (wo t.f0 v) (ovr (wo t.f0 v) (fun a=>hs t.f0 t.f1 (q4 a v b))) a=hs t.f0 t.f1 (stb a v b)
    rw [qdx (qaa h.vars _)]
    refine q3 _ _ (fun w hw=>?_)
    have hvw:=h.vars' w hw
    have hvx:=h.vars' _ hm
    rw [qcO,qav]
    by_cases hwx:w=v
    · subst hwx
      rw [qdb (qaa h.vars _) _ hvw.1 (fun c=>((qcw _ _ _).1 c).2 rfl),if_pos rfl]
      simp
    · rw [qcv (qaa h.vars _) a ((qcw _ _ _).2 ⟨hw,hwx⟩),decide_eq_false (show ¬ w.toNat=v.toNat by omega),Bool.and_false,Bool.or_false,if_neg (by omega)]
  · have e:hlf v ((b.toNat:Nat):Int) t=t:=by unfold hlf;rw [if_neg hm]
    rw [e]
    refine q3 _ _ (fun w hw=>?_)
    have hvw:=h.vars' w hw
    rw [qav,if_neg (fun c=>hm (by rw [show v=w by omega];exact hw))]
theorem qB (l:List S63) (a:Nat):sat l a=true↔∀ t,t∈l→hs t.f0 t.f1 a=true:=by unfold sat;rw [List.all_eq_true]
def hlv (l:List S63) (v:Int) (b:Bool):List S63:=l.map (hlf v ((b.toNat:Nat):Int))
theorem qK {l:List S63} (h:VS l) (v:Int) (b:Bool):VS (hlv l v b):=
  ⟨by unfold hlv;rw [List.length_map];exact h.len,fun t ht=>by obtain ⟨u,hu,rfl⟩:=List.mem_map.1 ht;exact qdK (h.tab u hu) v b⟩
theorem qdr {l:List S63} (h:VS l) {v:Int} (h0:0≤v) (b:Bool) (a:Nat):sat (hlv l v b) a=sat l (stb a v b):=by
  rw [Bool.eq_iff_iff,qB,qB]
  constructor
  · intro k t ht
    rw [← qcL (h.tab t ht) h0 b a]
    exact k _ (List.mem_map.2 ⟨t,ht,rfl⟩)
  · intro k t ht
    obtain ⟨u,hu,rfl⟩:=List.mem_map.1 ht
    rw [qcL (h.tab u hu) h0 b a]
    exact k u hu
theorem qbL {l:List S63} (h:VS l) (h15:l.length≤15) {vs rs:List Int} (ht:VT vs rs):(imp l vs rs).2=0∧((imp l vs rs).1=true↔∀ a,sat l a=true→hs vs rs a=true):=by
  unfold imp
  rw [if_pos (qcA h h15),if_pos ((qE _ _).2 ht)]
  refine ⟨rfl,?_⟩
  have hv:=qbF h h15 (t:=⟨vs,cmp vs rs⟩) (qdI ht)
  have e:=qq hv
  have k:((qe (l++[⟨vs,cmp vs rs⟩])).2 != 0)=true↔¬ (qe (l++[⟨vs,cmp vs rs⟩])).2=0:=by simp
  rw [k,e]
  constructor
  · intro hn a ha
    cases c:hs vs rs a
    · exact absurd ⟨a,(qau _ _ _).2 ⟨ha,by show hs vs (cmp vs rs) a=true;rw [qcG ht,c];rfl⟩⟩ hn
    · rfl
  · rintro hn ⟨a,ha⟩
    obtain ⟨h1,h2⟩:=(qau _ _ _).1 ha
    have h3:hs vs (cmp vs rs) a=true:=h2
    rw [qcG ht,hn a h1] at h3
    cases h3
def wtn (l m:List S63):Bool:=m.all fun t=>(imp l t.f0 t.f1).1
theorem qaB {l m:List S63} (h:VS l) (h15:l.length≤15) (hm:VS m) (hm15:m.length≤15):∀ (d i:Nat),i+d=m.length→Ev (fun k=>shared_within.l0 k l m m.length i) ((m.drop i).all fun t=>(imp l t.f0 t.f1).1)
  | 0,i,hd=>by
    rw [List.drop_eq_nil_of_le (by omega)]
    exact Ev.step (f:=fun _=>some true) (fun k=>by rw [shared_within.l0,if_neg (by omega)]) (Ev.now _)
  | d+1,i,hd=>by
    have hi:i<m.length:=by omega
    have hw:=qb i m.length hi (by omega)
    have hmem:=qk m i hi
    have hvt:=hm.tab _ hmem
    have hsm:=qt hm _ hmem
    have e:=qbL h h15 hvt
    rw [qo m i hi,List.all_cons]
    refine Ev.step (fun k=>by rw [shared_within.l0,if_pos (by omega),if_pos (by omega),if_pos (by omega),hw]) (Ev.bind (qb4 l (qt h) (by omega) _ _ hsm.1 hsm.2) (qa e.1 ?_))
    cases (imp l (rd_T63 m i).f0 (rd_T63 m i).f1).1
    · exact qc (by decide) (Ev.now _)
    · exact qa rfl (qaB h h15 hm hm15 d (i+1) (by omega))
theorem qbg {l m:List S63} (h:VS l) (h15:l.length≤15) (hm:VS m) (hm15:m.length≤15):Ev (fun k=>shared_within.f k l m) (wtn l m):=by
  have:=qaB h h15 hm hm15 m.length 0 (by omega)
  rw [List.drop_zero] at this
  exact this
theorem qca {l m:List S63} (h:VS l) (h15:l.length≤15) (hm:VS m):wtn l m=true↔∀ a,sat l a=true→sat m a=true:=by
  unfold wtn
  rw [List.all_eq_true]
  constructor
  · exact fun k a ha=>(qB _ _).2 (fun t ht=>((qbL h h15 (hm.tab t ht)).2.1 (k t ht)) a ha)
  · exact fun k t ht=>(qbL h h15 (hm.tab t ht)).2.2 (fun a ha=>(qB _ _).1 (k a ha) t ht)
def fre (l:List S63) (v:Int):Bool:=wtn (hlv l v false) (hlv l v true)&&wtn (hlv l v true) (hlv l v false)
theorem qbM {l:List S63} (h:VS l) (h15:l.length≤15) {v:Int} {r:Bool}:∀ (d i:Nat) (acc:List S63),i+d=l.length→acc.length≤i→
    Ev (fun k=>shared_free.l3 k v l l.length 0 (acc++(l.drop i).map (hlf v 0)) []) r→Ev (fun k=>shared_free.l2 k l v l l.length i acc) r
  | 0,i,acc,hd,_,H=>by
    rw [List.drop_eq_nil_of_le (by omega),List.map_nil,List.append_nil] at H
    exact Ev.step (fun k=>by rw [shared_free.l2,if_neg (by omega)]) H
  | d+1,i,acc,hd,ha,H=>by
    have hi:i<l.length:=by omega
    have hw:=qb i l.length hi (by omega)
    have hmem:=qk l i hi
    have hsm:=qt h _ hmem
    rw [qo l i hi,List.map_cons,show acc++hlf v 0 (rd_T63 l i) :: (l.drop (i+1)).map (hlf v 0)=(acc++[hlf v 0 (rd_T63 l i)])++(l.drop (i+1)).map (hlf v 0) by rw [List.append_assoc];rfl] at H
    have ih:=qbM h h15 d (i+1) (acc++[hlf v 0 (rd_T63 l i)]) (by omega) (by rw [List.length_append,List.length_cons,List.length_nil];omega) H
    refine Ev.step (fun k=>by rw [shared_free.l2,if_pos (by omega),if_pos (by omega),if_pos (by omega),hw]) (Ev.bind (qw _ (by omega) v) ?_)
    unfold hlf at ih
    by_cases hm:v∈(rd_T63 l i).f0
    · rw [if_pos hm] at ih
      rw [decide_eq_true hm]
      exact qa rfl (Ev.bind (qbx _ _ (by omega) (by omega) v 0) (qa (by omega) ih))
    · rw [if_neg hm] at ih
      rw [decide_eq_false hm]
      exact qc (by decide) (qa (by omega) ih)
theorem qbN {l:List S63} (h:VS l) (h15:l.length≤15) {v:Int} (x:List S63) {r:Bool}:∀ (d i:Nat) (acc:List S63),i+d=l.length→acc.length≤i→
    Ev (fun k=>(shared_within.f k x (acc++(l.drop i).map (hlf v 1))).bind fun t=>if t=true then (shared_within.f k (acc++(l.drop i).map (hlf v 1)) x).bind fun u=>some u else some false) r→Ev (fun k=>shared_free.l3 k v l l.length i x acc) r
  | 0,i,acc,hd,_,H=>by
    rw [List.drop_eq_nil_of_le (by omega),List.map_nil,List.append_nil] at H
    exact Ev.step (fun k=>by rw [shared_free.l3,if_neg (by omega)]) H
  | d+1,i,acc,hd,ha,H=>by
    have hi:i<l.length:=by omega
    have hw:=qb i l.length hi (by omega)
    have hmem:=qk l i hi
    have hsm:=qt h _ hmem
    rw [qo l i hi,List.map_cons,show acc++hlf v 1 (rd_T63 l i) :: (l.drop (i+1)).map (hlf v 1)=(acc++[hlf v 1 (rd_T63 l i)])++(l.drop (i+1)).map (hlf v 1) by rw [List.append_assoc];rfl] at H
    have ih:=qbN h h15 x d (i+1) (acc++[hlf v 1 (rd_T63 l i)]) (by omega) (by rw [List.length_append,List.length_cons,List.length_nil];omega) H
    refine Ev.step (fun k=>by rw [shared_free.l3,if_pos (by omega),if_pos (by omega),if_pos (by omega),hw]) (Ev.bind (qw _ (by omega) v) ?_)
    generalize hG:hlf v 1 (rd_T63 l i)=G at ih
    unfold hlf at hG
    by_cases hm:v∈(rd_T63 l i).f0
    · rw [if_pos hm] at hG
      subst hG
      rw [decide_eq_true hm]
      exact qa rfl (Ev.bind (qbx _ _ (by omega) (by omega) v 1) (qa (by omega) ih))
    · rw [if_neg hm] at hG
      subst hG
      rw [decide_eq_false hm]
      exact qc (by decide) (qa (by omega) ih)
theorem qcX {l:List S63} (h:VS l) (h15:l.length≤15) (v:Int):Ev (fun k=>shared_free.f k l v) (fre l v):=by
  have l0:(hlv l v false).length≤15:=by unfold hlv;rw [List.length_map];exact h15
  have l1:(hlv l v true).length≤15:=by unfold hlv;rw [List.length_map];exact h15
  have w1:=qbg (qK h v false) l0 (qK h v true) l1
  have w2:=qbg (qK h v true) l1 (qK h v false) l0
  refine qbM h h15 l.length 0 [] (by omega) (Nat.le_refl _) (qbN h h15 _ l.length 0 [] (by omega) (Nat.le_refl _) ?_)
  rw [List.drop_zero,List.nil_append,List.nil_append]
  refine Ev.bind w1 ?_
  unfold fre
  cases wtn (hlv l v false) (hlv l v true)
  · exact qc (by decide) (Ev.now _)
  · exact qa rfl (Ev.bind w2 (Ev.now _))
def Fre (l:List S63) (v:Int):Prop:=∀ a,sat l a=true→sat l (flp a v)=true
theorem qcb {l:List S63} (h:VS l) (h15:l.length≤15) {v:Int} (h0:0≤v):fre l v=true↔Fre l v:=by
  have l0:(hlv l v false).length≤15:=by unfold hlv;rw [List.length_map];exact h15
  have l1:(hlv l v true).length≤15:=by unfold hlv;rw [List.length_map];exact h15
  unfold fre
  rw [Bool.and_eq_true,qca (qK h v false) l0 (qK h v true),qca (qK h v true) l1 (qK h v false)]
  simp only [qdr h h0]
  constructor
  · rintro ⟨k1,k2⟩ a ha
    cases c:a.testBit v.toNat
    · have:=k1 a (by unfold stb;rw [if_pos c];exact ha)
      unfold stb at this
      rw [if_neg (by rw [c];decide)] at this
      exact this
    · have:=k2 a (by unfold stb;rw [if_pos c];exact ha)
      unfold stb at this
      rw [if_neg (by rw [c];decide)] at this
      exact this
  · intro k
    have key:∀ (a:Nat) (b:Bool),sat l (stb a v b)=true→sat l (stb a v (!b))=true:=fun a b hb=>by
      have e:stb a v (!b)=flp (stb a v b) v:=by
        refine Nat.eq_of_testBit_eq (fun j=>?_)
        rw [qI,qav,qav]
        by_cases e:v.toNat=j
        · rw [if_pos e,if_pos e,decide_eq_true e];cases b <;> rfl
        · rw [if_neg e,if_neg e,decide_eq_false e,Bool.xor_false]
      rw [e]
      exact k _ hb
    exact ⟨fun a ha=>key a false ha,fun a ha=>key a true ha⟩
theorem qcY (a b:Nat) (ha:a<2 ^ 62) (hb:b<2 ^ 62):Go.bits .xor .i64 (a:Int) (b:Int)=((a ^^^ b:Nat):Int):=by
  have ha':a % 2 ^ IntKind.i64.bits=a:=Nat.mod_eq_of_lt (Nat.lt_of_lt_of_le ha (by decide))
  have hb':b % 2 ^ IntKind.i64.bits=b:=Nat.mod_eq_of_lt (Nat.lt_of_lt_of_le hb (by decide))
  have hx:a ^^^ b<2 ^ 62:=Nat.xor_lt_two_pow ha hb
  simp only [Go.bits,BitVec.ofInt_natCast,BitVec.toNat_xor,BitVec.toNat_ofNat,ha',hb']
  exact w62 _ (Int.natCast_nonneg _) (by exact_mod_cast hx)
def unt (p:Nat) (t:S63):S63:=⟨t.f0,t.f1.filter fun r=>!decide (Go.bits .xor .i64 r (shl .i64 1 (p:Int))∈t.f1)⟩
theorem qbO {t:S63} (h:VT t.f0 t.f1) (p:Nat):VT (unt p t).f0 (unt p t).f1:=⟨h.len,h.vars,h.rows.filter _⟩
theorem qds {vs:List Int} (h:Chn 24 none vs) {p:Nat} {v:Int} (hp:vs[p]?=some v) (a:Nat):row vs (flp a v)=row vs a ^^^ 2 ^ p:=by
  refine Nat.eq_of_testBit_eq (fun j=>?_)
  rw [Nat.testBit_xor,Nat.testBit_two_pow]
  cases hj:vs[j]? with
  | none=>
    have k:∀ x,(row vs x).testBit j=false:=fun x=>by
      cases c:(row vs x).testBit j
      · rfl
      · obtain ⟨w,hw,_⟩:=(qj _ _ _).1 c
        rw [hj] at hw;cases hw
    have hne:¬ p=j:=fun e=>by rw [e,hj] at hp;cases hp
    rw [k,k,decide_eq_false hne];rfl
  | some w=>
    have k:∀ x,(row vs x).testBit j=x.testBit w.toNat:=fun x=>by
      rw [Bool.eq_iff_iff,qj]
      exact ⟨fun ⟨u,hu,hb⟩=>by rw [hj] at hu;cases hu;exact hb,fun hb=>⟨w,hj,hb⟩⟩
    rw [k,k,qI]
    congr 1
    refine decide_eq_decide.2 ⟨fun e=>h.inj p j v w hp hj e,fun e=>?_⟩
    subst e
    rw [hp] at hj
    cases hj;rfl
theorem qcM {t:S63} (h:VT t.f0 t.f1) {p:Nat} {v:Int} (hp:t.f0[p]?=some v) (a:Nat):hs (unt p t).f0 (unt p t).f1 a=(hs t.f0 t.f1 a&&!hs t.f0 t.f1 (flp a v)):=by
  have hl:=h.len
  have hpl:p<t.f0.length:=(List.getElem?_eq_some_iff.1 hp).1
  have r1:row t.f0 a<2 ^ 62:=Nat.lt_of_lt_of_le (qJ t.f0 a) (Nat.pow_le_pow_right (by decide) (by omega))
  have r2:2 ^ p<2 ^ 62:=Nat.pow_lt_pow_right (by decide) (by omega)
  have e:Go.bits .xor .i64 ((row t.f0 a:Nat):Int) (shl .i64 1 (p:Int))=((row t.f0 (flp a v):Nat):Int):=by
    rw [q0 p (by omega),qcY _ _ r1 r2,qds h.vars hp]
  rw [Bool.eq_iff_iff]
  unfold hs unt
  rw [decide_eq_true_iff,List.mem_filter,e,Bool.and_eq_true,decide_eq_true_iff]
theorem qcc {l:List S63} {j:Nat} (hj:j<l.length) (t:S63) (a:Nat):sat (l.set j t) a=true↔(∀ m (hm:m<l.length),m≠j→hs l[m].f0 l[m].f1 a=true)∧hs t.f0 t.f1 a=true:=by
  rw [qB]
  constructor
  · intro k
    exact ⟨fun m hm hne=>k _ (List.mem_of_getElem? (i:=m) (by rw [List.getElem?_set_ne (fun e=>hne e.symm),List.getElem?_eq_getElem hm])),k _ (List.mem_of_getElem? (i:=j) (by rw [List.getElem?_set_self hj]))⟩
  · rintro ⟨k1,k2⟩ u hu
    obtain ⟨m,hm,rfl⟩:=List.getElem_of_mem hu
    have hm':m<l.length:=by rw [List.length_set] at hm;exact hm
    by_cases e:j=m
    · subst e
      rw [List.getElem_set_self]
      exact k2
    · rw [List.getElem_set_ne e]
      exact k1 m hm' (fun c=>e c.symm)
theorem qbP {l:List S63} (h:VS l) (j:Nat) {t:S63} (ht:VT t.f0 t.f1):VS (l.set j t):=
  ⟨by rw [List.length_set];exact h.len,fun u hu=>by
    rcases List.mem_or_eq_of_mem_set hu with hu|rfl
    · exact h.tab u hu
    · exact ht⟩
def okj (l:List S63) (v:Int) (j:Nat):Prop:=∀ p,(rd_T63 l j).f0[p]?=some v→(qe (l.set j (unt p (rd_T63 l j)))).2≠0
theorem qao {l:List S63} (h:VS l) (h15:l.length≤15) (v:Int) (i p:Nat) (hi:i<l.length) (hp:p<(rd_T63 l i).f0.length) {r:Bool}:∀ (d j:Nat) (acc:List Int),j+d=(rd_T63 l i).f1.length→acc.length≤j→
    Ev (fun k=>(ancepsref41_solvable.f k (l.set i ⟨(rd_T63 l i).f0,acc++((rd_T63 l i).f1.drop j).filter fun r=>!decide (Go.bits .xor .i64 r (shl .i64 1 (p:Int))∈(rd_T63 l i).f1)⟩)).bind fun t=>if t=true then some false else ancepsref41_free.l0 k l v (wrap64 ((i:Int)+1))) r→
    Ev (fun k=>ancepsref41_free.l2 k l v i p j (rd_T63 l i).f0 acc) r
  | 0,j,acc,hd,_,H=>by
    rw [List.drop_eq_nil_of_le (by omega),List.filter_nil,List.append_nil] at H
    refine Ev.step (fun k=>by rw [ancepsref41_free.l2,if_pos (by omega),if_pos (by omega),if_neg (by omega)]) ?_
    refine Ev.bind (Ev.now ([]:List S63)) (qa (by rw [List.length_nil];omega) (Ev.bind (Ev.now _) (qa (by rw [List.nil_append];omega) ?_)))
    rw [List.nil_append,Int.toNat_natCast]
    exact H
  | d+1,j,acc,hd,ha,H=>by
    have hj:j<(rd_T63 l i).f1.length:=by omega
    have hsm:=qt h _ (qk l i hi)
    have hw:=qb j (rd_T63 l i).f1.length hj (by omega)
    rw [qg _ j hj,List.filter_cons] at H
    refine Ev.step (fun k=>by rw [ancepsref41_free.l2,if_pos (by omega),if_pos (by omega),if_pos (by omega),if_pos (by omega),if_pos (by omega),hw]) (Ev.bind (qcB _ (by omega) _) ?_)
    by_cases c:Go.bits .xor .i64 (rd (rd_T63 l i).f1 j) (shl .i64 1 (p:Int))∈(rd_T63 l i).f1
    · rw [decide_eq_true c,if_neg (by decide)] at H
      rw [decide_eq_true c]
      exact qa rfl (qao h h15 v i p hi hp d (j+1) acc (by omega) (by omega) H)
    · rw [decide_eq_false c,if_pos (by decide)] at H
      rw [decide_eq_false c]
      refine qc (by decide) (qa (by omega) (qao h h15 v i p hi hp d (j+1) (acc++[rd (rd_T63 l i).f1 j]) (by omega) (by rw [List.length_append,List.length_cons,List.length_nil];omega) ?_))
      rw [List.append_assoc]
      exact H
theorem qcd {l:List S63} (h:VS l) (h15:l.length≤15) (v:Int) (i:Nat) (hi:i<l.length):∀ (d j:Nat),j+d=(rd_T63 l i).f0.length→(∀ m,m<j→rd (rd_T63 l i).f0 m≠v)→
    ∃ p:Nat,((p<(rd_T63 l i).f0.length∧(rd_T63 l i).f0[p]?=some v)∨(p=(rd_T63 l i).f0.length∧∀ m,m<(rd_T63 l i).f0.length→rd (rd_T63 l i).f0 m≠v))∧∀ r,Ev (fun k=>ancepsref41_free.j2 k l v i p) r→Ev (fun k=>ancepsref41_free.l1 k l v i j) r
  | 0,j,hd,hn=>⟨j,.inr ⟨by omega,fun m hm=>hn m (by omega)⟩,fun r H=>Ev.step (fun k=>by rw [ancepsref41_free.l1,if_pos (by omega),if_pos (by omega),if_neg (by omega)]) H⟩
  | d+1,j,hd,hn=>by
    have hj:j<(rd_T63 l i).f0.length:=by omega
    have hsm:=qt h _ (qk l i hi)
    have hw:=qb j (rd_T63 l i).f0.length hj (by omega)
    by_cases c:rd (rd_T63 l i).f0 j=v
    · exact ⟨j,.inl ⟨hj,by rw [qU _ j hj,c]⟩,fun r H=>Ev.step (fun k=>by rw [ancepsref41_free.l1,if_pos (by omega),if_pos (by omega),if_pos (by omega),if_pos (by omega),if_pos c]) H⟩
    · obtain ⟨p,hp,H2⟩:=qcd h h15 v i hi d (j+1) (by omega) (fun m hm=>by
        by_cases e:m=j
        · rw [e];exact c
        · exact hn m (by omega))
      exact ⟨p,hp,fun r H=>Ev.step (fun k=>by rw [ancepsref41_free.l1,if_pos (by omega),if_pos (by omega),if_pos (by omega),if_pos (by omega),if_neg c,hw]) (H2 r H)⟩
theorem qaO {l:List S63} (h:VS l) (h15:l.length≤15) (v:Int):∀ (d i:Nat),i+d=l.length→∃ b,Ev (fun k=>ancepsref41_free.l0 k l v i) b∧(b=true↔∀ j,i≤j→j<l.length→okj l v j)
  | 0,i,hd=>⟨true,Ev.step (f:=fun _=>some true) (fun k=>by rw [ancepsref41_free.l0,if_neg (by omega)]) (Ev.now _),⟨fun _ j h1 h2=>by omega,fun _=>rfl⟩⟩
  | d+1,i,hd=>by
    have hi:i<l.length:=by omega
    have hw:=qb i l.length hi (by omega)
    have hmem:=qk l i hi
    have hvt:=h.tab _ hmem
    obtain ⟨b,eb,hb⟩:=qaO h h15 v d (i+1) (by omega)
    obtain ⟨p,hp,H0⟩:=qcd h h15 v i hi (rd_T63 l i).f0.length 0 (by omega) (fun m hm=>by omega)
    have H:∀ r,Ev (fun k=>ancepsref41_free.j2 k l v i p) r→Ev (fun k=>ancepsref41_free.l1 k l v i 0) r:=H0
    have split_:(∀ j,i≤j→j<l.length→okj l v j)↔okj l v i∧∀ j,i+1≤j→j<l.length→okj l v j:=
      ⟨fun k=>⟨k i (Nat.le_refl _) hi,fun j h1 h2=>k j (by omega) h2⟩,fun ⟨k1,k2⟩ j h1 h2=>by
        by_cases e:j=i
        · rw [e];exact k1
        · exact k2 j (by omega) h2⟩
    rcases hp with ⟨hpl,hpv⟩|⟨hpl,hno⟩
    · have hset:=qbP h i (qbO hvt p)
      have hsv:=qP (l.set i (unt p (rd_T63 l i))) (qt hset) (by rw [List.length_set];omega)
      have hoki:okj l v i↔(qe (l.set i (unt p (rd_T63 l i)))).2≠0:=by
        constructor
        · exact fun k=>k p hpv
        · intro k p' hp'
          have:p'=p:=hvt.vars.inj p' p v v hp' hpv rfl
          rw [this];exact k
      have hgo:∀ r,Ev (fun k=>(ancepsref41_solvable.f k (l.set i (unt p (rd_T63 l i)))).bind fun t=>if t=true then some false else ancepsref41_free.l0 k l v (wrap64 ((i:Int)+1))) r→Ev (fun k=>ancepsref41_free.l0 k l v i) r:=fun r Hr=>by
        have hR:Ev (fun k=>ancepsref41_free.l2 k l v i p 0 (rd_T63 l i).f0 []) r:=qao h h15 v i p hi hpl (rd_T63 l i).f1.length 0 [] (by omega) (Nat.le_refl _) (by rw [List.drop_zero,List.nil_append];exact Hr)
        exact Ev.step (fun k=>by rw [ancepsref41_free.l0,if_pos (by omega)]) (H r (Ev.step (fun k=>by rw [ancepsref41_free.j2,if_pos (by omega),if_pos (by omega),if_neg (by omega)]) hR))
      by_cases c:(qe (l.set i (unt p (rd_T63 l i)))).2=0
      · refine ⟨false,hgo _ (Ev.bind hsv (qa (by rw [c];rfl) (Ev.now _))),⟨(fun e=>by cases e),fun k=>?_⟩⟩
        exact absurd c (hoki.1 (split_.1 k).1)
      · refine ⟨b,hgo _ (Ev.bind hsv (qc (by simpa using c) (by rw [hw];exact eb))),?_⟩
        rw [hb,split_,hoki]
        exact ⟨fun k=>⟨c,k⟩,fun k=>k.2⟩
    · have hoki:okj l v i:=fun p' hp'=>by
        obtain ⟨hlt,e⟩:=List.getElem?_eq_some_iff.1 hp'
        have:=hno p' hlt
        rw [qU _ p' hlt] at hp'
        cases hp'
        exact absurd rfl this
      refine ⟨b,Ev.step (fun k=>by rw [ancepsref41_free.l0,if_pos (by omega)]) (H b (Ev.step (fun k=>by rw [ancepsref41_free.j2,if_pos (by omega),if_pos (by omega),if_pos (by omega),hw]) eb)),?_⟩
      rw [hb,split_]
      exact ⟨fun k=>⟨hoki,k⟩,fun k=>k.2⟩
theorem qdt {l:List S63} (h:VS l) {v:Int} (h0:0≤v):(∀ j,0≤j→j<l.length→okj l v j)↔Fre l v:=by
  have hrd:∀ j (hj:j<l.length),rd_T63 l j=l[j]:=fun j hj=>by
    show l.getD ((j:Int)).toNat z63=l[j]
    rw [Int.toNat_natCast,List.getD,List.getElem?_eq_getElem hj,Option.getD_some]
  constructor
  · intro k a ha
    rw [qB] at ha ⊢
    intro t ht
    obtain ⟨j,hj,rfl⟩:=List.getElem_of_mem ht
    have hvt:=h.tab _ (List.getElem_mem hj)
    cases c:hs l[j].f0 l[j].f1 (flp a v)
    · exfalso
      by_cases hm:v∈l[j].f0
      · obtain ⟨p,hp,e⟩:=List.getElem_of_mem hm
        have hp?:l[j].f0[p]?=some v:=by rw [List.getElem?_eq_getElem hp,e]
        have:=k j (Nat.zero_le _) hj p (by rw [hrd j hj];exact hp?)
        rw [hrd j hj] at this
        refine this ((qq (qbP h j (qbO hvt p))).2 ⟨a,(qcc hj _ a).2 ⟨fun m hm' _=>ha _ (List.getElem_mem hm'),?_⟩⟩)
        rw [qcM hvt hp? a,ha _ (List.getElem_mem hj),c];rfl
      · have e:hs l[j].f0 l[j].f1 (flp a v)=hs l[j].f0 l[j].f1 a:=q3 _ _ (fun w hw=>by
          have hvw:=hvt.vars' w hw
          rw [qI,decide_eq_false (fun e=>hm (by rw [show v=w by omega];exact hw)),Bool.xor_false])
        rw [e,ha _ (List.getElem_mem hj)] at c
        cases c
    · rfl
  · intro k j _ hj p hp c
    rw [hrd j hj] at hp c
    have hvt:=h.tab _ (List.getElem_mem hj)
    obtain ⟨a,ha⟩:=(qq (qbP h j (qbO hvt p))).1 c
    obtain ⟨k1,k2⟩:=(qcc hj _ a).1 ha
    rw [qcM hvt hp a,Bool.and_eq_true] at k2
    have hsat:sat l a=true:=(qB _ _).2 (fun t ht=>by
      obtain ⟨m,hm,rfl⟩:=List.getElem_of_mem ht
      by_cases e:m=j
      · subst e;exact k2.1
      · exact k1 m hm e)
    have:=(qB _ _).1 (k a hsat) _ (List.getElem_mem hj)
    rw [this] at k2
    exact absurd k2.2 (by decide)
theorem qcZ {l:List S63} (h:VS l) (h15:l.length≤15) {v:Int} (h0:0≤v):Ev (fun k=>ancepsref41_free.f k l v) (fre l v):=by
  obtain ⟨b,e,hb⟩:=qaO h h15 v l.length 0 (by omega)
  have:b=fre l v:=by rw [Bool.eq_iff_iff,hb,qdt h h0,qcb h h15 h0]
  rw [← this]
  exact e
def frl (l:List S63):List Int×Int:=if sov l=0 then ((occ l).filter (fre l),0) else ([],sov l)
theorem q7 {l:List S63} (h:VS l) (h15:l.length≤15) (vs:List Int) (hv:vs.length≤1000):∀ (d i:Nat) (acc:List Int),i+d=vs.length→acc.length≤i→Ev (fun k=>shared_Free.l0 k l acc vs vs.length i) (acc++(vs.drop i).filter (fre l),0)
  | 0,i,acc,hd,_=>by
    rw [List.drop_eq_nil_of_le (by omega),List.filter_nil,List.append_nil]
    exact Ev.step (f:=fun _=>some (acc,0)) (fun k=>by rw [shared_Free.l0,if_neg (by omega)]) (Ev.now _)
  | d+1,i,acc,hd,ha=>by
    have hi:i<vs.length:=by omega
    have hw:=qb i vs.length hi (by omega)
    rw [qg vs i hi,List.filter_cons]
    refine Ev.step (fun k=>by rw [shared_Free.l0,if_pos (by omega),if_pos (by omega),if_pos (by omega),hw]) (Ev.bind (qcX h h15 _) ?_)
    cases fre l (rd vs i)
    · exact qc (by decide) (q7 h h15 vs hv d (i+1) acc (by omega) (by omega))
    · have ih:=q7 h h15 vs hv d (i+1) (acc++[rd vs i]) (by omega) (by rw [List.length_append,List.length_cons,List.length_nil];omega)
      rw [List.append_assoc] at ih
      exact qa rfl (qa (by omega) ih)
theorem qc0 (l:List S63) (hs:Sm l) (hl:l.length≤100):Ev (fun k=>shared_Free.f k l) (frl l):=by
  unfold frl
  refine Ev.bind (qX l hs (by omega)) (qd (fun h=>?_) (fun _=>Ev.now _))
  obtain ⟨hv,h15,hf⟩:=qbG h
  have ho:=hv.occ_len
  have hvr:=qG l hs (by omega)
  rw [qcI hv] at hvr
  have:=q7 hv h15 (occ l) (by omega) (occ l).length 0 [] (by omega) (Nat.le_refl _)
  rw [List.drop_zero,List.nil_append] at this
  exact Ev.bind hvr this
theorem q8 {l:List S63} (h:VS l) (h15:l.length≤15) (vs:List Int) (hv:vs.length≤1000) (h0:∀ v,v∈vs→0≤v):∀ (d i:Nat) (acc:List Int),i+d=vs.length→acc.length≤i→Ev (fun k=>ancepsref41_Free.l0 k l acc vs i) (acc++(vs.drop i).filter (fre l),0)
  | 0,i,acc,hd,_=>by
    rw [List.drop_eq_nil_of_le (by omega),List.filter_nil,List.append_nil]
    exact Ev.step (f:=fun _=>some (acc,0)) (fun k=>by rw [ancepsref41_Free.l0,if_neg (by omega)]) (Ev.now _)
  | d+1,i,acc,hd,ha=>by
    have hi:i<vs.length:=by omega
    have hw:=qb i vs.length hi (by omega)
    rw [qg vs i hi,List.filter_cons]
    refine Ev.step (fun k=>by rw [ancepsref41_Free.l0,if_pos (by omega),if_pos (by omega),hw]) (Ev.bind (qcZ h h15 (h0 _ (qm vs i hi))) ?_)
    cases fre l (rd vs i)
    · exact qc (by decide) (q8 h h15 vs hv h0 d (i+1) acc (by omega) (by omega))
    · have ih:=q8 h h15 vs hv h0 d (i+1) (acc++[rd vs i]) (by omega) (by rw [List.length_append,List.length_cons,List.length_nil];omega)
      rw [List.append_assoc] at ih
      exact qa rfl (qa (by omega) ih)
theorem qc1 (l:List S63) (hs:Sm l) (hl:l.length≤100):Ev (fun k=>ancepsref41_Free.f k l) (frl l):=by
  unfold frl sov
  refine Ev.bind (qaX l hs (by omega)) ?_
  by_cases hg:gvl l=0
  · rw [if_pos hg]
    refine qa hg (Ev.bind (qP l hs (by omega)) ?_)
    by_cases hf:(qe l).2=0
    · rw [if_pos hf,if_pos rfl]
      refine qa (by rw [hf];rfl) ?_
      obtain ⟨hv,h15⟩:=qaj hg
      have ho:=hv.occ_len
      have:=q8 hv h15 (occ l) (by omega) (fun v hm=>(hv.occ' v hm).1) (occ l).length 0 [] (by omega) (Nat.le_refl _)
      rw [List.drop_zero,List.nil_append] at this
      exact Ev.bind (qR hv hs) this
    · rw [if_neg hf,if_neg (by decide)]
      exact qc (by simpa using hf) (Ev.now _)
  · rw [if_neg hg,if_neg hg]
    exact qc hg (Ev.now _)
theorem qc2 {l:List S63} (h:VS l) (h15:l.length≤15) (hf:(qe l).2=0) {v:Int} (hv:v∈occ l) (hF:Fre l v):vl l v=3:=by
  obtain ⟨a,ha⟩:=(qq h).1 hf
  have hb:=hF a ha
  have ex:∀ b:Bool,∃ x,sat l x=true∧x.testBit v.toNat=b:=fun b=>by
    by_cases c:a.testBit v.toNat=b
    · exact ⟨a,ha,c⟩
    · refine ⟨_,hb,?_⟩
      rw [qI,decide_eq_true rfl]
      revert c
      cases a.testBit v.toNat <;> cases b <;> simp
  have k0:=(qbA h h15 hv hf false).1 (ex false)
  have k1:=(qbA h h15 hv hf true).1 (ex true)
  rcases k0 with k0|k0
  · exact k0
  · rcases k1 with k1|k1
    · exact k1
    · rw [k0] at k1;cases k1
theorem qce (l:List S63):∀ (vs:List Int) (p:Option Int),Chn 24 p vs→∀ z,z∈lks l vs→∃ a b,0≤a∧a<b∧b<24∧z∈lk l a b
  | [],_,_,z,hz=>by rw [lks] at hz;cases hz
  | a :: vs,p,hc,z,hz=>by
    rw [lks,List.mem_append] at hz
    rcases hz with hz|hz
    · obtain ⟨b,hb,hz⟩:=List.mem_flatMap.1 hz
      have:=hc.2.2.2.mem b hb
      exact ⟨a,b,hc.1,this.2.2 a rfl,this.2.1,hz⟩
    · exact qce l vs _ hc.2.2.2 z hz
theorem qc7 {l:List S63} (h:VS l) (h15:l.length≤15) (hf:(qe l).2=0) {a b:Int} (h0:0≤a) (h1:a<b) (h2:b<24) {v:Int} (hF:Fre l v) (hv:v=a∨v=b):lk l a b=[]:=by
  obtain ⟨c1,c2,e1,e2⟩:=qbI h h15 h0 h1 h2
  obtain ⟨s,hs⟩:=(qq h).1 hf
  have hs':=hF s hs
  have hne:a.toNat≠b.toNat:=by omega
  have hx:((flp s v).testBit a.toNat=(flp s v).testBit b.toNat)↔¬ s.testBit a.toNat=s.testBit b.toNat:=by
    rw [qI,qI]
    rcases hv with rfl|rfl
    · rw [decide_eq_true rfl,decide_eq_false hne]
      cases s.testBit v.toNat <;> cases s.testBit b.toNat <;> simp
    · rw [decide_eq_true rfl,decide_eq_false (fun e=>hne e.symm)]
      cases s.testBit a.toNat <;> cases s.testBit v.toNat <;> simp
  have k1:(qe (l++[⟨[a,b],[0,3]⟩])).2=0:=by
    by_cases c:s.testBit a.toNat=s.testBit b.toNat
    · exact e1.2 ⟨s,hs,c⟩
    · exact e1.2 ⟨_,hs',hx.2 c⟩
  have k2:(qe (l++[⟨[a,b],[1,2]⟩])).2=0:=by
    by_cases c:s.testBit a.toNat=s.testBit b.toNat
    · exact e2.2 ⟨_,hs',fun c'=>(hx.1 c') c⟩
    · exact e2.2 ⟨s,hs,c⟩
  unfold lk
  rw [k1,k2]
  rfl
theorem qdu {l:List S63} {a b:Int} {z:S53} (h:z∈lk l a b):z.f0=a∧z.f1=b:=by
  unfold lk at h
  rcases List.mem_append.1 h with h|h
  · split at h
    · rw [List.mem_singleton] at h;subst h;exact ⟨rfl,rfl⟩
    · cases h
  · split at h
    · rw [List.mem_singleton] at h;subst h;exact ⟨rfl,rfl⟩
    · cases h
theorem qdL (l:List S53) (i:Nat) (hi:i<l.length):l.drop i=rd_T53 l i :: l.drop (i+1):=qT l i _ hi
theorem qaP (X:List S53) (hX:X.length≤1000000) (v:Int) (hn:∀ z,z∈X→z.f0≠v∧z.f1≠v):∀ (d i:Nat),i+d=X.length→Ev (fun k=>api_Link_ancepslaw41_SharedLinked_1_v1.l0 k X X.length i v) (-1)
  | 0,i,h=>Ev.step (f:=fun _=>some (-1)) (fun k=>by rw [api_Link_ancepslaw41_SharedLinked_1_v1.l0,if_neg (by omega)]) (Ev.now _)
  | d+1,i,h=>by
    have hi:i<X.length:=by omega
    have hw:=qb i X.length hi (by omega)
    have hm:=hn (rd_T53 X i) (List.mem_of_mem_drop (i:=i) (by rw [qdL X i hi];exact List.mem_cons_self))
    have e:ancepslaw41_SharedLinked_1_v1.f ((rd_T53 X i).f0) ((rd_T53 X i).f1) ((rd_T53 X i).f2) v=some false:=by
      unfold ancepslaw41_SharedLinked_1_v1.f
      rw [if_neg hm.1,show ((rd_T53 X i).f1 == v)=false by simpa using hm.2]
    exact Ev.step (fun k=>by rw [api_Link_ancepslaw41_SharedLinked_1_v1.l0,if_pos (by omega),if_pos (by omega),if_pos (by omega),hw,e,Option.bind_some,if_neg (by decide)]) (qaP X hX v hn d (i+1) (by omega))
theorem qaQ (X:List S53) (hX:X.length≤1000000):∀ (d i:Nat),i+d=X.length→Ev (fun k=>api_Link_25.l0 k X X X.length i) true
  | 0,i,h=>Ev.step (f:=fun _=>some true) (fun k=>by rw [api_Link_25.l0,if_neg (by omega)]) (Ev.now _)
  | d+1,i,h=>by
    have hi:i<X.length:=by omega
    have hw:=qb i X.length hi (by omega)
    exact Ev.step (fun k=>by rw [api_Link_25.l0,if_pos (by omega),if_pos (by omega),if_pos (by omega),if_pos (by omega),hw]) (qc (by simp) (qaQ X hX d (i+1) (by omega)))
theorem qcf (l:List S63):∀ vs:List Int,vs.length≤24→(lks l vs).length≤100 * vs.length
  | [],_=>Nat.le_refl _
  | a :: vs,h=>by
    rw [List.length_cons] at h
    have h1:=qcf l vs (by omega)
    have h2:=qas l a vs
    rw [lks,List.length_append,List.length_cons]
    omega
theorem qbQ {l:List S63} (h:VS l) (h15:l.length≤15) (hf:(qe l).2=0) (vs:List Int) (hv:vs.length≤1000) (hvs:∀ v,v∈vs→v∈occ l∧Fre l v) (X:List S53) (hX:X.length≤1000000) (hn:∀ v,v∈vs→∀ z,z∈X→z.f0≠v∧z.f1≠v) :
    ∀ (d i:Nat),i+d=vs.length→Ev (fun k=>ancepslaw41_SharedLinked.l0 k l X vs vs.length i) true
  | 0,i,hd=>Ev.step (f:=fun _=>some true) (fun k=>by rw [ancepslaw41_SharedLinked.l0,if_neg (by omega)]) (Ev.now _)
  | d+1,i,hd=>by
    have hi:i<vs.length:=by omega
    have hw:=qb i vs.length hi (by omega)
    have hm:=hvs _ (qm vs i hi)
    have e:=qcF h h15 hm.1
    rw [if_pos hf,qc2 h h15 hf hm.1 hm.2] at e
    have hval:=qb3 l (qt h) (by omega) (rd vs i)
    rw [e] at hval
    have hfi:Ev (fun k=>api_Link_ancepslaw41_SharedLinked_1.f k X (rd vs i)) false:=Ev.bind (qaP X hX (rd vs i) (hn _ (qm vs i hi)) X.length 0 (by omega)) (qh (Ev.now _) (by decide))
    exact Ev.step (fun k=>by rw [ancepslaw41_SharedLinked.l0,if_pos (by omega),if_pos (by omega),if_pos (by omega),hw]) (Ev.bind hval (qa rfl (qa rfl (Ev.bind hfi (qc Bool.false_ne_true (qbQ h h15 hf vs hv hvs X hX hn d (i+1) (by omega)))))))
theorem qaR (l:List S63):Ev (fun k=>ancepslaw41_SharedLinked.f k l) true:=by
  unfold ancepslaw41_SharedLinked.f
  refine Ev.bind qbE (qa rfl ?_)
  obtain ⟨b,hb,hb2⟩:=qdn l
  refine Ev.bind hb ?_
  cases b
  · exact qc (by decide) qcq
  · refine qa rfl ?_
    obtain ⟨hs,h18⟩:=hb2 rfl
    have eo:=qdE l hs (by omega)
    refine Ev.bind eo (Ev.bind (qcr l hs (by omega)) (Ev.bind (qcs l hs (by omega)) (Ev.bind eo (Ev.bind (qc0 l hs (by omega)) (Ev.bind (qc1 l hs (by omega)) (qa rfl (qa rfl ?_)))))))
    have key:(lkd l).1.length≤1000000∧(frl l).1.length≤1000∧Ev (fun k=>ancepslaw41_SharedLinked.l0 k l (lkd l).1 (frl l).1 ((frl l).1.length:Int) 0) true:=by
      by_cases h:sov l=0
      · obtain ⟨hv,h15,hf⟩:=qbG h
        have ho:=hv.occ_len
        have h2:=qa0 l (occ l)
        have e1:(lkd l).1=lks l (opn l (occ l)):=by unfold lkd;rw [if_pos h]
        have e2:(frl l).1=(occ l).filter (fre l):=by unfold frl;rw [if_pos h]
        rw [e1,e2]
        have h3:=qcf l (opn l (occ l)) (by omega)
        have h4:((occ l).filter (fre l)).length≤(occ l).length:=List.length_filter_le _ _
        have hvs:∀ v,v∈(occ l).filter (fre l)→v∈occ l∧Fre l v:=fun v hm=>by
          obtain ⟨k1,k2⟩:=List.mem_filter.1 hm
          exact ⟨k1,(qcb hv h15 (hv.occ' v k1).1).1 k2⟩
        refine ⟨by omega,by omega,qbQ hv h15 hf _ (by omega) hvs _ (by omega) (fun v hm z hz=>?_) ((occ l).filter (fre l)).length 0 (by omega)⟩
        obtain ⟨a,b,k0,k1,k2,hz⟩:=qce l _ none (hv.occ.1.filter _) z hz
        have hF:=(hvs v hm).2
        obtain ⟨z0,z1⟩:=qdu hz
        constructor
        · intro e
          rw [qc7 hv h15 hf k0 k1 k2 hF (.inl (by rw [← e,z0]))] at hz
          cases hz
        · intro e
          rw [qc7 hv h15 hf k0 k1 k2 hF (.inr (by rw [← e,z1]))] at hz
          cases hz
      · have e1:(lkd l).1=[]:=by unfold lkd;rw [if_neg h]
        have e2:(frl l).1=[]:=by unfold frl;rw [if_neg h]
        rw [e1,e2]
        exact ⟨Nat.zero_le _,Nat.zero_le _,Ev.step (f:=fun _=>some true) (fun k=>by rw [ancepslaw41_SharedLinked.l0,if_neg (by decide)]) (Ev.now _)⟩
    obtain ⟨g1,g2,g3⟩:=key
    refine Ev.bind (qa rfl (qaQ (lkd l).1 g1 (lkd l).1.length 0 (by omega))) (qa rfl ?_)
    have he:=qcH (frl l).1 (frl l).1 g2
    rw [decide_eq_true rfl] at he
    exact Ev.bind he (qa rfl g3)
theorem SharedLinked (l0:List (S63)) (w_l0:∀ x,x∈l0→(∀ y,y∈x.f0→(Lit.int .i64 y).wf=true)∧(∀ y,y∈x.f1→(Lit.int .i64 y).wf=true)):∃ k,L.ancepslaw41_SharedLinked.f k l0=some true:=qct (qaR l0)

end Go.Proofs.YtngpkbbljnbojaaGreat.Pure
