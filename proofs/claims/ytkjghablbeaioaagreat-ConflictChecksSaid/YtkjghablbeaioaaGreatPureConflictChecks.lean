import Derived.Test.YtkjghablbeaioaaGreatB0
import Derived.Test.YtkjghablbeaioaaGreatB2
import Derived.Test.YtkjghablbeaioaaGreatB3
import Derived.Test.YtkjghablbeaioaaGreatB4
import Derived.Test.YtkjghablbeaioaaGreatB5
import Derived.Test.YtkjghablbeaioaaGreatB6
import Derived.Test.YtkjghablbeaioaaGreatB7
import Derived.Test.YtkjghablbeaioaaGreatB8
import Derived.Test.YtkjghablbeaioaaGreatB9
import Derived.Test.YtkjghablbeaioaaGreatB10
import Derived.Test.YtkjghablbeaioaaGreatB11
import Derived.Test.YtkjghablbeaioaaGreatB12
import Derived.Test.YtkjghablbeaioaaGreatB13
import Derived.Test.YtkjghablbeaioaaGreatB14
import Derived.Test.YtkjghablbeaioaaGreatB15
import Derived.Test.YtkjghablbeaioaaGreatB19
import Derived.Test.YtkjghablbeaioaaGreatB20
import Derived.Test.YtkjghablbeaioaaGreatB21
import Derived.Test.YtkjghablbeaioaaGreatB22
import Derived.Test.YtkjghablbeaioaaGreatB23
import Derived.Test.YtkjghablbeaioaaGreatB24
namespace Go.Proofs.YtkjghablbeaioaaGreat.Pure
open Go.RowKit Go.Proofs.YtkjghablbeaioaaGreatW.PrintWords Go.Proofs.YtkjghablbeaioaaGreat.B
set_option linter.unusedVariables false
set_option linter.unusedSimpArgs false
theorem qe (n:Int) (h : -9223372036854775808≤n∧n≤9223372036854775807):wrap64 n=n:=by unfold wrap64;omega
theorem qc (i n:Nat) (hi:i<n) (hn:(n:Int)≤9223372036854775807):wrap64 ((i:Int)+1)=((i+1:Nat):Int):=by
  rw [qe _ (by omega)];omega
theorem qD {α:Type} (l:List α) (i:Nat) (z:α) (hi:i<l.length):l.drop i=l.getD i z :: l.drop (i+1):=by
  rw [List.drop_eq_getElem_cons hi]
  simp [List.getD,List.getElem?_eq_getElem hi]
theorem qa {α:Type} {c:Prop} [Decidable c] {g f:Nat→Option α} {r:α} (h:c) (e:Ev g r):Ev (fun k=>if c then g k else f k) r:=Ev.congr (fun k=>if_pos h) e
theorem qb {α:Type} {c:Prop} [Decidable c] {g f:Nat→Option α} {r:α} (h:¬ c) (e:Ev f r):Ev (fun k=>if c then g k else f k) r:=Ev.congr (fun k=>if_neg h) e
theorem qcX {α β:Type} {a:α} {f:Nat→α→Option β} {r:β} (e:Ev (fun k=>f k a) r):Ev (fun k=>(some a).bind (f k)) r:=e
theorem qd {α:Type} {g:Nat→Option α} {r s:α} (e:Ev g r) (h:r=s):Ev g s:=h ▸ e
theorem qf {α:Type} {c:Prop} [Decidable c] {g f:Nat→Option α} {r s:α} (h1:c→Ev g r) (h2:¬ c→Ev f s):Ev (fun k=>if c then g k else f k) (if c then r else s):=by
  by_cases h:c
  · rw [if_pos h];exact qa h (h1 h)
  · rw [if_neg h];exact qb h (h2 h)
theorem qdr {α:Type} {g:Nat→Option α} {r:α} (h:Ev g r):∃ k,g k=some r:=h.elim fun K h=>⟨K,h K (Nat.le_refl _)⟩

def chk (hi:Int):Option Int→List Int→Int
  | _,[]=>0
  | none,x :: xs=>if x<0∨hi≤x then 6 else chk hi (some x) xs
  | some q,x :: xs=>if x<0∨hi≤x then 6 else if x≤q then 18 else chk hi (some x) xs
def Chn (hi:Int):Option Int→List Int→Prop
  | _,[]=>True
  | p,x :: xs=>0≤x∧x<hi∧(∀ q,p=some q→q<x)∧Chn hi (some x) xs
theorem qI (hi:Int):∀ (xs:List Int) (p:Option Int),chk hi p xs=0↔Chn hi p xs
  | [],p=>by cases p <;> simp [chk,Chn]
  | x :: xs,p=>by
    have ih:=qI hi xs (some x)
    cases p with
    | none=>
      simp only [chk,Chn]
      by_cases h:x<0∨hi≤x
      · rw [if_pos h];exact ⟨fun h=>by omega,fun h2=>by omega⟩
      · rw [if_neg h,ih];exact ⟨fun h2=>⟨by omega,by omega,(fun q hq=>by cases hq),h2⟩,fun h2=>h2.2.2.2⟩
    | some q=>
      simp only [chk,Chn]
      by_cases h:x<0∨hi≤x
      · rw [if_pos h];exact ⟨fun h=>by omega,fun h2=>by omega⟩
      · rw [if_neg h]
        by_cases h1:x≤q
        · rw [if_pos h1];exact ⟨fun h=>by omega,fun h2=>by have:=h2.2.2.1 q rfl;omega⟩
        · rw [if_neg h1,ih];exact ⟨fun h2=>⟨by omega,by omega,fun q' hq=>by injection hq;omega,h2⟩,fun h2=>h2.2.2.2⟩
def prv (xs:List Int) (i:Nat):Option Int:=if i=0 then none else some (rd xs ((i:Int) - 1))
theorem qJ (xs:List Int) (i:Nat):prv xs (i+1)=some (rd xs i):=by
  unfold prv;rw [if_neg (by omega)];congr 2;omega
theorem qi (l:List Int) (i:Nat) (hi:i<l.length):l.drop i=rd l i :: l.drop (i+1):=qD l i 0 hi
theorem qz (ps:List Int) (i:Nat) (hi:i<ps.length):rd ps i∈ps:=by
  unfold rd
  simp only [Int.toNat_natCast,List.getD,List.getElem?_eq_getElem hi,Option.getD_some]
  exact List.getElem_mem hi
theorem qar (n:Nat) (h:n≤60):shl .i64 1 (n:Int)=((2 ^ n:Nat):Int):=by
  have h2:(2:Nat) ^ n≤2 ^ 60:=Nat.pow_le_pow_right (by decide) h
  unfold shl
  have e:min ((n:Int)).toNat IntKind.i64.bits=n:=by
    have:IntKind.i64.bits=64:=rfl
    rw [this];omega
  rw [e,Int.one_mul,show ((2:Int) ^ n)=((2 ^ n:Nat):Int) by simp]
  have h3:(2:Nat) ^ 60=1152921504606846976:=by decide
  rw [h3] at h2
  generalize (2:Nat) ^ n=z at h2 ⊢
  rw [IntKind.wrap_i64]
  omega
def asc (vs:List Int):Int:=if (vs.length:Int)>10 then 3 else chk 24 none vs
def qQ (vs rs:List Int):Int:=if asc vs=0 then chk ((2 ^ vs.length:Nat):Int) none rs else asc vs
theorem qch (vs:List Int) (hl:(vs.length:Int)≤9223372036854775807):∀ (d i:Nat),i+d=vs.length→Ev (fun k=>table_ascending.l0 k vs vs vs.length i) (chk 24 (prv vs i) (vs.drop i))
  | 0,i,h=>by
    rw [List.drop_eq_nil_of_le (by omega)]
    refine Ev.step (f:=fun _=>some 0) (fun k=>by rw [table_ascending.l0,if_neg (by omega)]) ?_
    cases prv vs i <;> exact Ev.now _
  | d+1,i,h=>by
    have hi:i<vs.length:=by omega
    have hw:=qc i vs.length hi hl
    have ih:=qch vs hl d (i+1) (by omega)
    rw [qJ] at ih
    rw [qi vs i hi]
    have hj:rd vs i<0∨24≤rd vs i→∀ p,chk 24 p (rd vs i :: vs.drop (i+1))=6:=fun h p=>by cases p <;> simp only [chk] <;> rw [if_pos h]
    by_cases h0:rd vs i<0
    · rw [hj (.inl h0)]
      exact Ev.step (f:=fun _=>some 6) (fun k=>by rw [table_ascending.l0,if_pos (by omega),if_pos (by omega),if_pos (by omega),if_pos h0]) (Ev.now _)
    · by_cases h1:rd vs i≥24
      · rw [hj (.inr h1)]
        exact Ev.step (f:=fun _=>some 6) (fun k=>by rw [table_ascending.l0,if_pos (by omega),if_pos (by omega),if_pos (by omega),if_neg h0,if_pos h1]) (Ev.now _)
      · by_cases e:i=0
        · have ep:prv vs i=none:=by unfold prv;rw [if_pos e]
          rw [ep]
          simp only [chk]
          rw [if_neg (by omega)]
          refine Ev.step (fun k=>by rw [table_ascending.l0,if_pos (by omega),if_pos (by omega),if_pos (by omega),if_neg h0,if_neg h1,if_neg (by omega),hw]) ih
        · have ep:prv vs i=some (rd vs ((i:Int) - 1)):=by unfold prv;rw [if_neg e]
          rw [ep]
          simp only [chk]
          rw [if_neg (by omega)]
          by_cases h2:rd vs i≤rd vs ((i:Int) - 1)
          · rw [if_pos h2]
            exact Ev.step (f:=fun _=>some 18) (fun k=>by rw [table_ascending.l0,if_pos (by omega),if_pos (by omega),if_pos (by omega),if_neg h0,if_neg h1,if_pos (by omega),qe ((i:Int) - 1) (by omega),if_pos (by omega),if_pos (by omega),if_pos (by omega)]) (Ev.now _)
          · rw [if_neg h2]
            refine Ev.step (fun k=>by rw [table_ascending.l0,if_pos (by omega),if_pos (by omega),if_pos (by omega),if_neg h0,if_neg h1,if_pos (by omega),qe ((i:Int) - 1) (by omega),if_pos (by omega),if_pos (by omega),if_neg (by omega),hw]) ih
theorem qei (vs:List Int) (hl:(vs.length:Int)≤9223372036854775807):Ev (fun k=>table_ascending.f k vs) (asc vs):=by
  unfold asc table_ascending.f
  refine qf (fun _=>Ev.now _) (fun _=>?_)
  simpa [prv] using qch vs hl vs.length 0 (by omega)
theorem qbj (vs rs:List Int) (hv:vs.length≤10) (hl:(rs.length:Int)≤9223372036854775807):∀ (d i:Nat),i+d=rs.length→Ev (fun k=>table_Valid.l0 k rs rs.length i vs rs) (chk ((2 ^ vs.length:Nat):Int) (prv rs i) (rs.drop i))
  | 0,i,h=>by
    rw [List.drop_eq_nil_of_le (by omega)]
    refine Ev.step (f:=fun _=>some 0) (fun k=>by rw [table_Valid.l0,if_neg (by omega)]) ?_
    cases prv rs i <;> exact Ev.now _
  | d+1,i,h=>by
    have hi:i<rs.length:=by omega
    have hw:=qc i rs.length hi hl
    have ih:=qbj vs rs hv hl d (i+1) (by omega)
    have hs:=qar vs.length (by omega)
    rw [qJ] at ih
    rw [qi rs i hi]
    have hj:rd rs i<0∨((2 ^ vs.length:Nat):Int)≤rd rs i→∀ p,chk ((2 ^ vs.length:Nat):Int) p (rd rs i :: rs.drop (i+1))=6:=fun h p=>by cases p <;> simp only [chk] <;> rw [if_pos h]
    by_cases h0:rd rs i<0
    · rw [hj (.inl h0)]
      exact Ev.step (f:=fun _=>some 6) (fun k=>by rw [table_Valid.l0,if_pos (by omega),if_pos (by omega),if_pos (by omega),if_pos h0]) (Ev.now _)
    · by_cases h1:rd rs i≥((2 ^ vs.length:Nat):Int)
      · rw [hj (.inr h1)]
        exact Ev.step (f:=fun _=>some 6) (fun k=>by rw [table_Valid.l0,if_pos (by omega),if_pos (by omega),if_pos (by omega),if_neg h0,hs,if_pos h1]) (Ev.now _)
      · by_cases e:i=0
        · have ep:prv rs i=none:=by unfold prv;rw [if_pos e]
          rw [ep]
          simp only [chk]
          rw [if_neg (by omega)]
          refine Ev.step (fun k=>by rw [table_Valid.l0,if_pos (by omega),if_pos (by omega),if_pos (by omega),if_neg h0,hs,if_neg h1,if_neg (by omega),hw]) ih
        · have ep:prv rs i=some (rd rs ((i:Int) - 1)):=by unfold prv;rw [if_neg e]
          rw [ep]
          simp only [chk]
          rw [if_neg (by omega)]
          by_cases h2:rd rs i≤rd rs ((i:Int) - 1)
          · rw [if_pos h2]
            exact Ev.step (f:=fun _=>some 18) (fun k=>by rw [table_Valid.l0,if_pos (by omega),if_pos (by omega),if_pos (by omega),if_neg h0,hs,if_neg h1,if_pos (by omega),qe ((i:Int) - 1) (by omega),if_pos (by omega),if_pos (by omega),if_pos (by omega)]) (Ev.now _)
          · rw [if_neg h2]
            refine Ev.step (fun k=>by rw [table_Valid.l0,if_pos (by omega),if_pos (by omega),if_pos (by omega),if_neg h0,hs,if_neg h1,if_pos (by omega),qe ((i:Int) - 1) (by omega),if_pos (by omega),if_pos (by omega),if_neg (by omega),hw]) ih
theorem qcY {vs:List Int} (h:asc vs=0):vs.length≤10:=by
  unfold asc at h
  by_cases h1:(vs.length:Int)>10
  · rw [if_pos h1] at h;omega
  · omega
theorem qci (vs rs:List Int) (hl:(vs.length:Int)≤9223372036854775807) (hr:(rs.length:Int)≤9223372036854775807):Ev (fun k=>table_Valid.f k vs rs) (qQ vs rs):=by
  unfold qQ
  refine Ev.bind (qei vs hl) ?_
  refine qf (fun h=>?_) (fun _=>Ev.now _)
  simpa [prv] using qbj vs rs (qcY h) hr rs.length 0 (by omega)
structure VT (vs rs:List Int):Prop where
  len:vs.length≤10
  vars:Chn 24 none vs
  rows:Chn ((2 ^ vs.length:Nat):Int) none rs
theorem qcZ (vs:List Int):asc vs=0↔vs.length≤10∧Chn 24 none vs:=by
  unfold asc
  by_cases h1:(vs.length:Int)>10
  · rw [if_pos h1];exact ⟨fun h=>by omega,fun h=>by omega⟩
  · rw [if_neg h1,qI];exact ⟨fun h=>⟨by omega,h⟩,fun h=>h.2⟩
theorem qcj (vs rs:List Int):qQ vs rs=0↔VT vs rs:=by
  unfold qQ
  by_cases h:asc vs=0
  · rw [if_pos h,qI]
    have:=(qcZ vs).1 h
    exact ⟨fun h=>⟨this.1,this.2,h⟩,fun h=>h.rows⟩
  · rw [if_neg h]
    exact ⟨fun h2=>absurd h2 h,fun h2=>absurd ((qcZ vs).2 ⟨h2.len,h2.vars⟩) h⟩
theorem Chn.mem {hi:Int}:∀ {ns:List Int} {p:Option Int},Chn hi p ns→∀ n,n∈ns→0≤n∧n<hi∧∀ q,p=some q→q<n
  | [],_,_,n,h=>by simp at h
  | m :: ns,p,⟨h0,h1,h2,h3⟩,n,h=>by
    rcases List.mem_cons.1 h with rfl|h
    · exact ⟨h0,h1,h2⟩
    · have:=Chn.mem h3 n h
      exact ⟨this.1,this.2.1,fun q hq=>by have:=this.2.2 m rfl;have:=h2 q hq;omega⟩
theorem Chn.weak {hi:Int}:∀ {ns:List Int} {p:Option Int},Chn hi p ns→Chn hi none ns
  | [],_,_=>trivial
  | _ :: _,_,⟨h0,h1,_,h3⟩=>⟨h0,h1,(fun q hq=>by cases hq),h3⟩
theorem Chn.same {hi hi':Int}:∀ {xs ys:List Int} {p q:Option Int},Chn hi p xs→Chn hi' q ys→(∀ n,n∈xs↔n∈ys)→xs=ys
  | [],[],_,_,_,_,_=>rfl
  | [],y :: ys,_,_,_,_,h=>by have:=(h y).2 List.mem_cons_self;simp at this
  | x :: xs,[],_,_,_,_,h=>by have:=(h x).1 List.mem_cons_self;simp at this
  | x :: xs,y :: ys,p,q,⟨a0,a1,a2,a3⟩,⟨b0,b1,b2,b3⟩,h=>by
    have e:x=y:=by
      rcases List.mem_cons.1 ((h x).1 List.mem_cons_self) with h1|h1
      · exact h1
      · rcases List.mem_cons.1 ((h y).2 List.mem_cons_self) with h2|h2
        · exact h2.symm
        · have:=(b3.mem x h1).2.2 y rfl
          have:=(a3.mem y h2).2.2 x rfl
          omega
    subst e
    refine congrArg (x :: ·) (Chn.same a3 b3 (fun n=>⟨fun hn=>?_,fun hn=>?_⟩))
    · rcases List.mem_cons.1 ((h n).1 (List.mem_cons_of_mem _ hn)) with h1|h1
      · have:=(a3.mem n hn).2.2 x rfl;omega
      · exact h1
    · rcases List.mem_cons.1 ((h n).2 (List.mem_cons_of_mem _ hn)) with h1|h1
      · have:=(b3.mem n hn).2.2 x rfl;omega
      · exact h1
theorem Chn.filter {hi:Int} (f:Int→Bool):∀ {xs:List Int} {p:Option Int},Chn hi p xs→Chn hi p (xs.filter f)
  | [],_,h=>h
  | x :: xs,p,⟨h0,h1,h2,h3⟩=>by
    have ih:=h3.filter f
    rw [List.filter_cons]
    split
    · exact ⟨h0,h1,h2,ih⟩
    · revert ih
      generalize xs.filter f=zs
      intro ih
      cases zs with
      | nil=>trivial
      | cons z zs=>exact ⟨ih.1,ih.2.1,fun q hq=>by have:=h2 q hq;have:=ih.2.2.1 x rfl;omega,ih.2.2.2⟩
theorem qbD (b:Bool) (out i:Nat) (h:out<2 ^ i) (j:Nat):(out+b.toNat * 2 ^ i).testBit j=(out.testBit j||(b&&decide (j=i))):=by
  rw [show out+b.toNat * 2 ^ i=2 ^ i * b.toNat+out by rw [Nat.mul_comm,Nat.add_comm],Nat.testBit_two_pow_mul_add _ h]
  by_cases hj:j<i
  · rw [if_pos hj]
    have:decide (j=i)=false:=decide_eq_false (by omega)
    rw [this,Bool.and_false,Bool.or_false]
  · rw [if_neg hj]
    have h1:out.testBit j=false:=Nat.testBit_lt_two_pow (Nat.lt_of_lt_of_le h (Nat.pow_le_pow_right (by decide) (by omega)))
    rw [h1,Bool.false_or]
    by_cases e:j=i
    · subst e;rw [Nat.sub_self];cases b <;> simp
    · have:decide (j=i)=false:=decide_eq_false e
      rw [this,Bool.and_false]
      refine Nat.testBit_lt_two_pow ?_
      have h2:b.toNat<2:=by cases b <;> simp
      have h3:2 ^ 1≤2 ^ (j - i):=Nat.pow_le_pow_right (by decide) (by omega)
      omega
theorem qV (b:Bool) (out i:Nat) (h:out<2 ^ i):out+b.toNat * 2 ^ i<2 ^ (i+1):=by
  rw [Nat.pow_succ]
  cases b
  · simp;omega
  · simp;omega
theorem qej (x n i:Nat) (out:Nat) (hx:x<2 ^ 60) (hn:n≤60) (hi:i≤60) (ho:out<2 ^ i) :
    Go.bits .or .i64 (out:Int) (shl .i64 (Go.bits .and .i64 (shr .i64 (x:Int) (n:Int)) 1) (i:Int))=((out+(x.testBit n).toNat * 2 ^ i:Nat):Int):=by
  have hw:∀ z:Int,0≤z→z<2 ^ 62→IntKind.i64.wrap z=z:=fun z h0 h1=>by
    rw [IntKind.wrap_i64]
    have:(2:Int) ^ 62=4611686018427387904:=by decide
    omega
  have hb:IntKind.i64.bits=64:=rfl
  have h1:shr .i64 (x:Int) (n:Int)=((x / 2 ^ n:Nat):Int):=by
    unfold shr
    rw [hb,show min ((n:Int)).toNat 64=n by omega]
    simp
  have hxd:x / 2 ^ n<2 ^ 62:=Nat.lt_of_le_of_lt (Nat.div_le_self _ _) (Nat.lt_of_lt_of_le hx (by decide))
  have h2:Go.bits .and .i64 ((x / 2 ^ n:Nat):Int) 1=(((x.testBit n).toNat:Nat):Int):=by
    have:=(bits_nat .i64 62 (by decide) hw (x / 2 ^ n) 1 hxd (by decide)).1
    rw [Nat.and_one_is_mod,← Nat.toNat_testBit] at this
    exact this
  have hip:(2:Nat) ^ i≤2 ^ 60:=Nat.pow_le_pow_right (by decide) hi
  have h60:(2:Nat) ^ 60=1152921504606846976:=by decide
  have hbl:(x.testBit n).toNat * 2 ^ i≤2 ^ i:=by cases x.testBit n <;> simp
  have h3:shl .i64 (((x.testBit n).toNat:Nat):Int) (i:Int)=(((x.testBit n).toNat * 2 ^ i:Nat):Int):=by
    unfold shl
    rw [hb,show min ((i:Int)).toNat 64=i by omega]
    have e:(((x.testBit n).toNat:Nat):Int) * 2 ^ i=(((x.testBit n).toNat * 2 ^ i:Nat):Int):=by simp
    rw [e]
    exact hw _ (by omega) (by have:(2:Int) ^ 62=4611686018427387904:=by decide
                              omega)
  rw [h1,h2,h3]
  have h62:(2:Nat) ^ 62=4611686018427387904:=by decide
  rw [(bits_nat .i64 62 (by decide) hw out _ (by omega) (by omega)).2]
  congr 1
  rw [Nat.or_comm,Nat.mul_comm,← Nat.two_pow_add_eq_or_of_lt ho,Nat.add_comm]
def qW (a:Nat):List Int→Nat→Nat→Nat
  | [],_,out=>out
  | v :: vs,i,out=>qW a vs (i+1) (out+(a.testBit v.toNat).toNat * 2 ^ i)
def qak (r:Nat):List Int→Nat→Nat→Nat
  | [],_,out=>out
  | v :: vs,i,out=>qak r vs (i+1) (out+(r.testBit i).toNat * 2 ^ v.toNat)
theorem qc0 (a:Nat):∀ (vs:List Int) (i out:Nat),out<2 ^ i→qW a vs i out<2 ^ (i+vs.length)
  | [],_,_,h=>h
  | v :: vs,i,out,h=>by
    have:=qc0 a vs (i+1) _ (qV (a.testBit v.toNat) out i h)
    rw [qW,List.length_cons,show i+(vs.length+1)=i+1+vs.length by omega]
    exact this
theorem qck (a:Nat):∀ (vs:List Int) (i out:Nat),out<2 ^ i→∀ j,((qW a vs i out).testBit j=true↔out.testBit j=true∨∃ m v,vs[m]?=some v∧j=i+m∧a.testBit v.toNat=true)
  | [],_,_,_,j=>by simp [qW]
  | v :: vs,i,out,h,j=>by
    rw [qW,qck a vs (i+1) _ (qV (a.testBit v.toNat) out i h) j,qbD _ _ _ h]
    constructor
    · rintro (h1|⟨m,u,h1,h2,h3⟩)
      · rcases Bool.or_eq_true_iff.1 h1 with h1|h1
        · exact .inl h1
        · rw [Bool.and_eq_true,decide_eq_true_eq] at h1
          exact .inr ⟨0,v,rfl,by omega,h1.1⟩
      · exact .inr ⟨m+1,u,by simpa using h1,by omega,h3⟩
    · rintro (h1|⟨m,u,h1,h2,h3⟩)
      · exact .inl (by rw [h1];rfl)
      · cases m with
        | zero=>
          obtain rfl:v=u:=by simpa using h1
          exact .inl (by rw [h3,decide_eq_true (show j=i by omega)];simp)
        | succ m=>exact .inr ⟨m,u,by simpa using h1,by omega,h3⟩
def qaP (out:Nat):List Int→Prop
  | []=>True
  | v :: _=>out<2 ^ v.toNat
theorem qal {hi:Int} {v:Int} {vs:List Int} (h:Chn hi (some v) vs) (h0:0≤v) {out:Nat} (ho:out<2 ^ (v.toNat+1)):qaP out vs:=by
  cases vs with
  | nil=>trivial
  | cons u us=>
    have:=h.2.2.1 v rfl
    exact Nat.lt_of_lt_of_le ho (Nat.pow_le_pow_right (by decide) (by omega))
theorem qcl (r:Nat) {hi:Int}:∀ (vs:List Int) (p:Option Int) (i out:Nat),Chn hi p vs→qaP out vs→∀ j,((qak r vs i out).testBit j=true↔out.testBit j=true∨∃ m v,vs[m]?=some v∧j=v.toNat∧r.testBit (i+m)=true)
  | [],_,_,_,_,_,j=>by simp [qak]
  | v :: vs,p,i,out,⟨h0,h1,h2,h3⟩,hu,j=>by
    have hl:=qV (r.testBit i) out v.toNat hu
    rw [qak,qcl r vs (some v) (i+1) _ h3 (qal h3 h0 hl) j,qbD _ _ _ hu]
    constructor
    · rintro (h1|⟨m,u,h1,h2,h3⟩)
      · rcases Bool.or_eq_true_iff.1 h1 with h1|h1
        · exact .inl h1
        · rw [Bool.and_eq_true,decide_eq_true_eq] at h1
          exact .inr ⟨0,v,rfl,h1.2,h1.1⟩
      · exact .inr ⟨m+1,u,by simpa using h1,h2,by rw [show i+(m+1)=i+1+m by omega];exact h3⟩
    · rintro (h1|⟨m,u,h1,h2,h3⟩)
      · exact .inl (by rw [h1];rfl)
      · cases m with
        | zero=>
          obtain rfl:v=u:=by simpa using h1
          rw [Nat.add_zero] at h3
          exact .inl (by rw [h3,decide_eq_true h2];simp)
        | succ m=>exact .inr ⟨m,u,by simpa using h1,h2,by rw [show i+1+m=i+(m+1) by omega];exact h3⟩
theorem qc1 (r:Nat) {hi:Int} (hhi:0≤hi):∀ (vs:List Int) (p:Option Int) (i out:Nat),Chn hi p vs→qaP out vs→out<2 ^ hi.toNat→qak r vs i out<2 ^ hi.toNat
  | [],_,_,_,_,_,ho=>ho
  | v :: vs,p,i,out,⟨h0,h1,h2,h3⟩,hu,_=>by
    have hl:=qV (r.testBit i) out v.toNat hu
    rw [qak]
    refine qc1 r hhi vs (some v) (i+1) _ h3 (qal h3 h0 hl) (Nat.lt_of_lt_of_le hl (Nat.pow_le_pow_right (by decide) (by omega)))
def row (vs:List Int) (a:Nat):Nat:=qW a vs 0 0
def asg (vs:List Int) (r:Nat):Nat:=qak r vs 0 0
theorem qbk (vs:List Int) (a:Nat):row vs a<2 ^ vs.length:=by
  have:=qc0 a vs 0 0 (by decide)
  rw [Nat.zero_add] at this
  exact this
theorem qo (vs:List Int) (a j:Nat):(row vs a).testBit j=true↔∃ v,vs[j]?=some v∧a.testBit v.toNat=true:=by
  unfold row
  rw [qck a vs 0 0 (by decide)]
  constructor
  · rintro (h|⟨m,v,h1,h2,h3⟩)
    · simp at h
    · obtain rfl:j=m:=by omega
      exact ⟨v,h1,h3⟩
  · rintro ⟨v,h1,h2⟩
    exact .inr ⟨j,v,h1,by omega,h2⟩
theorem qam (vs:List Int):qaP 0 vs:=by cases vs <;> simp [qaP,Nat.two_pow_pos]
theorem qu {hi:Int} {vs:List Int} (h:Chn hi none vs) (r j:Nat):(asg vs r).testBit j=true↔∃ m v,vs[m]?=some v∧j=v.toNat∧r.testBit m=true:=by
  unfold asg
  rw [qcl r vs none 0 0 h (qam vs)]
  simp
theorem qek {vs:List Int} (h:Chn 24 none vs) (r:Nat):asg vs r<2 ^ 24:=qc1 r (by decide) vs none 0 0 h (qam vs) (Nat.two_pow_pos _)
theorem Chn.inj {hi:Int}:∀ {vs:List Int} {p:Option Int},Chn hi p vs→∀ (i j:Nat) (u v:Int),vs[i]?=some u→vs[j]?=some v→u.toNat=v.toNat→i=j
  | [],_,_,i,j,u,v,h,_,_=>by simp at h
  | x :: xs,p,⟨h0,h1,h2,h3⟩,i,j,u,v,hi,hj,e=>by
    cases i with
    | zero=>
      obtain rfl:x=u:=by simpa using hi
      cases j with
      | zero=>rfl
      | succ j=>
        have hj':xs[j]?=some v:=by simpa using hj
        have:=h3.mem v (List.mem_of_getElem? hj')
        have:=this.2.2 x rfl
        omega
    | succ i=>
      have hi':xs[i]?=some u:=by simpa using hi
      cases j with
      | zero=>
        obtain rfl:x=v:=by simpa using hj
        have:=h3.mem u (List.mem_of_getElem? hi')
        have:=this.2.2 x rfl
        omega
      | succ j=>rw [Chn.inj h3 i j u v hi' (by simpa using hj) e]
theorem qd5 {hi:Int} {vs:List Int} (h:Chn hi none vs) {r:Nat} (hr:r<2 ^ vs.length):row vs (asg vs r)=r:=by
  apply Nat.eq_of_testBit_eq
  intro j
  rw [Bool.eq_iff_iff,qo]
  constructor
  · rintro ⟨v,hv,hb⟩
    obtain ⟨m,u,hm,e,hr⟩:=(qu h r _).1 hb
    rw [h.inj j m v u hv hm e];exact hr
  · intro hb
    have hj:j<vs.length:=by
      rcases Nat.lt_or_ge j vs.length with h1|h1
      · exact h1
      · rw [Nat.testBit_lt_two_pow (Nat.lt_of_lt_of_le hr (Nat.pow_le_pow_right (by decide) h1))] at hb;exact absurd hb (by simp)
    exact ⟨vs[j],List.getElem?_eq_getElem hj,(qu h r _).2 ⟨j,vs[j],List.getElem?_eq_getElem hj,rfl,hb⟩⟩

theorem qg {v:Int} (h:0≤v):v=((v.toNat:Nat):Int):=by omega
theorem Chn.below {hi:Int}:∀ {xs:List Int} {p:Option Int},Chn hi p xs→∀ (i j:Nat) (x y:Int),i<j→xs[i]?=some x→xs[j]?=some y→x<y
  | [],_,_,i,j,x,y,_,h,_=>by simp at h
  | z :: zs,p,⟨_,_,_,h3⟩,i,j,x,y,hij,hx,hy=>by
    cases j with
    | zero=>omega
    | succ j=>
      have hy':zs[j]?=some y:=by simpa using hy
      cases i with
      | zero=>
        obtain rfl:z=x:=by simpa using hx
        exact (h3.mem y (List.mem_of_getElem? hy')).2.2 z rfl
      | succ i=>exact Chn.below h3 i j x y (by omega) (by simpa using hx) hy'
theorem qel (xs:List Int) (i:Nat) (h:i<xs.length):xs[i]?=some (rd xs i):=by
  simp [rd,List.getD,List.getElem?_eq_getElem h]
def hs (vs rs:List Int) (a:Nat):Bool:=decide (((row vs a:Nat):Int)∈rs)
theorem VT.vars' {vs rs:List Int} (h:VT vs rs):∀ v,v∈vs→0≤v∧v<24:=fun v hv=>by have:=h.vars.mem v hv;omega
theorem Chn.len1 {hi:Int}:∀ {xs:List Int} {q:Int},Chn hi (some q) xs→0≤q→q<hi→(xs.length:Int)≤hi - 1 - q
  | [],_,_,_,_=>by simp;omega
  | x :: xs,q,⟨h0,h1,h2,h3⟩,_,_=>by
    have:=Chn.len1 h3 h0 h1
    have:=h2 q rfl
    simp only [List.length_cons]
    omega
theorem Chn.len {hi:Int} {xs:List Int} (h:Chn hi none xs) (h0:0≤hi):(xs.length:Int)≤hi:=by
  cases xs with
  | nil=>simpa using h0
  | cons x xs=>
    have:=Chn.len1 h.2.2.2 h.1 h.2.1
    have:=h.1
    simp only [List.length_cons]
    omega
theorem qeA {n:Nat} (h:n≤10):2 ^ n≤1024:=by
  have:(2:Nat) ^ n≤2 ^ 10:=Nat.pow_le_pow_right (by decide) h
  omega
theorem VT.rows_len {vs rs:List Int} (h:VT vs rs):(rs.length:Int)≤1024:=by
  have h1:=h.rows.len (Int.natCast_nonneg _)
  have h2:=qeA h.len
  generalize (2:Nat) ^ vs.length=z at h1 h2
  omega
def flt (t:Nat→Bool):Nat→Nat→List Int
  | 0,_=>[]
  | d+1,r=>if t r=true then (r:Int) :: flt t d (r+1) else flt t d (r+1)
theorem qad (t:Nat→Bool):∀ (d r:Nat) (x:Int),x∈flt t d r↔∃ m:Nat,r≤m∧m<r+d∧t m=true∧x=m
  | 0,r,x=>by simp [flt];omega
  | d+1,r,x=>by
    have ih:=qad t d (r+1) x
    rw [flt]
    by_cases h:t r=true
    · rw [if_pos h,List.mem_cons,ih]
      constructor
      · rintro (rfl|⟨m,h1,h2,h3⟩)
        · exact ⟨r,by omega,by omega,h,rfl⟩
        · exact ⟨m,by omega,by omega,h3⟩
      · rintro ⟨m,h1,h2,h3,h4⟩
        by_cases e:m=r
        · exact .inl (by rw [h4,e])
        · exact .inr ⟨m,by omega,by omega,h3,h4⟩
    · rw [if_neg h,ih]
      constructor
      · rintro ⟨m,h1,h2,h3⟩;exact ⟨m,by omega,by omega,h3⟩
      · rintro ⟨m,h1,h2,h3,h4⟩
        by_cases e:m=r
        · subst e;exact absurd h3 h
        · exact ⟨m,by omega,by omega,h3,h4⟩
theorem qU (t:Nat→Bool):∀ (d r:Nat) (p:Option Int),(∀ q,p=some q→q<r)→Chn ((r+d:Nat):Int) p (flt t d r)
  | 0,_,_,_=>trivial
  | d+1,r,p,hp=>by
    have e:((r+(d+1):Nat):Int)=((r+1+d:Nat):Int):=by omega
    rw [flt,e]
    by_cases h:t r=true
    · rw [if_pos h]
      exact ⟨by omega,by omega,hp,qU t d (r+1) _ (fun q hq=>by injection hq;omega)⟩
    · rw [if_neg h]
      exact qU t d (r+1) p (fun q hq=>by have:=hp q hq;omega)
theorem qcm {hi:Int} {x:Int} (h0:0≤x) (h1:x<hi):∀ {l:List Int} {p:Option Int},Chn hi p l→(∀ y,y∈l→y<x)→(∀ q,p=some q→q<x)→Chn hi p (l++[x])
  | [],_,_,_,hp=>⟨h0,h1,hp,trivial⟩
  | y :: l,p,⟨a0,a1,a2,a3⟩,hl,hp=>⟨a0,a1,a2,qcm h0 h1 a3 (fun z hz=>hl z (List.mem_cons_of_mem _ hz)) (fun q hq=>by injection hq with hq;rw [← hq];exact hl y List.mem_cons_self)⟩
theorem qas {hi:Int} (d:Array Int) (hd:∀ i j,i≤j→j<d.size→d[i]!≤d[j]!) (hr:∀ i,i<d.size→0≤d[i]!∧d[i]!<hi):∀ m,m≤d.size→Chn hi none (Lib.compactUpTo d m)∧∀ n,n∈Lib.compactUpTo d m↔∃ j,j<m∧d[j]! = n
  | 0,_=>⟨by simp [Lib.compactUpTo,Chn],fun n=>by simp [Lib.compactUpTo]⟩
  | m+1,hm=>by
    obtain ⟨h1,h2⟩:=qas d hd hr m (by omega)
    have hrm:=hr m (by omega)
    rw [Lib.compactUpTo_succ]
    by_cases hk:Lib.keeps d m=true
    · rw [if_pos hk]
      have hk2:m=0∨d[m]!≠d[m - 1]!:=by simpa [Lib.keeps] using hk
      refine ⟨qcm hrm.1 hrm.2 h1 (fun y hy=>?_) (fun q hq=>by cases hq),fun n=>?_⟩
      · obtain ⟨j,hj,rfl⟩:=(h2 y).1 hy
        have a1:=hd j (m - 1) (by omega) (by omega)
        have a2:=hd (m - 1) m (by omega) (by omega)
        rcases hk2 with h|h
        · omega
        · omega
      · rw [List.mem_append,h2]
        constructor
        · rintro (⟨j,hj,e⟩|h)
          · exact ⟨j,by omega,e⟩
          · exact ⟨m,by omega,by simpa using Eq.symm (List.mem_singleton.1 h)⟩
        · rintro ⟨j,hj,e⟩
          by_cases ej:j=m
          · subst ej;exact .inr (by simp [e])
          · exact .inl ⟨j,by omega,e⟩
    · rw [if_neg hk,List.append_nil]
      have hk2:¬ (m=0∨d[m]!≠d[m - 1]!):=by simpa [Lib.keeps] using hk
      refine ⟨h1,fun n=>?_⟩
      rw [h2]
      constructor
      · rintro ⟨j,hj,e⟩;exact ⟨j,by omega,e⟩
      · rintro ⟨j,hj,e⟩
        by_cases ej:j=m
        · subst ej
          exact ⟨j - 1,by omega,by rw [← e];exact (Classical.byContradiction fun hne=>hk2 (.inr (fun h=>hne h.symm)))⟩
        · exact ⟨j,by omega,e⟩
theorem qae {hi:Int} (l:List Int) (hr:∀ x,x∈l→0≤x∧x<hi):Chn hi none (Lib.compact (l.mergeSort fun x y=>decide (x≤y)))∧∀ n,n∈Lib.compact (l.mergeSort fun x y=>decide (x≤y))↔n∈l:=by
  have hp:=List.pairwise_mergeSort (le:=fun x y:Int=>decide (x≤y)) (fun a b c h1 h2=>by simp at *;omega) (fun a b=>by simp;omega) l
  have hperm:=List.mergeSort_perm l (fun x y:Int=>decide (x≤y))
  generalize hs:l.mergeSort (fun x y=>decide (x≤y))=s at hp hperm
  have hget:∀ i,i<s.length→s.toArray[i]! = s[i]!:=fun i hi=>by simp
  have key:=qas (hi:=hi) s.toArray (fun i j hij hj=>by
    have hj':j<s.length:=by simpa using hj
    rw [hget i (by omega),hget j hj',List.getElem!_eq_getElem?_getD,List.getElem!_eq_getElem?_getD,List.getElem?_eq_getElem hj',List.getElem?_eq_getElem (show i<s.length by omega)]
    by_cases e:i=j
    · subst e;exact Int.le_refl _
    · have:=List.pairwise_iff_getElem.1 hp i j (by omega) hj' (by omega)
      simpa using this) (fun i hi2=>by
    have hi':i<s.length:=by simpa using hi2
    rw [hget i hi',List.getElem!_eq_getElem?_getD,List.getElem?_eq_getElem hi']
    exact hr _ (hperm.mem_iff.1 (List.getElem_mem hi'))) s.length (by simp)
  refine ⟨key.1,fun n=>?_⟩
  have h2:=key.2 n
  unfold Lib.compact
  rw [h2,← hperm.mem_iff]
  constructor
  · rintro ⟨j,hj,e⟩
    rw [hget j hj,List.getElem!_eq_getElem?_getD,List.getElem?_eq_getElem hj] at e
    exact e ▸ List.getElem_mem hj
  · intro hn
    obtain ⟨j,hj,e⟩:=List.getElem_of_mem hn
    exact ⟨j,hj,by rw [hget j hj,List.getElem!_eq_getElem?_getD,List.getElem?_eq_getElem hj];exact e⟩
theorem qds (vs:List Int) {x y:Nat} (h:∀ w,w∈vs→x.testBit w.toNat=y.testBit w.toNat):row vs x=row vs y:=by
  apply Nat.eq_of_testBit_eq
  intro j
  rw [Bool.eq_iff_iff,qo,qo]
  constructor
  · rintro ⟨v,hv,hb⟩;exact ⟨v,hv,by rw [← h v (List.mem_of_getElem? hv)];exact hb⟩
  · rintro ⟨v,hv,hb⟩;exact ⟨v,hv,by rw [h v (List.mem_of_getElem? hv)];exact hb⟩
theorem qem {hi:Int} {vs:List Int} (h:Chn hi none vs) (x:Nat) {w:Int} (hw:w∈vs):(asg vs (row vs x)).testBit w.toNat=x.testBit w.toNat:=by
  rw [Bool.eq_iff_iff,qu h]
  obtain ⟨i,hi2⟩:=List.getElem?_of_mem hw
  constructor
  · rintro ⟨m,v,hv,e,hb⟩
    obtain ⟨u,hu,hb⟩:=(qo vs x m).1 hb
    rw [hv] at hu
    injection hu with hu
    rw [e,hu];exact hb
  · intro hb
    exact ⟨i,w,hi2,rfl,(qo vs x i).2 ⟨w,hi2,hb⟩⟩
theorem qcn (vs rs:List Int) {x y:Nat} (h:∀ w,w∈vs→x.testBit w.toNat=y.testBit w.toNat):hs vs rs x=hs vs rs y:=by
  unfold hs;rw [qds vs h]
theorem VT.row_of {vs rs:List Int} (h:VT vs rs) {r:Int} (hr:r∈rs):0≤r∧r.toNat<2 ^ vs.length∧row vs (asg vs r.toNat)=r.toNat:=by
  have h1:=h.rows.mem r hr
  have h2:r.toNat<2 ^ vs.length:=by
    have:=h1.2.1
    generalize 2 ^ vs.length=z at *
    omega
  exact ⟨h1.1,h2,qd5 h.vars h2⟩
theorem qbN (vs:List Int) (hl:(vs.length:Int)≤9223372036854775807):∀ (d i:Nat),i+d=vs.length→Ev (fun k=>ancepsref38_Variables.l0 k vs i) (chk 24 (prv vs i) (vs.drop i))
  | 0,i,h=>by
    rw [List.drop_eq_nil_of_le (by omega)]
    refine Ev.step (f:=fun _=>some 0) (fun k=>by rw [ancepsref38_Variables.l0,if_neg (by omega)]) ?_
    cases prv vs i <;> exact Ev.now _
  | d+1,i,h=>by
    have hi:i<vs.length:=by omega
    have hw:=qc i vs.length hi hl
    have ih:=qbN vs hl d (i+1) (by omega)
    rw [qJ] at ih
    rw [qi vs i hi]
    have hj:rd vs i<0∨24≤rd vs i→∀ p,chk 24 p (rd vs i :: vs.drop (i+1))=6:=fun h p=>by cases p <;> simp only [chk] <;> rw [if_pos h]
    by_cases h0:rd vs i<0
    · rw [hj (.inl h0)]
      exact Ev.step (f:=fun _=>some 6) (fun k=>by rw [ancepsref38_Variables.l0,if_pos (by omega),if_pos (by omega),if_pos h0]) (Ev.now _)
    · by_cases h1:rd vs i>23
      · rw [hj (.inr (by omega))]
        exact Ev.step (f:=fun _=>some 6) (fun k=>by rw [ancepsref38_Variables.l0,if_pos (by omega),if_pos (by omega),if_neg h0,if_pos h1]) (Ev.now _)
      · by_cases e:i=0
        · have ep:prv vs i=none:=by unfold prv;rw [if_pos e]
          rw [ep]
          simp only [chk]
          rw [if_neg (by omega)]
          refine Ev.step (fun k=>by rw [ancepsref38_Variables.l0,if_pos (by omega),if_pos (by omega),if_neg h0,if_neg h1,if_neg (by omega),hw]) ih
        · have ep:prv vs i=some (rd vs ((i:Int) - 1)):=by unfold prv;rw [if_neg e]
          rw [ep]
          simp only [chk]
          rw [if_neg (by omega)]
          by_cases h2:rd vs i≤rd vs ((i:Int) - 1)
          · rw [if_pos h2]
            exact Ev.step (f:=fun _=>some 18) (fun k=>by rw [ancepsref38_Variables.l0,if_pos (by omega),if_pos (by omega),if_neg h0,if_neg h1,if_pos (by omega),qe ((i:Int) - 1) (by omega),if_pos (by omega),if_pos (by omega),if_pos h2]) (Ev.now _)
          · rw [if_neg h2]
            refine Ev.step (fun k=>by rw [ancepsref38_Variables.l0,if_pos (by omega),if_pos (by omega),if_neg h0,if_neg h1,if_pos (by omega),qe ((i:Int) - 1) (by omega),if_pos (by omega),if_pos (by omega),if_neg h2,hw]) ih
theorem qd6 (vs:List Int) (hl:(vs.length:Int)≤9223372036854775807):Ev (fun k=>ancepsref38_Variables.f k vs) (asc vs):=by
  unfold asc ancepsref38_Variables.f
  refine qf (fun _=>Ev.now _) (fun _=>?_)
  simpa [prv] using qbN vs hl vs.length 0 (by omega)
theorem qaU (vs rs:List Int) (hv:vs.length≤10) (hl:(rs.length:Int)≤9223372036854775807):∀ (d i:Nat),i+d=rs.length→Ev (fun k=>ancepsref38_Valid.l0 k i vs rs) (chk ((2 ^ vs.length:Nat):Int) (prv rs i) (rs.drop i))
  | 0,i,h=>by
    rw [List.drop_eq_nil_of_le (by omega)]
    refine Ev.step (f:=fun _=>some 0) (fun k=>by rw [ancepsref38_Valid.l0,if_neg (by omega)]) ?_
    cases prv rs i <;> exact Ev.now _
  | d+1,i,h=>by
    have hi:i<rs.length:=by omega
    have hw:=qc i rs.length hi hl
    have ih:=qaU vs rs hv hl d (i+1) (by omega)
    have hs:=qar vs.length (by omega)
    rw [qJ] at ih
    rw [qi rs i hi]
    have hj:rd rs i<0∨((2 ^ vs.length:Nat):Int)≤rd rs i→∀ p,chk ((2 ^ vs.length:Nat):Int) p (rd rs i :: rs.drop (i+1))=6:=fun h p=>by cases p <;> simp only [chk] <;> rw [if_pos h]
    by_cases h0:rd rs i<0
    · rw [hj (.inl h0)]
      exact Ev.step (f:=fun _=>some 6) (fun k=>by rw [ancepsref38_Valid.l0,if_pos (by omega),if_pos (by omega),if_pos h0]) (Ev.now _)
    · by_cases h1:rd rs i≥((2 ^ vs.length:Nat):Int)
      · rw [hj (.inr h1)]
        exact Ev.step (f:=fun _=>some 6) (fun k=>by rw [ancepsref38_Valid.l0,if_pos (by omega),if_pos (by omega),if_neg h0,hs,if_pos h1]) (Ev.now _)
      · by_cases e:i=0
        · have ep:prv rs i=none:=by unfold prv;rw [if_pos e]
          rw [ep]
          simp only [chk]
          rw [if_neg (by omega)]
          refine Ev.step (fun k=>by rw [ancepsref38_Valid.l0,if_pos (by omega),if_pos (by omega),if_neg h0,hs,if_neg h1,if_neg (by omega),hw]) ih
        · have ep:prv rs i=some (rd rs ((i:Int) - 1)):=by unfold prv;rw [if_neg e]
          rw [ep]
          simp only [chk]
          rw [if_neg (by omega)]
          by_cases h2:rd rs i≤rd rs ((i:Int) - 1)
          · rw [if_pos h2]
            exact Ev.step (f:=fun _=>some 18) (fun k=>by rw [ancepsref38_Valid.l0,if_pos (by omega),if_pos (by omega),if_neg h0,hs,if_neg h1,if_pos (by omega),qe ((i:Int) - 1) (by omega),if_pos (by omega),if_pos (by omega),if_pos h2]) (Ev.now _)
          · rw [if_neg h2]
            refine Ev.step (fun k=>by rw [ancepsref38_Valid.l0,if_pos (by omega),if_pos (by omega),if_neg h0,hs,if_neg h1,if_pos (by omega),qe ((i:Int) - 1) (by omega),if_pos (by omega),if_pos (by omega),if_neg h2,hw]) ih
theorem qbO (vs rs:List Int) (hl:(vs.length:Int)≤9223372036854775807) (hr:(rs.length:Int)≤9223372036854775807):Ev (fun k=>ancepsref38_Valid.f k vs rs) (qQ vs rs):=by
  unfold qQ
  refine Ev.bind (qd6 vs hl) ?_
  refine qf (fun h=>?_) (fun _=>Ev.now _)
  simpa [prv] using qaU vs rs (qcY h) hr rs.length 0 (by omega)
theorem qco (x n i out:Nat) (hn:n≤60) (hi:i≤30) (ho:out<2 ^ i):wrap64 ((out:Int)+shl .i64 (Int.tmod (shr .i64 (x:Int) (n:Int)) 2) (i:Int))=((out+(x.testBit n).toNat * 2 ^ i:Nat):Int):=by
  have hb:IntKind.i64.bits=64:=rfl
  have h1:shr .i64 (x:Int) (n:Int)=((x / 2 ^ n:Nat):Int):=by
    unfold shr
    rw [hb,show min ((n:Int)).toNat 64=n by omega]
    simp
  have h2:Int.tmod ((x / 2 ^ n:Nat):Int) 2=(((x.testBit n).toNat:Nat):Int):=by
    rw [Nat.toNat_testBit,Int.tmod_eq_emod_of_nonneg (Int.natCast_nonneg _)]
    simp
  have hip:(2:Nat) ^ i≤2 ^ 30:=Nat.pow_le_pow_right (by decide) hi
  have h30:(2:Nat) ^ 30=1073741824:=by decide
  have hbl:(x.testBit n).toNat * 2 ^ i≤2 ^ i:=by cases x.testBit n <;> simp
  have h3:shl .i64 (((x.testBit n).toNat:Nat):Int) (i:Int)=(((x.testBit n).toNat * 2 ^ i:Nat):Int):=by
    unfold shl
    rw [hb,show min ((i:Int)).toNat 64=i by omega]
    have e:(((x.testBit n).toNat:Nat):Int) * 2 ^ i=(((x.testBit n).toNat * 2 ^ i:Nat):Int):=by simp
    rw [e,IntKind.wrap_i64]
    omega
  rw [h1,h2,h3,qe _ (by omega)]
  omega
theorem qbP (vs:List Int) (hv:∀ v,v∈vs→0≤v∧v<24) (hl:vs.length≤24) (a:Nat):∀ (d i out:Nat),i+d=vs.length→out<2 ^ i→
    Ev (fun k=>ancepsref38_Row.l0 k vs (a:Int) (out:Int) i) ((qW a (vs.drop i) i out:Nat):Int)
  | 0,i,out,h,ho=>by
    rw [List.drop_eq_nil_of_le (by omega)]
    exact Ev.step (f:=fun _=>some (out:Int)) (fun k=>by rw [ancepsref38_Row.l0,if_neg (by omega)]) (Ev.now _)
  | d+1,i,out,h,ho=>by
    have hi:i<vs.length:=by omega
    have hw:=qc i vs.length hi (by omega)
    have hm:=hv _ (qz vs i hi)
    have ih:=qbP vs hv hl a d (i+1) _ (by omega) (qV (a.testBit (rd vs i).toNat) out i ho)
    rw [qi vs i hi,qW]
    refine Ev.step (fun k=>?_) ih
    rw [ancepsref38_Row.l0,if_pos (by omega),if_pos (by omega),if_pos (by omega),hw]
    have hb:=qco a (rd vs i).toNat i out (by omega) (by omega) ho
    rw [← qg hm.1] at hb
    rw [hb]
theorem qc2 (vs:List Int) (hv:∀ v,v∈vs→0≤v∧v<24) (hl:vs.length≤24) (a:Nat):Ev (fun k=>ancepsref38_Row.f k vs (a:Int)) ((row vs a:Nat):Int):=by
  have:=qbP vs hv hl a vs.length 0 0 (by omega) (by decide)
  exact this
theorem qbQ {vs:List Int} (r:Nat) (hl:vs.length≤24):∀ (d i out:Nat) (p:Option Int),i+d=vs.length→Chn 24 p (vs.drop i)→qaP out (vs.drop i)→
    Ev (fun k=>ancepsref38_Assignment.l0 k vs (r:Int) (out:Int) i) ((qak r (vs.drop i) i out:Nat):Int)
  | 0,i,out,p,h,hc,ho=>by
    rw [List.drop_eq_nil_of_le (by omega)]
    exact Ev.step (f:=fun _=>some (out:Int)) (fun k=>by rw [ancepsref38_Assignment.l0,if_neg (by omega)]) (Ev.now _)
  | d+1,i,out,p,h,hc,ho=>by
    have hi:i<vs.length:=by omega
    have hw:=qc i vs.length hi (by omega)
    rw [qi vs i hi] at hc ho ⊢
    have hx:=qV (r.testBit i) out (rd vs i).toNat ho
    have ih:=qbQ r hl d (i+1) _ (some (rd vs i)) (by omega) hc.2.2.2 (qal hc.2.2.2 hc.1 hx)
    rw [qak]
    refine Ev.step (fun k=>?_) ih
    have h0:=hc.1
    have h1:=hc.2.1
    rw [ancepsref38_Assignment.l0,if_pos (by omega),if_pos (by omega),if_pos (by omega),hw]
    have hb:=qco r i (rd vs i).toNat out (by omega) (by omega) ho
    rw [← qg h0] at hb
    rw [hb]
theorem qbE {vs:List Int} (hc:Chn 24 none vs) (hl:vs.length≤24) (r:Nat):Ev (fun k=>ancepsref38_Assignment.f k vs (r:Int)) ((asg vs r:Nat):Int):=by
  have:=qbQ r hl vs.length 0 0 none (by omega) hc (qam _)
  exact this
theorem qc3 (rs:List Int) (hl:(rs.length:Int)≤9223372036854775807) (x:Int):∀ (d i:Nat),i+d=rs.length→Ev (fun k=>ancepsref38_in.l0 k rs x i) (decide (x∈rs.drop i))
  | 0,i,h=>by
    rw [List.drop_eq_nil_of_le (by omega)]
    exact Ev.step (f:=fun _=>some false) (fun k=>by rw [ancepsref38_in.l0,if_neg (by omega)]) (by simpa using Ev.now _)
  | d+1,i,h=>by
    have hi:i<rs.length:=by omega
    have hw:=qc i rs.length hi hl
    have ih:=qc3 rs hl x d (i+1) (by omega)
    rw [qi rs i hi]
    by_cases e:rd rs i=x
    · have:decide (x∈rd rs i :: rs.drop (i+1))=true:=by simp [e]
      rw [this]
      exact Ev.step (f:=fun _=>some true) (fun k=>by rw [ancepsref38_in.l0,if_pos (by omega),if_pos (by omega),if_pos e]) (Ev.now _)
    · have:decide (x∈rd rs i :: rs.drop (i+1))=decide (x∈rs.drop (i+1)):=by
        rw [decide_eq_decide,List.mem_cons]
        exact ⟨fun h=>by rcases h with h|h;exact absurd h.symm e;exact h,.inr⟩
      rw [this]
      exact Ev.step (fun k=>by rw [ancepsref38_in.l0,if_pos (by omega),if_pos (by omega),if_neg e,hw]) ih
theorem qeB (rs:List Int) (hl:(rs.length:Int)≤9223372036854775807) (x:Int):Ev (fun k=>ancepsref38_in.f k rs x) (decide (x∈rs)):=by
  have:=qc3 rs hl x rs.length 0 (by omega)
  rw [List.drop_zero] at this
  exact this
theorem qdK (vs rs:List Int):∃ b,ancepsref38_Few.f vs rs=some b∧(b=true→vs.length≤12∧rs.length≤1030):=by
  unfold ancepsref38_Few.f
  by_cases h1:(vs.length:Int)≤12
  · rw [if_pos h1];exact ⟨_,rfl,fun h=>by have:=of_decide_eq_true h;omega⟩
  · rw [if_neg h1];exact ⟨_,rfl,fun h=>by simp at h⟩
theorem qaQ (o:List Bool) (m n:Nat) (v:Bool) (hl:m<o.length):rdOf false (o.set m v) (n:Int)=if m=n then v else rdOf false o (n:Int):=by
  unfold rdOf
  rw [Int.toNat_natCast]
  by_cases h:m=n
  · subst h;rw [if_pos rfl,List.getD,List.getElem?_set_self hl];rfl
  · rw [if_neg h];simp [List.getD,List.getElem?_set_ne h]
theorem qcp {vs rs:List Int} (h:VT vs rs) (a:Nat):Ev (fun k=>ancepsref38_Holds.f k vs rs (a:Int)) (hs vs rs a):=by
  have h1:=h.rows_len
  have h2:=h.len
  exact Ev.bind (qc2 vs h.vars' (by omega) a) (Ev.bind (qeB rs (by omega) _) (Ev.now _))
theorem qbR (vs rs:List Int) (hv:∀ v,v∈vs→0≤v∧v<24) (hl:vs.length≤24) (a:Nat) (ha:a<2 ^ 60):∀ (d i out:Nat),i+d=vs.length→out<2 ^ i→
    Ev (fun k=>solve_row.l0 k (a:Int) (out:Int) vs vs.length i) ((qW a (vs.drop i) i out:Nat):Int)
  | 0,i,out,h,ho=>by
    rw [List.drop_eq_nil_of_le (by omega)]
    exact Ev.step (f:=fun _=>some (out:Int)) (fun k=>by rw [solve_row.l0,if_neg (by omega)]) (Ev.now _)
  | d+1,i,out,h,ho=>by
    have hi:i<vs.length:=by omega
    have hw:=qc i vs.length hi (by omega)
    have hm:=hv _ (qz vs i hi)
    have ih:=qbR vs rs hv hl a ha d (i+1) _ (by omega) (qV (a.testBit (rd vs i).toNat) out i ho)
    rw [qi vs i hi,qW]
    refine Ev.step (fun k=>?_) ih
    rw [solve_row.l0,if_pos (by omega),if_pos (by omega),if_pos (by omega),if_pos (by omega),hw]
    have hb:=qej a (rd vs i).toNat i out ha (by omega) (by omega) ho
    rw [← qg hm.1] at hb
    rw [hb]
theorem qbF (vs rs:List Int) (hv:∀ v,v∈vs→0≤v∧v<24) (hl:vs.length≤24) (a:Nat) (ha:a<2 ^ 60):Ev (fun k=>solve_row.f k vs rs (a:Int)) ((row vs a:Nat):Int):=by
  have:=qbR vs rs hv hl a ha vs.length 0 0 (by omega) (by decide)
  exact this
theorem qs (l:List S49) (i:Nat) (hi:i<l.length):l.drop i=rd_T49 l i :: l.drop (i+1):=qD l i z49 hi
theorem ql (l:List S49) (i:Nat) (hi:i<l.length):rd_T49 l i∈l:=by
  unfold rd_T49
  simp only [Int.toNat_natCast,List.getD,List.getElem?_eq_getElem hi,Option.getD_some]
  exact List.getElem_mem hi
def qp:List S49→Int
  | []=>0
  | t :: ts=>if qQ t.f0 t.f1=0 then qp ts else qQ t.f0 t.f1
def qX (l:List S49):Int:=if (l.length:Int)>16 then 3 else qp l
def Sm (l:List S49):Prop:=∀ t,t∈l→t.f0.length≤1030∧t.f1.length≤1030
structure VS (l:List S49):Prop where
  len:l.length≤16
  tab:∀ t,t∈l→VT t.f0 t.f1
theorem qat:∀ l:List S49,qp l=0↔∀ t,t∈l→VT t.f0 t.f1
  | []=>by simp [qp]
  | t :: ts=>by
    have ih:=qat ts
    unfold qp
    by_cases h:qQ t.f0 t.f1=0
    · rw [if_pos h,ih]
      exact ⟨fun h2 x hx=>by rcases List.mem_cons.1 hx with rfl|hx;exact (qcj _ _).1 h;exact h2 x hx,fun h2 x hx=>h2 x (List.mem_cons_of_mem _ hx)⟩
    · rw [if_neg h]
      exact ⟨fun h2=>absurd h2 h,fun h2=>absurd ((qcj _ _).2 (h2 t List.mem_cons_self)) h⟩
theorem qj (l:List S49):qX l=0↔VS l:=by
  unfold qX
  by_cases h:(l.length:Int)>16
  · rw [if_pos h];exact ⟨fun h2=>by omega,fun h2=>by have:=h2.len;omega⟩
  · rw [if_neg h,qat];exact ⟨fun h2=>⟨by omega,h2⟩,fun h2=>h2.tab⟩
theorem qaV (l:List S49) (hs:Sm l) (hl:l.length≤1000):∀ (d i:Nat),i+d=l.length→Ev (fun k=>solve_valid.l0 k l l.length i) (qp (l.drop i))
  | 0,i,h=>by
    rw [List.drop_eq_nil_of_le (by omega)]
    exact Ev.step (f:=fun _=>some 0) (fun k=>by rw [solve_valid.l0,if_neg (by omega)]) (Ev.now _)
  | d+1,i,h=>by
    have hi:i<l.length:=by omega
    have hw:=qc i l.length hi (by omega)
    have hm:=hs _ (ql l i hi)
    rw [qs l i hi,qp]
    refine Ev.step (fun k=>by rw [solve_valid.l0,if_pos (by omega),if_pos (by omega),if_pos (by omega),hw]) (Ev.bind (qci _ _ (by omega) (by omega)) ?_)
    exact qf (fun _=>qaV l hs hl d (i+1) (by omega)) (fun _=>Ev.now _)
theorem qE (l:List S49) (hs:Sm l) (hl:l.length≤1000):Ev (fun k=>solve_valid.f k l) (qX l):=by
  unfold qX solve_valid.f
  exact qf (fun _=>Ev.now _) (fun _=>by simpa using qaV l hs hl l.length 0 (by omega))
theorem qau (l:List S49) (hs:Sm l) (hl:l.length≤1000):∀ (d i:Nat),i+d=l.length→Ev (fun k=>ancepsref40_Valid.l0 k l i) (qp (l.drop i))
  | 0,i,h=>by
    rw [List.drop_eq_nil_of_le (by omega)]
    exact Ev.step (f:=fun _=>some 0) (fun k=>by rw [ancepsref40_Valid.l0,if_neg (by omega)]) (Ev.now _)
  | d+1,i,h=>by
    have hi:i<l.length:=by omega
    have hw:=qc i l.length hi (by omega)
    have hm:=hs _ (ql l i hi)
    rw [qs l i hi,qp]
    refine Ev.step (fun k=>by rw [ancepsref40_Valid.l0,if_pos (by omega),if_pos (by omega),hw]) (Ev.bind (qbO _ _ (by omega) (by omega)) ?_)
    exact qf (fun _=>qau l hs hl d (i+1) (by omega)) (fun _=>Ev.now _)
theorem qR (l:List S49) (hs:Sm l) (hl:l.length≤1000):Ev (fun k=>ancepsref40_Valid.f k l) (qX l):=by
  unfold qX ancepsref40_Valid.f
  exact qf (fun _=>Ev.now _) (fun _=>by simpa using qau l hs hl l.length 0 (by omega))
theorem qav (l:List S49) (Q:Prop) (rows:Int) (i:Nat) (hi:i<l.length) (hl:l.length≤18) (hv:(rd_T49 l i).f0.length≤1030)
    (H:∀ (seen:List Bool) (n:Int),seen.length=24→∃ b,Ev (fun k=>ancepsref40_Few.l0 k l seen n rows ((i+1:Nat):Int)) b∧(b=true→Q)) :
    ∀ (d j:Nat) (seen:List Bool) (n:Int),j+d=(rd_T49 l i).f0.length→seen.length=24→∃ b,Ev (fun k=>ancepsref40_Few.l1 k l seen n rows i j) b∧(b=true→Q)
  | 0,j,seen,n,h,hs=>by
    obtain ⟨b,hb,hq⟩:=H seen n hs
    have hw:=qc i l.length hi (by omega)
    exact ⟨b,Ev.step (fun k=>by rw [ancepsref40_Few.l1,if_pos (by omega),if_pos (by omega),if_neg (by omega),hw]) hb,hq⟩
  | d+1,j,seen,n,h,hs=>by
    have hj:j<(rd_T49 l i).f0.length:=by omega
    have hw:=qc j _ hj (by omega)
    by_cases h0:rd (rd_T49 l i).f0 j≥0
    · by_cases h1:rd (rd_T49 l i).f0 j<24
      · by_cases hb:rdOf false seen (rd (rd_T49 l i).f0 j)=true
        · obtain ⟨b,e,hq⟩:=qav l Q rows i hi hl hv H d (j+1) seen n (by omega) hs
          exact ⟨b,Ev.step (fun k=>by rw [ancepsref40_Few.l1,if_pos (by omega),if_pos (by omega),if_pos (by omega),if_pos (by omega),if_pos h0,if_pos h1,if_pos (by omega),if_pos (by omega),if_pos hb,hw]) e,hq⟩
        · obtain ⟨b,e,hq⟩:=qav l Q rows i hi hl hv H d (j+1) (seen.set (rd (rd_T49 l i).f0 j).toNat true) (wrap64 (n+1)) (by omega) (by rw [List.length_set];exact hs)
          exact ⟨b,Ev.step (fun k=>by rw [ancepsref40_Few.l1,if_pos (by omega),if_pos (by omega),if_pos (by omega),if_pos (by omega),if_pos h0,if_pos h1,if_pos (by omega),if_pos (by omega),if_neg hb,hw]) e,hq⟩
      · obtain ⟨b,e,hq⟩:=qav l Q rows i hi hl hv H d (j+1) seen n (by omega) hs
        exact ⟨b,Ev.step (fun k=>by rw [ancepsref40_Few.l1,if_pos (by omega),if_pos (by omega),if_pos (by omega),if_pos (by omega),if_pos h0,if_neg h1,hw]) e,hq⟩
    · obtain ⟨b,e,hq⟩:=qav l Q rows i hi hl hv H d (j+1) seen n (by omega) hs
      exact ⟨b,Ev.step (fun k=>by rw [ancepsref40_Few.l1,if_pos (by omega),if_pos (by omega),if_pos (by omega),if_pos (by omega),if_neg h0,hw]) e,hq⟩
theorem qc4 (l:List S49) (hl:l.length≤18):∀ (d i:Nat) (seen:List Bool) (n rows:Int),i+d=l.length→seen.length=24→∃ b,Ev (fun k=>ancepsref40_Few.l0 k l seen n rows i) b∧(b=true→Sm (l.drop i))
  | 0,i,seen,n,rows,h,hs=>by
    rw [List.drop_eq_nil_of_le (by omega)]
    have hq:Sm []:=fun t ht=>by simp at ht
    by_cases hn:n≤10
    · exact ⟨_,Ev.step (f:=fun _=>some (decide (rows≤2000))) (fun k=>by rw [ancepsref40_Few.l0,if_neg (by omega),if_pos hn]) (Ev.now _),fun _=>hq⟩
    · exact ⟨false,Ev.step (f:=fun _=>some false) (fun k=>by rw [ancepsref40_Few.l0,if_neg (by omega),if_neg hn]) (Ev.now _),fun h=>by cases h⟩
  | d+1,i,seen,n,rows,h,hs=>by
    have hi:i<l.length:=by omega
    obtain ⟨b,hb,hf⟩:=qdK (rd_T49 l i).f0 (rd_T49 l i).f1
    cases b with
    | false=>exact ⟨false,Ev.step (f:=fun _=>some false) (fun k=>by rw [ancepsref40_Few.l0,if_pos (by omega),if_pos (by omega),hb];rfl) (Ev.now _),fun h=>by cases h⟩
    | true=>
      obtain ⟨f1,f2⟩:=hf rfl
      obtain ⟨b,e,hq⟩:=qav l (Sm (l.drop (i+1))) (wrap64 (rows+((rd_T49 l i).f1.length:Int))) i hi hl (by omega)
        (fun seen n hs=>qc4 l hl d (i+1) seen n _ (by omega) hs) (rd_T49 l i).f0.length 0 seen n (by omega) hs
      refine ⟨b,Ev.step (fun k=>by rw [ancepsref40_Few.l0,if_pos (by omega),if_pos (by omega),hb];rfl) e,fun h=>?_⟩
      rw [qs l i hi]
      intro t ht
      rcases List.mem_cons.1 ht with rfl|ht
      · omega
      · exact hq h t ht
theorem qd7 (l:List S49):∃ b,Ev (fun k=>ancepsref40_Few.f k l) b∧(b=true→Sm l∧l.length≤18):=by
  unfold ancepsref40_Few.f
  by_cases h:(l.length:Int)>18
  · exact ⟨false,qa h (Ev.now _),fun h=>by cases h⟩
  · obtain ⟨b,e,hq⟩:=qc4 l (by omega) l.length 0 (List.replicate 24 false) 0 0 (by omega) (by simp)
    exact ⟨b,qb h (qa (by decide) (by simpa using e)),fun h2=>⟨by simpa using hq h2,by omega⟩⟩
def flat (l:List S49):List Int:=l.flatMap (·.f0)
def occ (l:List S49):List Int:=Lib.compact ((flat l).mergeSort fun x y=>decide (x≤y))
theorem VS.flat {l:List S49} (h:VS l):∀ v,v∈flat l→0≤v∧v<24:=fun v hv=>by
  obtain ⟨t,ht,hv⟩:=List.mem_flatMap.1 hv
  exact (h.tab t ht).vars' v hv
theorem VS.occ {l:List S49} (h:VS l):Chn 24 none (occ l)∧∀ v,v∈occ l↔v∈Pure.flat l:=qae (Pure.flat l) h.flat
theorem qbS (t:S49) (l:List S49):flat (t :: l)=t.f0++flat l:=by simp [flat]
theorem qcq (l:List S49) (hs:Sm l) (hl:l.length≤1000):∀ (d i:Nat) (acc:List Int),i+d=l.length→acc.length≤1030 * i→Ev (fun k=>solve_occurring.l0 k acc l l.length i) (Lib.compact ((acc++flat (l.drop i)).mergeSort fun x y=>decide (x≤y)))
  | 0,i,acc,h,ha=>by
    rw [List.drop_eq_nil_of_le (by omega),show flat []=[] from rfl,List.append_nil]
    refine Ev.step (fun k=>by rw [solve_occurring.l0,if_neg (by omega)]) ?_
    have hs:slices_Sort_int_int.f acc=some (acc.mergeSort fun x y=>decide (x≤y)):=by
      unfold slices_Sort_int_int.f
      rw [if_pos (by omega)]
    simp only [hs,Option.bind_some]
    exact Ev.now _
  | d+1,i,acc,h,ha=>by
    have hi:i<l.length:=by omega
    have hw:=qc i l.length hi (by omega)
    have hm:=hs _ (ql l i hi)
    have ih:=qcq l hs hl d (i+1) (acc++(rd_T49 l i).f0) (by omega) (by rw [List.length_append];omega)
    rw [qs l i hi,qbS,← List.append_assoc]
    exact Ev.step (fun k=>by rw [solve_occurring.l0,if_pos (by omega),if_pos (by omega),if_pos (by omega),if_pos (by omega),hw]) ih
theorem qaw (l:List S49) (hs:Sm l) (hl:l.length≤1000):Ev (fun k=>solve_occurring.f k l) (occ l):=by
  have:=qcq l hs hl l.length 0 [] (by omega) (by simp)
  rw [List.nil_append,List.drop_zero] at this
  exact this
def qr:List Int→List Bool→List Bool
  | [],s=>s
  | v :: vs,s=>qr vs (s.set v.toNat true)
theorem qax:∀ (vs:List Int) (s:List Bool),(qr vs s).length=s.length
  | [],_=>rfl
  | v :: vs,s=>by rw [qr,qax,List.length_set]
theorem qcr:∀ (vs:List Int) (s:List Bool),(∀ v,v∈vs→0≤v∧v<(s.length:Int))→∀ m:Nat,rdOf false (qr vs s) (m:Int)=(rdOf false s (m:Int)||decide ((m:Int)∈vs))
  | [],s,_,m=>by simp [qr]
  | v :: vs,s,h,m=>by
    have hv:=h v List.mem_cons_self
    rw [qr,qcr vs _ (fun x hx=>by rw [List.length_set];exact h x (List.mem_cons_of_mem _ hx)),qaQ s v.toNat m true (by omega)]
    by_cases e:v.toNat=m
    · rw [if_pos e,Bool.true_or]
      have:(m:Int)=v:=by omega
      simp [this]
    · rw [if_neg e]
      have:(m:Int)≠v:=by omega
      simp [this]
theorem qc5 (l:List S49) (i:Nat) (hi:i<l.length) (hl:l.length≤16) (hv:(rd_T49 l i).f0.length≤1030) (hr:∀ v,v∈(rd_T49 l i).f0→0≤v∧v<24) (r:List Int) :
    ∀ (d j:Nat) (seen:List Bool),j+d=(rd_T49 l i).f0.length→seen.length=24→Ev (fun k=>ancepsref40_Vars.l0 k l (qr ((rd_T49 l i).f0.drop j) seen) ((i+1:Nat):Int)) r→Ev (fun k=>ancepsref40_Vars.l1 k l seen i j) r
  | 0,j,seen,h,hs,H=>by
    rw [List.drop_eq_nil_of_le (by omega)] at H
    have hw:=qc i l.length hi (by omega)
    exact Ev.step (fun k=>by rw [ancepsref40_Vars.l1,if_pos (by omega),if_pos (by omega),if_neg (by omega),hw];rfl) H
  | d+1,j,seen,h,hs,H=>by
    have hj:j<(rd_T49 l i).f0.length:=by omega
    have hw:=qc j _ hj (by omega)
    have hm:=hr _ (qz (rd_T49 l i).f0 j hj)
    rw [qi _ j hj,qr] at H
    have ih:=qc5 l i hi hl hv hr r d (j+1) (seen.set (rd (rd_T49 l i).f0 j).toNat true) (by omega) (by rw [List.length_set];exact hs) H
    exact Ev.step (fun k=>by rw [ancepsref40_Vars.l1,if_pos (by omega),if_pos (by omega),if_pos (by omega),if_pos (by omega),if_pos (by omega),if_pos (by omega),hw]) ih
theorem qba (seen:List Bool) (hs:seen.length=24):∀ (d v:Nat) (acc:List Int),v+d=24→acc.length≤v→Ev (fun k=>ancepsref40_Vars.l2 k seen acc v) (acc++flt (fun m=>rdOf false seen (m:Int)) d v)
  | 0,v,acc,h,ha=>by
    exact Ev.step (f:=fun _=>some acc) (fun k=>by rw [ancepsref40_Vars.l2,if_neg (by omega)]) (by simpa [flt] using Ev.now _)
  | d+1,v,acc,h,ha=>by
    have hw:wrap64 ((v:Int)+1)=((v+1:Nat):Int):=by rw [qe _ (by omega)];omega
    rw [flt]
    by_cases e:rdOf false seen (v:Int)=true
    · have ih:=qba seen hs d (v+1) (acc++[(v:Int)]) (by omega) (by simp;omega)
      rw [if_pos e]
      rw [List.append_assoc,List.singleton_append] at ih
      exact Ev.step (fun k=>by rw [ancepsref40_Vars.l2,if_pos (by omega),if_pos (by omega),if_pos (by omega),if_pos e,if_pos (by omega),hw]) ih
    · have ih:=qba seen hs d (v+1) acc (by omega) (by omega)
      rw [if_neg e]
      exact Ev.step (fun k=>by rw [ancepsref40_Vars.l2,if_pos (by omega),if_pos (by omega),if_pos (by omega),if_neg e,hw]) ih
theorem qbT (l:List S49) (h:VS l):∀ (d i:Nat) (seen:List Bool),i+d=l.length→seen.length=24→Ev (fun k=>ancepsref40_Vars.l0 k l seen i) (flt (fun m=>rdOf false (qr (flat (l.drop i)) seen) (m:Int)) 24 0)
  | 0,i,seen,hd,hs=>by
    rw [List.drop_eq_nil_of_le (by omega)]
    have:=qba seen hs 24 0 [] (by omega) (by simp)
    rw [List.nil_append] at this
    exact Ev.step (fun k=>by rw [ancepsref40_Vars.l0,if_neg (by omega)];rfl) this
  | d+1,i,seen,hd,hs=>by
    have hi:i<l.length:=by omega
    have hm:=h.tab _ (ql l i hi)
    have ih:=qbT l h d (i+1) (qr (rd_T49 l i).f0 seen) (by omega) (by rw [qax];exact hs)
    have hap:∀ (a b:List Int) (s:List Bool),qr (a++b) s=qr b (qr a s):=by
      intro a
      induction a with
      | nil=>intro b s;rfl
      | cons x xs ihx=>intro b s;rw [List.cons_append,qr,qr,ihx]
    rw [qs l i hi,qbS,hap]
    have key:=qc5 l i hi h.len (by have:=hm.len;omega) hm.vars' _ (rd_T49 l i).f0.length 0 seen (by omega) hs (by rw [List.drop_zero];exact ih)
    exact Ev.step (fun k=>by rw [ancepsref40_Vars.l0,if_pos (by omega)];rfl) key
theorem qbb {l:List S49} (h:VS l) (hs:Sm l):Ev (fun k=>ancepsref40_Vars.f k l) (occ l):=by
  have hl:=h.len
  refine Ev.bind (qR l hs (by omega)) (qa ((qj l).2 h) (qa (by decide) ?_))
  refine qd (qbT l h l.length 0 (List.replicate 24 false) (by omega) (by simp)) ?_
  rw [List.drop_zero]
  have h24:=qU (fun m=>rdOf false (qr (flat l) (List.replicate 24 false)) (m:Int)) 24 0 none (fun q hq=>by cases hq)
  refine Chn.same h24 h.occ.1 (fun n=>?_)
  rw [h.occ.2,qad]
  have hat:=qcr (flat l) (List.replicate 24 false) (fun v hv=>by have:=h.flat v hv;simp;omega)
  have hz:∀ m:Nat,rdOf false (List.replicate 24 false) (m:Int)=false:=by
    intro m
    unfold rdOf
    simp only [Int.toNat_natCast,List.getD_eq_getElem?_getD,List.getElem?_replicate]
    split <;> rfl
  constructor
  · rintro ⟨m,_,hm,ht,rfl⟩
    rw [hat,hz,Bool.false_or,decide_eq_true_eq] at ht
    exact ht
  · intro hn
    have:=h.flat n hn
    refine ⟨n.toNat,by omega,by omega,?_,by omega⟩
    rw [hat,hz,Bool.false_or,decide_eq_true_eq,← qg this.1]
    exact hn

theorem qbl (l:List Int) (hl:(l.length:Int)≤9223372036854775807) (x:Int):∀ (d i:Nat),i+d=l.length→∃ q:Int,Ev (fun k=>slices_Index_int_int.l0 k l x l.length i) q∧decide (q≥0)=decide (x∈l.drop i)
  | 0,i,h=>by
    rw [List.drop_eq_nil_of_le (by omega)]
    exact ⟨-1,Ev.step (f:=fun _=>some (-1)) (fun k=>by rw [slices_Index_int_int.l0,if_neg (by omega)]) (Ev.now _),by simp⟩
  | d+1,i,h=>by
    have hi:i<l.length:=by omega
    have hw:=qc i l.length hi hl
    obtain ⟨q,hq,hq2⟩:=qbl l hl x d (i+1) (by omega)
    rw [qi l i hi]
    by_cases e:x=rd l i
    · exact ⟨i,Ev.step (f:=fun _=>some (i:Int)) (fun k=>by rw [slices_Index_int_int.l0,if_pos (by omega),if_pos (by omega),if_pos (by omega),if_pos e]) (Ev.now _),decide_eq_decide.2 ⟨fun _=>by rw [e];exact List.mem_cons_self,fun _=>by omega⟩⟩
    · refine ⟨q,Ev.step (fun k=>by rw [slices_Index_int_int.l0,if_pos (by omega),if_pos (by omega),if_pos (by omega),if_neg e,hw]) hq,?_⟩
      rw [hq2,decide_eq_decide,List.mem_cons]
      exact ⟨.inr,fun h=>by rcases h with h|h;exact absurd h e;exact h⟩
theorem qaa (l:List Int) (hl:(l.length:Int)≤9223372036854775807) (x:Int):Ev (fun k=>slices_Contains_int_int.f k l x) (decide (x∈l)):=by
  obtain ⟨q,hq,hq2⟩:=qbl l hl x l.length 0 (by omega)
  rw [List.drop_zero] at hq2
  rw [← hq2]
  exact Ev.bind hq (Ev.now _)

theorem qaW (a b:Nat) (ha:a<2 ^ 62) (hb:b<2 ^ 62):Go.bits .andNot .i64 (a:Int) (b:Int)=((a&&& (a ^^^ b):Nat):Int):=by
  have h62:(2:Nat) ^ 62=4611686018427387904:=by decide
  have h64:(2:Nat) ^ IntKind.i64.bits=18446744073709551616:=by decide
  have hx:a&&& (a ^^^ b)≤a:=Nat.and_le_left
  have ha':a % 2 ^ IntKind.i64.bits=a:=Nat.mod_eq_of_lt (by omega)
  have hb':b % 2 ^ IntKind.i64.bits=b:=Nat.mod_eq_of_lt (by omega)
  have e:∀ x y:BitVec IntKind.i64.bits,x&&& ~~~y=x&&& (x ^^^ y):=by
    intro x y
    ext i hi
    simp only [BitVec.getElem_and,BitVec.getElem_not,BitVec.getElem_xor]
    cases x[i] <;> cases y[i] <;> rfl
  simp only [Go.bits,BitVec.ofInt_natCast,e,BitVec.toNat_and,BitVec.toNat_xor,BitVec.toNat_ofNat,ha',hb']
  rw [IntKind.wrap_i64]
  omega
def qm:List Int→Nat→Nat
  | [],m=>m
  | v :: vs,m=>qm vs (m||| 2 ^ v.toNat)
theorem qB:∀ (vs:List Int) (m j:Nat),(qm vs m).testBit j=(m.testBit j||vs.any fun v=>v.toNat == j)
  | [],m,j=>by simp [qm]
  | v :: vs,m,j=>by
    rw [qm,qB vs,Nat.testBit_or,Nat.testBit_two_pow,List.any_cons,Bool.or_assoc]
    congr 1
theorem qc6:∀ (vs:List Int) (m:Nat),(∀ v,v∈vs→0≤v∧v<24)→m<2 ^ 24→qm vs m<2 ^ 24
  | [],m,_,h=>h
  | v :: vs,m,hv,h=>qc6 vs _ (fun x hx=>hv x (List.mem_cons_of_mem _ hx)) (Nat.or_lt_two_pow h (Nat.pow_lt_pow_right (by decide) (by have:=hv v List.mem_cons_self;omega)))
theorem qbm {hi:Int} {vs:List Int} (h:Chn hi none vs) (a j:Nat):(asg vs (row vs a)).testBit j=(a.testBit j&&(qm vs 0).testBit j):=by
  rw [qB,Nat.zero_testBit,Bool.false_or,Bool.eq_iff_iff,qu h,Bool.and_eq_true,List.any_eq_true]
  constructor
  · rintro ⟨m,v,hv,rfl,hb⟩
    obtain ⟨u,hu,hb⟩:=(qo vs a m).1 hb
    rw [hv] at hu
    injection hu with hu
    exact ⟨by rw [hu];exact hb,v,List.mem_of_getElem? hv,by simp⟩
  · rintro ⟨hb,v,hv,e⟩
    obtain ⟨i,hi2⟩:=List.getElem?_of_mem hv
    have e2:v.toNat=j:=by simpa using e
    exact ⟨i,v,hi2,e2.symm,(qo vs a i).2 ⟨v,hi2,by rw [e2];exact hb⟩⟩
theorem qdi {hi:Int} {vs:List Int} (h:Chn hi none vs) (a:Nat):asg vs (row vs a)=a↔a&&& (a ^^^ qm vs 0)=0:=by
  constructor
  · intro e
    apply Nat.eq_of_testBit_eq
    intro j
    have:=qbm h a j
    rw [e] at this
    rw [Nat.testBit_and,Nat.testBit_xor,Nat.zero_testBit]
    revert this
    cases a.testBit j <;> cases (qm vs 0).testBit j <;> simp
  · intro e
    apply Nat.eq_of_testBit_eq
    intro j
    rw [qbm h]
    have:=congrArg (fun z=>z.testBit j) e
    simp only [Nat.testBit_and,Nat.testBit_xor,Nat.zero_testBit] at this
    revert this
    cases a.testBit j <;> cases (qm vs 0).testBit j <;> simp
theorem qbn (l:List S49) (vs:List Int) (hv:∀ v,v∈vs→0≤v∧v<24) (hl:vs.length≤24) (a:Int) (r:Bool):∀ (d i m:Nat),i+d=vs.length→m<2 ^ 24→
    Ev (fun k=>if (Go.bits .andNot .i64 a ((qm (vs.drop i) m:Nat):Int))=0 then ((api_Table_solve_Holds_1.f k l a).bind fun t=>(some (!t))) else (some false)) r→Ev (fun k=>solve_Holds.l0 k l (m:Int) vs vs.length i a) r
  | 0,i,m,h,hm,H=>by
    rw [List.drop_eq_nil_of_le (by omega)] at H
    exact Ev.step (fun k=>by rw [solve_Holds.l0,if_neg (by omega)];rfl) H
  | d+1,i,m,h,hm,H=>by
    have hi:i<vs.length:=by omega
    have hw:=qc i vs.length hi (by omega)
    have h1:=hv _ (qz vs i hi)
    rw [qi vs i hi,qm] at H
    have ih:=qbn l vs hv hl a r d (i+1) _ (by omega) (Nat.or_lt_two_pow hm (Nat.pow_lt_pow_right (by decide) (by omega))) H
    refine Ev.step (fun k=>?_) ih
    rw [solve_Holds.l0,if_pos (by omega),if_pos (by omega),if_pos (by omega),if_pos (by omega),hw]
    have e:=qar (rd vs i).toNat (by omega)
    rw [← qg h1.1] at e
    have hp:2 ^ (rd vs i).toNat<2 ^ 24:=Nat.pow_lt_pow_right (by decide) (by omega)
    have hw2:∀ z:Int,0≤z→z<2 ^ 62→IntKind.i64.wrap z=z:=fun z h0 h1=>by
      rw [IntKind.wrap_i64]
      have:(2:Int) ^ 62=4611686018427387904:=by decide
      omega
    have h62:(2:Nat) ^ 24≤2 ^ 62:=by decide
    rw [e,(bits_nat .i64 62 (by decide) hw2 m _ (by omega) (by omega)).2]
theorem qbo {l:List S49} (h:VS l) (a:Nat) (ha:a<2 ^ 24):∀ (d i:Nat),i+d=l.length→∃ q:Int,Ev (fun k=>api_Table_solve_Holds_1_v2.l0 k l l.length i (a:Int)) q∧decide (q≥0)=(l.drop i).any fun t=>!hs t.f0 t.f1 a
  | 0,i,hd=>by
    rw [List.drop_eq_nil_of_le (by omega)]
    exact ⟨-1,Ev.step (f:=fun _=>some (-1)) (fun k=>by rw [api_Table_solve_Holds_1_v2.l0,if_neg (by omega)]) (Ev.now _),rfl⟩
  | d+1,i,hd=>by
    have hi:i<l.length:=by omega
    have hl:=h.len
    have hw:=qc i l.length hi (by omega)
    have hm:=h.tab _ (ql l i hi)
    have hr:=hm.rows_len
    obtain ⟨q,hq,hq2⟩:=qbo h a ha d (i+1) (by omega)
    have h1:Ev (fun k=>solve_Holds_1_v1.f k (rd_T49 l i).f0 (rd_T49 l i).f1 (a:Int)) (!hs (rd_T49 l i).f0 (rd_T49 l i).f1 a):=
      Ev.bind (qbF _ _ hm.vars' (by have:=hm.len;omega) a (Nat.lt_of_lt_of_le ha (by decide))) (Ev.bind (qaa _ (by omega) _) (Ev.now _))
    rw [qs l i hi,List.any_cons]
    by_cases e:(!hs (rd_T49 l i).f0 (rd_T49 l i).f1 a)=true
    · rw [e] at h1 ⊢
      exact ⟨i,Ev.step (fun k=>by rw [api_Table_solve_Holds_1_v2.l0,if_pos (by omega),if_pos (by omega),if_pos (by omega)]) (Ev.bind h1 (qa rfl (Ev.now _))),by rw [Bool.true_or];exact decide_eq_true (by omega)⟩
    · rw [Bool.not_eq_true] at e
      rw [e] at h1 ⊢
      exact ⟨q,Ev.step (fun k=>by rw [api_Table_solve_Holds_1_v2.l0,if_pos (by omega),if_pos (by omega),if_pos (by omega),hw]) (Ev.bind h1 (qb Bool.false_ne_true hq)),by rw [Bool.false_or];exact hq2⟩
theorem qbp {l:List S49} (h:VS l) (a:Nat):∀ (d i:Nat),i+d=l.length→Ev (fun k=>ancepsref40_Holds.l0 k l (a:Int) i) ((l.drop i).all fun t=>hs t.f0 t.f1 a)
  | 0,i,hd=>by
    rw [List.drop_eq_nil_of_le (by omega)]
    exact Ev.step (f:=fun _=>some true) (fun k=>by rw [ancepsref40_Holds.l0,if_neg (by omega)]) (Ev.now _)
  | d+1,i,hd=>by
    have hi:i<l.length:=by omega
    have hl:=h.len
    have hw:=qc i l.length hi (by omega)
    have hm:=h.tab _ (ql l i hi)
    have ih:=qbp h a d (i+1) (by omega)
    rw [qs l i hi,List.all_cons]
    refine Ev.step (fun k=>by rw [ancepsref40_Holds.l0,if_pos (by omega),if_pos (by omega),hw]) (Ev.bind (qcp hm a) ?_)
    cases hs (rd_T49 l i).f0 (rd_T49 l i).f1 a
    · exact qb Bool.false_ne_true (Ev.now _)
    · exact qa rfl (by simpa using ih)
def hsS (l:List S49) (a:Nat):Bool:=decide (asg (occ l) (row (occ l) a)=a)&&l.all fun t=>hs t.f0 t.f1 a
def hld (l:List S49) (a:Int):Bool:=if qX l=0 then if a<0 then false else if a≥16777216 then false else hsS l a.toNat else false
theorem VS.occ' {l:List S49} (h:VS l):∀ v,v∈Pure.occ l→0≤v∧v<24:=fun v hv=>by have:=h.occ.1.mem v hv;omega
theorem VS.occ_len {l:List S49} (h:VS l):(Pure.occ l).length≤24:=by have:=h.occ.1.len (by decide);omega
theorem qcs (l:List S49) (hs':Sm l) (hl:l.length≤1000) (a:Int):Ev (fun k=>solve_Holds.f k l a) (hld l a):=by
  refine Ev.bind (qE l hs' hl) (qf (fun h=>qf (fun _=>Ev.now _) (fun h0=>?_)) (fun _=>Ev.now _))
  have hv:=(qj l).1 h
  by_cases h1:a≥16777216
  · rw [if_pos h1];exact qa h1 (Ev.now _)
  · rw [if_neg h1]
    refine qb h1 (Ev.bind (qaw l hs' hl) ?_)
    have h24:(2:Nat) ^ 24=16777216:=by decide
    have ha:a.toNat<2 ^ 24:=by omega
    refine qbn l (occ l) hv.occ' hv.occ_len a _ (occ l).length 0 0 (by omega) (by decide) ?_
    rw [List.drop_zero]
    have hm:=qc6 (occ l) 0 hv.occ' (by decide)
    have e:Go.bits .andNot .i64 a ((qm (occ l) 0:Nat):Int)=((a.toNat&&& (a.toNat ^^^ qm (occ l) 0):Nat):Int):=by
      have:=qaW a.toNat (qm (occ l) 0) (Nat.lt_of_lt_of_le ha (by decide)) (Nat.lt_of_lt_of_le hm (by decide))
      rw [← qg (by omega)] at this
      exact this
    have iff:=qdi hv.occ.1 a.toNat
    unfold hsS
    by_cases c:asg (occ l) (row (occ l) a.toNat)=a.toNat
    · have c2:=iff.1 c
      rw [decide_eq_true c,Bool.true_and]
      refine qa (by rw [e,c2];rfl) ?_
      obtain ⟨q,hq,hq2⟩:=qbo hv a.toNat ha l.length 0 (by omega)
      rw [← qg (by omega),List.drop_zero] at *
      refine Ev.bind (show Ev (fun k=>api_Table_solve_Holds_1.f k l a) (decide (q≥0)) from Ev.bind hq (Ev.now _)) ?_
      rw [hq2]
      refine qd (Ev.now _) ?_
      rw [List.any_eq_not_all_not,Bool.not_not]
      (try simp only [Bool.not_not])
    · rw [decide_eq_false c,Bool.false_and]
      refine qb (fun h2=>c (iff.2 ?_)) (Ev.now _)
      rw [e] at h2
      exact_mod_cast h2
theorem qct (l:List S49) (hs':Sm l) (hl:l.length≤1000) (a:Int):Ev (fun k=>ancepsref40_Holds.f k l a) (hld l a):=by
  refine Ev.bind (qR l hs' hl) (qf (fun h=>qf (fun _=>Ev.now _) (fun h0=>?_)) (fun _=>Ev.now _))
  have hv:=(qj l).1 h
  by_cases h1:a≥16777216
  · rw [if_pos h1];exact qa h1 (Ev.now _)
  · rw [if_neg h1]
    refine qb h1 (Ev.bind (qbb hv hs') ?_)
    have hr:=qc2 (occ l) hv.occ' hv.occ_len a.toNat
    rw [← qg (by omega)] at hr
    refine Ev.bind hr (Ev.bind (qbE hv.occ.1 hv.occ_len _) ?_)
    unfold hsS
    by_cases c:asg (occ l) (row (occ l) a.toNat)=a.toNat
    · rw [decide_eq_true c,Bool.true_and]
      refine qa (by rw [c];omega) ?_
      have:=qbp hv a.toNat l.length 0 (by omega)
      rw [← qg (by omega),List.drop_zero] at this
      exact this
    · rw [decide_eq_false c,Bool.false_and]
      exact qb (by omega) (Ev.now _)
def fl (t:S49) (C V:Nat):Bool:=!(t.f1.any fun r=>r.toNat&&& row t.f0 C == row t.f0 V)
theorem w62:∀ z:Int,0≤z→z<2 ^ 62→IntKind.i64.wrap z=z:=fun z h0 h1=>by
  rw [IntKind.wrap_i64]
  have:(2:Int) ^ 62=4611686018427387904:=by decide
  omega
theorem qbU (rs:List Int) (hl:(rs.length:Int)≤9223372036854775807) (hr:∀ r,r∈rs→0≤r∧r.toNat<2 ^ 62) (m w:Nat) (hm:m<2 ^ 62):∀ (d i:Nat),i+d=rs.length→
    ∃ q:Int,Ev (fun k=>slices_IndexFunc_int_int_solve_choices_fails_1.l0 k rs rs.length i (m:Int) (w:Int)) q∧decide (q≥0)=(rs.drop i).any fun r=>r.toNat&&& m == w
  | 0,i,h=>by
    rw [List.drop_eq_nil_of_le (by omega)]
    exact ⟨-1,Ev.step (f:=fun _=>some (-1)) (fun k=>by rw [slices_IndexFunc_int_int_solve_choices_fails_1.l0,if_neg (by omega)]) (Ev.now _),rfl⟩
  | d+1,i,h=>by
    have hi:i<rs.length:=by omega
    have hw:=qc i rs.length hi hl
    obtain ⟨q,hq,hq2⟩:=qbU rs hl hr m w hm d (i+1) (by omega)
    have h1:=hr _ (qz rs i hi)
    have hb:=(bits_nat .i64 62 (by decide) w62 (rd rs i).toNat m h1.2 hm).1
    rw [← qg h1.1] at hb
    have hf:solve_choices_fails_1_v1.f (rd rs i) (m:Int) (w:Int)=some ((rd rs i).toNat&&& m == w):=by
      unfold solve_choices_fails_1_v1.f
      rw [hb]
      congr 1
      rw [Bool.eq_iff_iff,beq_iff_eq,beq_iff_eq]
      omega
    rw [qi rs i hi,List.any_cons]
    by_cases e:((rd rs i).toNat&&& m == w)=true
    · rw [e] at hf ⊢
      exact ⟨i,Ev.step (fun k=>by rw [slices_IndexFunc_int_int_solve_choices_fails_1.l0,if_pos (by omega),if_pos (by omega),if_pos (by omega),hf];rfl) (Ev.now (i:Int)),by rw [Bool.true_or];exact decide_eq_true (by omega)⟩
    · rw [Bool.not_eq_true] at e
      rw [e] at hf ⊢
      exact ⟨q,Ev.step (fun k=>by rw [slices_IndexFunc_int_int_solve_choices_fails_1.l0,if_pos (by omega),if_pos (by omega),if_pos (by omega),hf,hw];rfl) hq,by rw [Bool.false_or];exact hq2⟩
theorem p62 {a n:Nat} (h:a<2 ^ n) (hn:n≤62):a<2 ^ 62:=Nat.lt_of_lt_of_le h (Nat.pow_le_pow_right (by decide) hn)
theorem qcu {t:S49} (h:VT t.f0 t.f1) (C V:Nat) (hC:C<2 ^ 24) (hV:V<2 ^ 24):Ev (fun k=>solve_choices_fails.f k (C:Int) (V:Int) t.f0 t.f1) (fl t C V):=by
  have hl:=h.len
  have hr:=h.rows_len
  refine Ev.bind (qbF _ _ h.vars' (by omega) C (p62 hC (by decide) |> fun _=>Nat.lt_of_lt_of_le hC (by decide))) (Ev.bind (qbF _ _ h.vars' (by omega) V (Nat.lt_of_lt_of_le hV (by decide))) ?_)
  obtain ⟨q,hq,hq2⟩:=qbU t.f1 (by omega) (fun r hr=>⟨(h.row_of hr).1,p62 (h.row_of hr).2.1 (by omega)⟩) (row t.f0 C) (row t.f0 V) (p62 (qbk _ _) (by omega)) t.f1.length 0 (by omega)
  rw [List.drop_zero] at hq2
  refine Ev.bind (show Ev (fun k=>slices_ContainsFunc_int_int_solve_choices_fails_1.f k t.f1 ((row t.f0 C:Nat):Int) ((row t.f0 V:Nat):Int)) (decide (q≥0)) from Ev.bind hq (Ev.now _)) ?_
  rw [hq2]
  exact Ev.now _
def ffl (C V:Nat):List S49→Nat→Int
  | [],_=>-1
  | t :: ts,i=>if fl t C V=true then (i:Int) else ffl C V ts (i+1)
theorem qbG (C V:Nat):∀ (l:List S49) (i:Nat),0≤ffl C V l i↔(l.any fun t=>fl t C V)=true
  | [],i=>by simp [ffl]
  | t :: ts,i=>by
    have ih:=qbG C V ts (i+1)
    rw [ffl,List.any_cons]
    by_cases h:fl t C V=true
    · rw [if_pos h,h];simp
    · rw [if_neg h,ih];rw [Bool.not_eq_true] at h;rw [h,Bool.false_or]
theorem qay {l:List S49} (h:VS l) (C V:Nat) (hC:C<2 ^ 24) (hV:V<2 ^ 24):∀ (d i:Nat),i+d=l.length→Ev (fun k=>api_Table_solve_choices_fails.l0 k l l.length i (C:Int) (V:Int)) (ffl C V (l.drop i) i)
  | 0,i,hd=>by
    rw [List.drop_eq_nil_of_le (by omega)]
    exact Ev.step (f:=fun _=>some (-1)) (fun k=>by rw [api_Table_solve_choices_fails.l0,if_neg (by omega)]) (Ev.now _)
  | d+1,i,hd=>by
    have hi:i<l.length:=by omega
    have hl:=h.len
    have hw:=qc i l.length hi (by omega)
    have ih:=qay h C V hC hV d (i+1) (by omega)
    rw [qs l i hi,ffl]
    refine Ev.step (fun k=>by rw [api_Table_solve_choices_fails.l0,if_pos (by omega),if_pos (by omega),if_pos (by omega),hw]) (Ev.bind (qcu (h.tab _ (ql l i hi)) C V hC hV) ?_)
    exact qf (fun _=>Ev.now _) (fun _=>ih)
theorem qbq {l:List S49} (h:VS l) (C V:Nat) (hC:C<2 ^ 24) (hV:V<2 ^ 24):Ev (fun k=>solve_choices_failing.f k (C:Int) (V:Int) l) (ffl C V l 0):=by
  have:=qay h C V hC hV l.length 0 (by omega)
  rw [List.drop_zero] at this
  exact Ev.bind this (Ev.now _)
def wC (C:Nat) (v:Int):Nat:=C||| 2 ^ v.toNat
def wV (V:Nat) (v:Int) (b:Bool):Nat:=(V&&& (V ^^^ 2 ^ v.toNat))||| b.toNat * 2 ^ v.toNat
theorem qca {C:Nat} {v:Int} (h:C<2 ^ 24) (h0:0≤v) (h1:v<24):wC C v<2 ^ 24:=Nat.or_lt_two_pow h (Nat.pow_lt_pow_right (by decide) (by omega))
theorem qcb {V:Nat} {v:Int} (b:Bool) (h:V<2 ^ 24) (h0:0≤v) (h1:v<24):wV V v b<2 ^ 24:=by
  have hp:2 ^ v.toNat<2 ^ 24:=Nat.pow_lt_pow_right (by decide) (by omega)
  refine Nat.or_lt_two_pow (Nat.lt_of_le_of_lt Nat.and_le_left h) ?_
  cases b
  · simp
  · simpa using hp
theorem qaz (C:Nat) (v:Int) (j:Nat):(wC C v).testBit j=(C.testBit j||v.toNat == j):=by
  unfold wC
  rw [Nat.testBit_or,Nat.testBit_two_pow]
  congr 1
theorem qaf (V:Nat) (v:Int) (b:Bool) (j:Nat):(wV V v b).testBit j=((V.testBit j&&!(v.toNat == j))||(b&&v.toNat == j)):=by
  unfold wV
  rw [Nat.testBit_or,Nat.testBit_and,Nat.testBit_xor,Nat.testBit_two_pow]
  have h1:(b.toNat * 2 ^ v.toNat).testBit j=(b&&v.toNat == j):=by
    cases b
    · simp
    · simp only [Bool.toNat_true,Nat.one_mul,Nat.testBit_two_pow,Bool.true_and]
      rfl
  rw [h1]
  congr 1
  have e:decide (v.toNat=j)=(v.toNat == j):=rfl
  rw [e]
  cases V.testBit j <;> cases (v.toNat == j) <;> rfl
theorem qaR {C V:Nat} {v:Int} (b:Bool) (hC:C<2 ^ 24) (hV:V<2 ^ 24) (h0:0≤v) (h1:v<24):solve_choices_with.f (C:Int) (V:Int) v ((b.toNat:Nat):Int)=some (((wC C v:Nat):Int),((wV V v b:Nat):Int)):=by
  unfold solve_choices_with.f
  rw [if_pos h0]
  have hp:2 ^ v.toNat<2 ^ 24:=Nat.pow_lt_pow_right (by decide) (by omega)
  have e1:=qar v.toNat (by omega)
  rw [← qg h0] at e1
  have e2:shl .i64 ((b.toNat:Nat):Int) v=((b.toNat * 2 ^ v.toNat:Nat):Int):=by
    cases b
    · simp only [Bool.toNat_false,Nat.zero_mul]
      unfold shl
      rw [show ((0:Nat):Int)=0 from rfl,Int.zero_mul]
      rfl
    · simp only [Bool.toNat_true,Nat.one_mul]
      exact e1
  have hbp:b.toNat * 2 ^ v.toNat<2 ^ 24:=by
    cases b
    · simp
    · simpa using hp
  have k1:=(bits_nat .i64 62 (by decide) w62 C (2 ^ v.toNat) (p62 hC (by decide)) (p62 hp (by decide))).2
  have k2:=qaW V (2 ^ v.toNat) (p62 hV (by decide)) (p62 hp (by decide))
  have k3:=(bits_nat .i64 62 (by decide) w62 (V&&& (V ^^^ 2 ^ v.toNat)) (b.toNat * 2 ^ v.toNat) (p62 (Nat.lt_of_le_of_lt Nat.and_le_left hV) (by decide)) (p62 hbp (by decide))).2
  rw [e1,e2,k1,k2,k3]
  rfl
def qaA (l:List S49):List Int→Nat→Nat→List Int
  | [],C,V=>if (l.any fun t=>fl t C V)=true then [] else [(V:Int)]
  | v :: us,C,V=>if (l.any fun t=>fl t C V)=true then [] else qaA l us (wC C v) (wV V v false)++qaA l us (wC C v) (wV V v true)
theorem qaB {l:List S49} (h:VS l):∀ (us:List Int) (C V:Nat),C<2 ^ 24→V<2 ^ 24→us.length≤24→(∀ v,v∈us→0≤v∧v<24)→Ev (fun k=>solve_search.f k l us.reverse (C:Int) (V:Int)) (qaA l us C V)
  | [],C,V,hC,hV,hl,hv=>by
    refine Ev.step (fun k=>by rw [solve_search.f]) (Ev.bind (qbq h C V hC hV) ?_)
    have hn:=qbG C V l 0
    rw [qaA]
    by_cases e:(l.any fun t=>fl t C V)=true
    · rw [if_pos e];exact qa (hn.2 e) (Ev.now _)
    · rw [if_neg e];exact qb (fun h2=>e (hn.1 h2)) (qa rfl (Ev.now _))
  | v :: us,C,V,hC,hV,hl,hv=>by
    refine Ev.step (fun k=>by rw [solve_search.f]) (Ev.bind (qbq h C V hC hV) ?_)
    have hn:=qbG C V l 0
    have h1:=hv v List.mem_cons_self
    rw [List.length_cons] at hl
    rw [qaA]
    by_cases e:(l.any fun t=>fl t C V)=true
    · rw [if_pos e];exact qa (hn.2 e) (Ev.now _)
    · rw [if_neg e]
      have hlen:((v :: us).reverse.length:Int)=(us.length:Int)+1:=by simp
      have hwr:wrap64 (((v :: us).reverse.length:Int) - 1)=(us.length:Int):=by rw [hlen,qe _ (by omega)];omega
      have hrd:rd (v :: us).reverse (us.length:Int)=v:=by
        unfold rd
        simp [List.getD]
      have htk:(v :: us).reverse.take ((us.length:Int)).toNat=us.reverse:=by
        rw [List.reverse_cons,Int.toNat_natCast,List.take_append_of_le_length (by simp),List.take_of_length_le (by simp)]
      have ih0:=qaB h us (wC C v) (wV V v false) (qca hC h1.1 h1.2) (qcb false hV h1.1 h1.2) (by omega) (fun x hx=>hv x (List.mem_cons_of_mem _ hx))
      have ih1:=qaB h us (wC C v) (wV V v true) (qca hC h1.1 h1.2) (qcb true hV h1.1 h1.2) (by omega) (fun x hx=>hv x (List.mem_cons_of_mem _ hx))
      have w0:=qaR (v:=v) false hC hV h1.1 h1.2
      have w1:=qaR (v:=v) true hC hV h1.1 h1.2
      refine qb (fun h2=>e (hn.1 h2)) (qb (by omega) ?_)
      rw [hwr,hrd,htk]
      refine qa (by omega) (qa (by omega) (qa (by omega) ?_))
      rw [show (0:Int)=((false.toNat:Nat):Int) from rfl,w0]
      refine Ev.bind (Ev.now _) (Ev.bind ih0 ?_)
      rw [show (1:Int)=((true.toNat:Nat):Int) from rfl,w1]
      exact Ev.bind (Ev.now _) (Ev.bind ih1 (Ev.now _))
theorem qd8 {t:S49} (h:VT t.f0 t.f1) {C V:Nat} (hc:∀ w,w∈t.f0→C.testBit w.toNat=true):fl t C V=!hs t.f0 t.f1 V:=by
  unfold fl hs
  congr 1
  rw [Bool.eq_iff_iff,List.any_eq_true,decide_eq_true_eq]
  have key:∀ r:Nat,r<2 ^ t.f0.length→r&&& row t.f0 C=r:=by
    intro r hr
    apply Nat.eq_of_testBit_eq
    intro j
    rw [Nat.testBit_and]
    by_cases hj:j<t.f0.length
    · have:(row t.f0 C).testBit j=true:=(qo _ _ _).2 ⟨_,List.getElem?_eq_getElem hj,hc _ (List.getElem_mem hj)⟩
      rw [this,Bool.and_true]
    · rw [Nat.testBit_lt_two_pow (Nat.lt_of_lt_of_le hr (Nat.pow_le_pow_right (by decide) (by omega))),Bool.false_and]
  constructor
  · rintro ⟨r,hr,e⟩
    have hro:=h.row_of hr
    rw [key _ hro.2.1,beq_iff_eq] at e
    rw [← e,← qg hro.1];exact hr
  · intro hm
    exact ⟨_,hm,by rw [Int.toNat_natCast,key _ (qbk _ _)];simp⟩
theorem qcv {t:S49} {C V a:Nat} (hf:fl t C V=true) (ha:∀ w,w∈t.f0→V.testBit w.toNat=(a.testBit w.toNat&&C.testBit w.toNat)):hs t.f0 t.f1 a=false:=by
  rw [Bool.eq_false_iff]
  intro hh
  unfold fl at hf
  rw [Bool.not_eq_true',List.any_eq_false] at hf
  have hm:((row t.f0 a:Nat):Int)∈t.f1:=by simpa [hs] using hh
  refine hf _ hm ?_
  rw [Int.toNat_natCast,beq_iff_eq]
  apply Nat.eq_of_testBit_eq
  intro j
  rw [Nat.testBit_and,Bool.eq_iff_iff,Bool.and_eq_true,qo,qo,qo]
  constructor
  · rintro ⟨⟨v,hv,h1⟩,u,hu,h2⟩
    rw [hv] at hu
    injection hu with hu
    subst hu
    exact ⟨v,hv,by rw [ha v (List.mem_of_getElem? hv),h1,h2];rfl⟩
  · rintro ⟨v,hv,h1⟩
    rw [ha v (List.mem_of_getElem? hv),Bool.and_eq_true] at h1
    exact ⟨⟨v,hv,h1.1⟩,v,hv,h1.2⟩
def sat (l:List S49) (a:Nat):Bool:=l.all fun t=>hs t.f0 t.f1 a
def sl (l:List S49) (us:List Int) (V:Nat):List Nat:=((List.range (2 ^ us.length)).map fun i=>asg us i||| V).filter (sat l)
theorem qbc {hi:Int}:∀ {us ws:List Int} {p:Option Int},Chn hi p (us++ws)→Chn hi p us
  | [],_,_,_=>trivial
  | _ :: us,ws,_,⟨h0,h1,h2,h3⟩=>⟨h0,h1,h2,qbc h3⟩
theorem qcw {hi:Int} {us:List Int} {v:Int} (h:Chn hi none (us++[v])) (i:Nat) (V:Nat) :
    (i<2 ^ us.length→asg (us++[v]) i||| V=asg us i||| V)∧(i<2 ^ us.length→asg (us++[v]) (2 ^ us.length+i)||| V=asg us i||| (V||| 2 ^ v.toNat)):=by
  have hu:=qbc h
  have gl:∀ (m:Nat) (w:Int),(us++[v])[m]?=some w↔us[m]?=some w∨(m=us.length∧w=v):=by
    intro m w
    by_cases hm:m<us.length
    · rw [List.getElem?_append_left hm]
      exact ⟨.inl,fun hh=>hh.elim id (fun ⟨e,_⟩=>by omega)⟩
    · rw [List.getElem?_append_right (by omega),List.getElem?_eq_none (by omega:us.length≤m)]
      by_cases e:m=us.length
      · subst e;simp [eq_comm]
      · rw [List.getElem?_eq_none (by simp;omega)];simp [e]
  have gb:∀ m,us[m]?≠none→m<us.length:=fun m hm=>by
    rcases Nat.lt_or_ge m us.length with h|h
    · exact h
    · exact absurd (List.getElem?_eq_none h) hm
  constructor
  · intro hi2
    apply Nat.eq_of_testBit_eq
    intro j
    rw [Nat.testBit_or,Nat.testBit_or]
    congr 1
    rw [Bool.eq_iff_iff,qu h,qu hu]
    constructor
    · rintro ⟨m,w,hm,rfl,hb⟩
      rcases (gl m w).1 hm with h1|⟨rfl,rfl⟩
      · exact ⟨m,w,h1,rfl,hb⟩
      · rw [Nat.testBit_lt_two_pow hi2] at hb;exact absurd hb (by simp)
    · rintro ⟨m,w,hm,rfl,hb⟩
      exact ⟨m,w,(gl m w).2 (.inl hm),rfl,hb⟩
  · intro hi2
    have hbit:∀ m,(2 ^ us.length+i).testBit m=(i.testBit m||m == us.length):=by
      intro m
      have:=qbD true i us.length hi2 m
      simp only [Bool.toNat_true,Nat.one_mul,Bool.true_and] at this
      rw [Nat.add_comm]
      exact this
    apply Nat.eq_of_testBit_eq
    intro j
    rw [Nat.testBit_or,Nat.testBit_or,Nat.testBit_or,Nat.testBit_two_pow]
    have e:(asg (us++[v]) (2 ^ us.length+i)).testBit j=((asg us i).testBit j||decide (v.toNat=j)):=by
      rw [Bool.eq_iff_iff,qu h,Bool.or_eq_true,qu hu,decide_eq_true_eq]
      constructor
      · rintro ⟨m,w,hm,rfl,hb⟩
        rcases (gl m w).1 hm with h1|⟨rfl,rfl⟩
        · rw [hbit] at hb
          have:=gb m (by rw [h1];simp)
          rw [show (m == us.length)=false from by simp;omega,Bool.or_false] at hb
          exact .inl ⟨m,w,h1,rfl,hb⟩
        · exact .inr rfl
      · rintro (⟨m,w,hm,rfl,hb⟩|rfl)
        · exact ⟨m,w,(gl m w).2 (.inl hm),rfl,by rw [hbit,hb,Bool.true_or]⟩
        · exact ⟨us.length,v,(gl _ _).2 (.inr ⟨rfl,rfl⟩),rfl,by rw [hbit];simp⟩
    rw [e]
    cases (asg us i).testBit j <;> cases V.testBit j <;> cases decide (v.toNat=j) <;> rfl
theorem qc7 (l:List S49) {hi:Int} {us:List Int} {v:Int} (h:Chn hi none (us++[v])) (V:Nat):sl l (us++[v]) V=sl l us V++sl l us (V||| 2 ^ v.toNat):=by
  unfold sl
  rw [List.length_append,List.length_singleton,Nat.pow_succ,Nat.mul_two,List.range_add,List.map_append,List.filter_append,List.map_map]
  congr 1
  · congr 1
    exact List.map_congr_left (fun i hi2=>(qcw h i V).1 (List.mem_range.1 hi2))
  · congr 1
    exact List.map_congr_left (fun i hi2=>(qcw h i V).2 (List.mem_range.1 hi2))
theorem qO (v:Int) (ws:List Int) (j:Nat):(qm (v :: ws) 0).testBit j=((qm ws 0).testBit j||v.toNat == j):=by
  rw [qB,qB,List.any_cons,Nat.zero_testBit,Bool.false_or,Bool.false_or,Bool.or_comm]
theorem qbH {l:List S49} (h:VS l):∀ (us ws:List Int) (V:Nat),occ l=us.reverse++ws→(∀ j,V.testBit j=true→(qm ws 0).testBit j=true)→qaA l us (qm ws 0) V=(sl l us.reverse V).map fun a:Nat=>(a:Int)
  | [],ws,V,ho,hv=>by
    have hw:ws=occ l:=by simpa using ho.symm
    have e:(l.any fun t=>fl t (qm ws 0) V)=!sat l V:=by
      unfold sat
      rw [List.not_all_eq_any_not,Bool.eq_iff_iff,List.any_eq_true,List.any_eq_true]
      have hx:∀ t,t∈l→fl t (qm ws 0) V=!hs t.f0 t.f1 V:=fun t ht=>qd8 (h.tab t ht) (fun w hw2=>by
        rw [qB,Nat.zero_testBit,Bool.false_or,List.any_eq_true]
        exact ⟨w,by rw [hw,h.occ.2];exact List.mem_flatMap.2 ⟨t,ht,hw2⟩,by simp⟩)
      exact ⟨fun ⟨t,ht,h2⟩=>⟨t,ht,by rw [← hx t ht];exact h2⟩,fun ⟨t,ht,h2⟩=>⟨t,ht,by rw [hx t ht];exact h2⟩⟩
    rw [qaA,e]
    have hz:sl l [] V=if sat l V=true then [V] else []:=by
      unfold sl
      have:asg [] 0=0:=rfl
      simp only [List.length_nil,Nat.pow_zero,List.range_one,List.map_cons,List.map_nil,this,Nat.zero_or,List.filter_cons,List.filter_nil]
    rw [List.reverse_nil,hz]
    cases sat l V <;> simp
  | v :: us,ws,V,ho,hv=>by
    have ho2:occ l=us.reverse++(v :: ws):=by rw [ho];simp
    have hc:=h.occ.1
    rw [ho] at hc
    have hch:=qbc hc
    rw [List.reverse_cons] at hch
    rw [qaA]
    have hvb:V.testBit v.toNat=false:=by
      rw [Bool.eq_false_iff]
      intro hb
      have hm:=hv _ hb
      rw [qB,Nat.zero_testBit,Bool.false_or,List.any_eq_true] at hm
      obtain ⟨w,hw,e⟩:=hm
      have hw2:w.toNat=v.toNat:=by simpa using e
      have hall:=h.occ.1
      rw [ho2] at hall
      obtain ⟨m,hm⟩:=List.getElem?_of_mem hw
      have i1:(us.reverse++(v :: ws))[us.reverse.length]?=some v:=by rw [List.getElem?_append_right (by omega)];simp
      have i2:(us.reverse++(v :: ws))[us.reverse.length+(m+1)]?=some w:=by rw [List.getElem?_append_right (by omega)];simpa using hm
      have:=hall.inj _ _ _ _ i1 i2 hw2.symm
      omega
    have eC:wC (qm ws 0) v=qm (v :: ws) 0:=by
      apply Nat.eq_of_testBit_eq
      intro j
      rw [qaz,qO]
    have e0:wV V v false=V:=by
      apply Nat.eq_of_testBit_eq
      intro j
      rw [qaf,Bool.false_and,Bool.or_false]
      by_cases e:v.toNat=j
      · subst e;rw [hvb,Bool.false_and]
      · have:(v.toNat == j)=false:=by simpa using e
        rw [this];simp
    have e1:wV V v true=V||| 2 ^ v.toNat:=by
      apply Nat.eq_of_testBit_eq
      intro j
      rw [qaf,Bool.true_and,Nat.testBit_or,Nat.testBit_two_pow]
      have e:decide (v.toNat=j)=(v.toNat == j):=rfl
      rw [e]
      cases V.testBit j <;> cases (v.toNat == j) <;> rfl
    have ih0:=qbH h us (v :: ws) V ho2 (fun j hj=>by rw [qO,hv j hj,Bool.true_or])
    have ih1:=qbH h us (v :: ws) (V||| 2 ^ v.toNat) ho2 (fun j hj=>by
      rw [qO]
      rw [Nat.testBit_or,Nat.testBit_two_pow,Bool.or_eq_true] at hj
      rcases hj with hj|hj
      · rw [hv j hj,Bool.true_or]
      · have e:(v.toNat == j)=true:=hj
        rw [e,Bool.or_true])
    rw [List.reverse_cons,qc7 l hch,List.map_append,eC,e0,e1,ih0,ih1]
    by_cases e:(l.any fun t=>fl t (qm ws 0) V)=true
    · rw [if_pos e,← List.map_append,← qc7 l hch]
      obtain ⟨t,ht,hf⟩:=List.any_eq_true.1 e
      have hnil:sl l (us.reverse++[v]) V=[]:=by
        unfold sl
        rw [List.filter_eq_nil_iff]
        intro a ha
        obtain ⟨i,hi2,rfl⟩:=List.mem_map.1 ha
        have:hs t.f0 t.f1 (asg (us.reverse++[v]) i||| V)=false:=by
          refine qcv hf (fun w hw=>?_)
          rw [Nat.testBit_or]
          by_cases hm:(qm ws 0).testBit w.toNat=true
          · rw [hm,Bool.and_true]
            have:(asg (us.reverse++[v]) i).testBit w.toNat=false:=by
              rw [Bool.eq_false_iff]
              intro hb
              obtain ⟨m,u,hu,eu,_⟩:=(qu hch i _).1 hb
              rw [qB,Nat.zero_testBit,Bool.false_or,List.any_eq_true] at hm
              obtain ⟨x,hx,ex⟩:=hm
              have ex2:x.toNat=w.toNat:=by simpa using ex
              obtain ⟨n,hn⟩:=List.getElem?_of_mem hx
              have hml:m<(us.reverse++[v]).length:=(List.getElem?_eq_some_iff.1 hu).1
              have hall:=h.occ.1
              rw [ho,List.reverse_cons] at hall
              have i1:((us.reverse++[v])++ws)[m]?=some u:=by rw [List.getElem?_append_left hml];exact hu
              have i2:((us.reverse++[v])++ws)[(us.reverse++[v]).length+n]?=some x:=by rw [List.getElem?_append_right (by omega)];simpa using hn
              have:=hall.inj _ _ _ _ i1 i2 (by omega)
              omega
            rw [this,Bool.false_or]
          · rw [Bool.not_eq_true] at hm
            have hvf:V.testBit w.toNat=false:=by
              rw [Bool.eq_false_iff]
              intro hb
              rw [hv _ hb] at hm
              exact absurd hm (by simp)
            rw [hm,Bool.and_false,hvf]
        unfold sat
        rw [Bool.not_eq_true,List.all_eq_false]
        exact ⟨t,ht,by rw [this];simp⟩
      rw [hnil];rfl
    · rw [if_neg e]
def SS (l:List S49):List Int:=(sl l (occ l) 0).map fun a:Nat=>(a:Int)
theorem qcx {l:List S49} (h:VS l):Ev (fun k=>solve_search.f k l (occ l) 0 0) (SS l):=by
  have h1:=qaB h (occ l).reverse 0 0 (by decide) (by decide) (by rw [List.length_reverse];exact h.occ_len) (fun v hv=>h.occ' v (List.mem_reverse.1 hv))
  rw [List.reverse_reverse] at h1
  refine qd h1 ?_
  have:=qbH h (occ l).reverse [] 0 (by simp) (fun j hj=>by simp at hj)
  rw [List.reverse_reverse] at this
  exact this

def qY (l:List S49):Int×Int:=if qX l=0 then solve_First.of (SS l) else (0,qX l)
theorem qdt (l:List S49) (hs:Sm l) (hl:l.length≤1000):Ev (fun k=>solve_First.f k l) (qY l):=
  Ev.bind (qE l hs hl) (qf (fun h=>Ev.bind (qaw l hs hl) (Ev.bind (qcx ((qj l).1 h)) (Ev.now _))) (fun _=>Ev.now _))
theorem qaX (l:List Int) (hl:(l.length:Int)≤9223372036854775807):∀ (d i:Nat),i+d=l.length→Ev (fun k=>slices_Equal_int_int.l0 k l l l.length i) true
  | 0,i,h=>Ev.step (f:=fun _=>some true) (fun k=>by rw [slices_Equal_int_int.l0,if_neg (by omega)]) (Ev.now _)
  | d+1,i,h=>by
    have hw:=qc i l.length (by omega) hl
    exact Ev.step (fun k=>by rw [slices_Equal_int_int.l0,if_pos (by omega),if_pos (by omega),if_pos (by omega),if_pos (by omega),if_pos rfl,hw]) (qaX l hl d (i+1) (by omega))
theorem qaC (l:List Int) (hl:(l.length:Int)≤9223372036854775807):Ev (fun k=>slices_Equal_int_int.f k l l) true:=qa rfl (qaX l hl l.length 0 (by omega))

inductive Tr where
  | leaf (t:Int)
  | node (v:Int) (a b:Tr)
namespace Tr
def sz:Tr→Nat
  | leaf _=>1
  | node _ a b=>1+a.sz+b.sz
def nod:Tr→Nat→List S96
  | leaf t,_=>[⟨-1,0,0,t⟩]
  | node v a b,p=>⟨v,((p+1:Nat):Int),((p+1+a.sz:Nat):Int),0⟩ :: (a.nod (p+1)++b.nod (p+1+a.sz))
def full:Tr→Bool
  | leaf t=>decide (0≤t)
  | node _ a b=>a.full&&b.full
theorem sz_pos:∀ T:Tr,1≤T.sz
  | leaf _=>Nat.le_refl _
  | node _ a b=>by simp only [sz];omega
theorem nod_len:∀ (T:Tr) (p:Nat),(T.nod p).length=T.sz
  | leaf _,_=>rfl
  | node _ a b,p=>by simp only [nod,sz,List.length_cons,List.length_append,nod_len a,nod_len b];omega
end Tr
def Free (C V:Nat) (vs:List Int):Prop:=(∀ j,V.testBit j=true→C.testBit j=true)∧∀ v,v∈vs→C.testBit v.toNat=false
theorem Free.step {C V:Nat} {v:Int} {vs:List Int} {hi:Int} {p:Option Int} (h:Free C V (v :: vs)) (hc:Chn hi p (v :: vs)) (h0:∀ w,w∈v :: vs→0≤w) (b:Bool):Free (wC C v) (wV V v b) vs:=by
  refine ⟨fun j hj=>?_,fun w hw=>?_⟩
  · rw [qaf] at hj
    rw [qaz]
    by_cases e:v.toNat=j
    · simp [e]
    · simp [e] at hj
      rw [h.1 j hj];rfl
  · have hlt:v<w:=by
      obtain ⟨i,hi',e⟩:=List.getElem_of_mem hw
      exact hc.below 0 (i+1) v w (by omega) rfl (by simp [List.getElem?_eq_getElem hi',e])
    have h1:=h0 v (.head _)
    rw [qaz,h.2 w (.tail _ hw)]
    simp;omega
theorem qeC {C V:Nat} {v:Int} {vs:List Int} (h:Free C V (v :: vs)) (b:Bool):wV V v b=V||| b.toNat * 2 ^ v.toNat:=by
  apply Nat.eq_of_testBit_eq
  intro j
  have hv:V.testBit v.toNat=false:=by
    cases e:V.testBit v.toNat
    · rfl
    · exact absurd (h.2 v (.head _)) (by rw [h.1 _ e];decide)
  have e2:(b.toNat * 2 ^ v.toNat).testBit j=(b&&v.toNat == j):=by
    cases b
    · simp
    · rw [Bool.eq_iff_iff];simp [Nat.testBit_two_pow]
  rw [qaf,Nat.testBit_or,e2]
  by_cases e:v.toNat=j
  · subst e;simp [hv]
  · rw [show (v.toNat == j)=false by simpa using e];simp
theorem qL {t:S49} (h:VT t.f0 t.f1) {C V:Nat} (hC:C<2 ^ 24) (hV:V<2 ^ 24) (x5:Int) (a:Nat) (ha:a<2 ^ 24) (r:Bool):∀ (d i:Nat) (b:Bool),i+d=t.f0.length→
    ((b&&(t.f0.drop i).all fun v=>!C.testBit v.toNat||a.testBit v.toNat == V.testBit v.toNat)=true→r=false)→
    ((b&&(t.f0.drop i).all fun v=>!C.testBit v.toNat||a.testBit v.toNat == V.testBit v.toNat)=false→Ev (fun k=>ancepsref40_fails.l0 k (wrap64 (x5+1)) t.f0 t.f1 (C:Int) (V:Int)) r)→
    Ev (fun k=>ancepsref40_fails.l1 k x5 (a:Int) b i t.f0 t.f1 (C:Int) (V:Int)) r
  | 0,i,b,hi,h1,h2=>by
    rw [List.drop_eq_nil_of_le (by omega)] at h1 h2
    refine Ev.step (fun k=>by rw [ancepsref40_fails.l1,if_neg (by omega)]) ?_
    cases b
    · exact qb (by decide) (h2 rfl)
    · refine qa rfl ?_
      rw [h1 rfl]
      exact Ev.now _
  | d+1,i,b,hi,h1,h2=>by
    have hl:=h.len
    have hi':i<t.f0.length:=by omega
    have hv:=h.vars' _ (qz t.f0 i hi')
    have hw:=qc i t.f0.length hi' (by omega)
    have hs:shl .i64 1 (rd t.f0 i)=((2 ^ (rd t.f0 i).toNat:Nat):Int):=by
      have:=qar (rd t.f0 i).toNat (by omega)
      rw [← qg hv.1] at this
      exact this
    have hp:2 ^ (rd t.f0 i).toNat<2 ^ 62:=Nat.pow_lt_pow_right (by decide) (by omega)
    have ba:=fun x (hx:x<2 ^ 24)=>(bits_nat .i64 62 (by decide) w62 x (2 ^ (rd t.f0 i).toNat) (p62 hx (by decide)) hp).1
    have hb:∀ x y:Nat,(x&&& 2 ^ (rd t.f0 i).toNat=y&&& 2 ^ (rd t.f0 i).toNat)↔x.testBit (rd t.f0 i).toNat=y.testBit (rd t.f0 i).toNat:=fun x y=>by
      constructor
      · intro e
        have:=congrArg (fun z=>z.testBit (rd t.f0 i).toNat) e
        simpa [Nat.testBit_and,Nat.testBit_two_pow] using this
      · intro e
        apply Nat.eq_of_testBit_eq
        intro j
        rw [Nat.testBit_and,Nat.testBit_and,Nat.testBit_two_pow]
        by_cases e':(rd t.f0 i).toNat=j
        · rw [← e',e]
        · simp [e']
    rw [qi t.f0 i hi',List.all_cons] at h1 h2
    refine Ev.step (fun k=>by rw [ancepsref40_fails.l1,if_pos (by omega)]) ?_
    refine qa (by omega) ?_
    refine qa hv.1 ?_
    rw [hs,ba C hC,ba a ha,ba V hV,hw]
    cases b
    · refine qb (by decide) ?_
      exact qL h hC hV x5 a ha r d (i+1) false (by omega) (fun e=>by simp at e) (fun _=>h2 rfl)
    · refine qa rfl ?_
      have hc:=hb C 0
      rw [Nat.zero_and,Nat.zero_testBit] at hc
      by_cases e:C.testBit (rd t.f0 i).toNat=true
      · refine qb (fun e'=>by have:=hc.1 (by omega);rw [e] at this;cases this) ?_
        have hav:=hb a V
        refine qd (qL h hC hV x5 a ha r d (i+1) _ (by omega) (fun e2=>h1 ?_) (fun e2=>h2 ?_)) rfl
        · refine Eq.trans ?_ e2;rw [e,Bool.not_true,Bool.false_or,Bool.true_and];congr 1;rw [Bool.eq_iff_iff,beq_iff_eq,beq_iff_eq,← hav];omega
        · refine Eq.trans ?_ e2;rw [e,Bool.not_true,Bool.false_or,Bool.true_and];congr 1;rw [Bool.eq_iff_iff,beq_iff_eq,beq_iff_eq,← hav];omega
      · rw [Bool.not_eq_true] at e
        refine qa (by have:=hc.2 e;omega) ?_
        rw [e] at h1 h2
        exact qL h hC hV x5 a ha r d (i+1) true (by omega) (fun e2=>h1 (by simpa using e2)) (fun e2=>h2 (by simpa using e2))
theorem qen {t:S49} (h:VT t.f0 t.f1) {C V:Nat} (hs:∀ j,V.testBit j=true→C.testBit j=true) {x:Int} (hx:x∈t.f1):(x.toNat&&& row t.f0 C == row t.f0 V)=t.f0.all fun v=>!C.testBit v.toNat||(asg t.f0 x.toNat).testBit v.toNat == V.testBit v.toNat:=by
  have hx':=h.row_of hx
  rw [Bool.eq_iff_iff,beq_iff_eq,List.all_eq_true]
  have key:∀ m v,t.f0[m]?=some v→((x.toNat&&& row t.f0 C).testBit m=(row t.f0 V).testBit m↔(!C.testBit v.toNat||(asg t.f0 x.toNat).testBit v.toNat == V.testBit v.toNat)=true):=fun m v hm=>by
    have r1:∀ y:Nat,(row t.f0 y).testBit m=y.testBit v.toNat:=fun y=>by
      rw [Bool.eq_iff_iff,qo]
      constructor
      · rintro ⟨w,hw,hb⟩
        rw [hm] at hw;cases hw;exact hb
      · exact fun hb=>⟨v,hm,hb⟩
    have r2:(asg t.f0 x.toNat).testBit v.toNat=x.toNat.testBit m:=by
      rw [Bool.eq_iff_iff,qu h.vars]
      constructor
      · rintro ⟨m',v',hm',e,hb⟩
        have:=h.vars.inj m m' v v' hm hm' e
        subst this;exact hb
      · exact fun hb=>⟨m,v,hm,rfl,hb⟩
    rw [Nat.testBit_and,r1,r1,r2]
    have:=hs v.toNat
    revert this
    cases C.testBit v.toNat <;> cases V.testBit v.toNat <;> cases x.toNat.testBit m <;> simp
  constructor
  · intro e v hv
    obtain ⟨m,hm,e'⟩:=List.getElem_of_mem hv
    exact (key m v (by rw [List.getElem?_eq_getElem hm,e'])).1 (by rw [e])
  · intro ha
    apply Nat.eq_of_testBit_eq
    intro m
    by_cases hm:m<t.f0.length
    · exact (key m _ (List.getElem?_eq_getElem hm)).2 (ha _ (List.getElem_mem hm))
    · have r:∀ y:Nat,(row t.f0 y).testBit m=false:=fun y=>Nat.testBit_lt_two_pow (Nat.lt_of_lt_of_le (qbk _ _) (Nat.pow_le_pow_right (by decide) (by omega)))
      rw [Nat.testBit_and,r,r,Bool.and_false]
theorem qaY {t:S49} (h:VT t.f0 t.f1) {C V:Nat} (hC:C<2 ^ 24) (hV:V<2 ^ 24) (hs:∀ j,V.testBit j=true→C.testBit j=true):∀ (d i:Nat),i+d=t.f1.length→
    Ev (fun k=>ancepsref40_fails.l0 k i t.f0 t.f1 (C:Int) (V:Int)) (!((t.f1.drop i).any fun r=>r.toNat&&& row t.f0 C == row t.f0 V))
  | 0,i,hi=>by
    rw [List.drop_eq_nil_of_le (by omega)]
    refine Ev.step (fun k=>by rw [ancepsref40_fails.l0,if_neg (by omega)]) ?_
    exact Ev.now _
  | d+1,i,hi=>by
    have hr:=h.rows_len
    have hl:=h.len
    have hi':i<t.f1.length:=by omega
    have hx:=qz t.f1 i hi'
    have hw:=qc i t.f1.length hi' (by omega)
    have ih:=qaY h hC hV hs d (i+1) (by omega)
    refine Ev.step (fun k=>by rw [ancepsref40_fails.l0,if_pos (by omega)]) ?_
    refine qa (by omega) ?_
    have ea:=qbE h.vars (by omega) (rd t.f1 i).toNat
    rw [← qg (h.row_of hx).1] at ea
    refine Ev.bind ea ?_
    rw [qi t.f1 i hi',List.any_cons,qen h hs hx]
    refine qL h hC hV i _ (qek h.vars _) _ t.f0.length 0 true (by omega) (fun e=>?_) (fun e=>?_)
    · rw [List.drop_zero,Bool.true_and] at e
      rw [e,Bool.true_or,Bool.not_true]
    · rw [List.drop_zero,Bool.true_and] at e
      rw [e,Bool.false_or,hw]
      exact ih
theorem qdu {t:S49} (h:VT t.f0 t.f1) {C V:Nat} (hC:C<2 ^ 24) (hV:V<2 ^ 24) (hs:∀ j,V.testBit j=true→C.testBit j=true):Ev (fun k=>ancepsref40_fails.f k t.f0 t.f1 (C:Int) (V:Int)) (fl t C V):=
  qaY h hC hV hs t.f1.length 0 (by omega)

theorem qdL {C V:Nat} {v:Int} {vs:List Int} (b:Bool) (hC:C<2 ^ 24) (hV:V<2 ^ 24) (h:0≤v∧v<24) (hf:Free C V (v :: vs)):Ev (fun _=>ancepsref40_choices_with.f (C:Int) (V:Int) (rd (v :: vs) 0) ((b.toNat:Nat):Int)) (((wC C v:Nat):Int),((wV V v b:Nat):Int)):=by
  have e:=qaR b hC hV h.1 h.2
  rw [show rd (v :: vs) 0=v from rfl]
  have hs:shl .i64 1 v=((2 ^ v.toNat:Nat):Int):=by
    have:=qar v.toNat (by omega)
    rw [← qg h.1] at this
    exact this
  have hp:2 ^ v.toNat<2 ^ 62:=Nat.pow_lt_pow_right (by decide) (by omega)
  have hb:shl .i64 ((b.toNat:Nat):Int) v=((b.toNat * 2 ^ v.toNat:Nat):Int):=by
    cases b
    · show shl .i64 0 v=_
      have hz:shl .i64 0 v=0:=by
        have:v=((v.toNat:Nat):Int):=qg h.1
        rw [this]
        simp [shl];rfl
      rw [hz];simp
    · rw [Bool.toNat_true,Nat.one_mul];exact hs
  have hp2:b.toNat * 2 ^ v.toNat<2 ^ 62:=by
    cases b
    · simp
    · simpa using hp
  unfold ancepsref40_choices_with.f
  rw [if_pos h.1,hs,hb,(bits_nat .i64 62 (by decide) w62 C _ (p62 hC (by decide)) hp).2,(bits_nat .i64 62 (by decide) w62 V _ (p62 hV (by decide)) hp2).2,qeC hf b]
  exact Ev.now _
theorem qbV {l:List S49} (h:VS l) (most:Int) (vars out:List Int) (i a:Nat) (hi:i<16777216) (ho:out.length<17592186044416) (r:List Int):∀ (d j:Nat),j+d=l.length→
    (sat (l.drop j) a=true→Ev (fun k=>ancepsref40_solutions.l0 k l most vars (out++[(a:Int)]) ((i+1:Nat):Int)) r)→(sat (l.drop j) a=false→Ev (fun k=>ancepsref40_solutions.l0 k l most vars out ((i+1:Nat):Int)) r)→
    Ev (fun k=>ancepsref40_solutions.l1 k l most vars out i (a:Int) true j) r
  | 0,j,hd,h1,h2=>by
    rw [List.drop_eq_nil_of_le (by omega)] at h1
    have hw:wrap64 ((i:Int)+1)=((i+1:Nat):Int):=by rw [qe _ (by omega)];omega
    exact Ev.step (fun k=>by rw [ancepsref40_solutions.l1,if_neg (by omega),if_pos rfl,if_pos ho,hw]) (h1 rfl)
  | d+1,j,hd,h1,h2=>by
    have hj:j<l.length:=by omega
    have hl:=h.len
    have hw:wrap64 ((i:Int)+1)=((i+1:Nat):Int):=by rw [qe _ (by omega)];omega
    have hwj:=qc j l.length hj (by omega)
    have hm:=h.tab _ (ql l j hj)
    have e:sat (l.drop j) a=(hs (rd_T49 l j).f0 (rd_T49 l j).f1 a&&sat (l.drop (j+1)) a):=by
      unfold sat
      rw [qs l j hj,List.all_cons]
    rw [e] at h1 h2
    refine Ev.step (fun k=>by rw [ancepsref40_solutions.l1,if_pos (by omega),if_pos rfl,if_pos (by omega),hwj]) (Ev.bind (qcp hm a) ?_)
    cases c:hs (rd_T49 l j).f0 (rd_T49 l j).f1 a
    · rw [c] at h2
      have h2:=h2 rfl
      by_cases hj2:((j+1:Nat):Int)<(l.length:Int)
      · exact Ev.step (fun k=>by rw [ancepsref40_solutions.l1,if_pos hj2,if_neg Bool.false_ne_true,hw]) h2
      · exact Ev.step (fun k=>by rw [ancepsref40_solutions.l1,if_neg hj2,if_neg Bool.false_ne_true,hw]) h2
    · rw [c,Bool.true_and] at h1 h2
      exact qbV h most vars out i a hi ho r d (j+1) (by omega) h1 h2
theorem qaD {l:List S49} (h:VS l) {vars:List Int} (hc:Chn 24 none vars) (hv:vars.length≤24) (most:Nat) (hm:most≤40000000):∀ (d i:Nat) (out:List Int),i+d=2 ^ vars.length→out.length≤i→out.length≤most→
    Ev (fun k=>ancepsref40_solutions.l0 k l (most:Int) vars out i) ((out++(((List.range' i d).map fun i=>asg vars i).filter (sat l)).map fun a:Nat=>(a:Int)).take most)
  | 0,i,out,hd,ho,hom=>by
    have hs1:=qar vars.length (by omega)
    have hp:2 ^ vars.length≤16777216:=Nat.le_trans (Nat.pow_le_pow_right (by decide) hv) (by decide)
    rw [show List.range' i 0=[] from rfl,List.map_nil,List.filter_nil,List.map_nil,List.append_nil,List.take_of_length_le hom]
    exact Ev.step (f:=fun _=>some out) (fun k=>by rw [ancepsref40_solutions.l0,hs1,if_neg (by omega)]) (Ev.now _)
  | d+1,i,out,hd,ho,hom=>by
    have hs1:=qar vars.length (by omega)
    have hp:2 ^ vars.length≤16777216:=Nat.le_trans (Nat.pow_le_pow_right (by decide) hv) (by decide)
    by_cases hlt:(out.length:Int)<(most:Int)
    · refine Ev.step (fun k=>by rw [ancepsref40_solutions.l0,hs1,if_pos (by omega),if_pos hlt]) (Ev.bind (qbE hc hv i) ?_)
      rw [List.range'_succ,List.map_cons,List.filter_cons]
      refine qbV h _ vars out i (asg vars i) (by omega) (by omega) _ l.length 0 (by omega) (fun e=>?_) (fun e=>?_)
      · rw [List.drop_zero] at e
        have ih:=qaD h hc hv most hm d (i+1) (out++[((asg vars i:Nat):Int)]) (by omega) (by simp;omega) (by simp;omega)
        rw [if_pos e,List.map_cons]
        rw [List.append_assoc,List.singleton_append] at ih
        exact ih
      · rw [List.drop_zero] at e
        have ih:=qaD h hc hv most hm d (i+1) out (by omega) (by omega) hom
        rw [if_neg (by rw [e];simp)]
        exact ih
    · refine qd (Ev.step (f:=fun _=>some out) (fun k=>by rw [ancepsref40_solutions.l0,hs1,if_pos (by omega),if_neg hlt]) (Ev.now _)) ?_
      rw [List.take_append_of_le_length (by omega),List.take_of_length_le (by omega)]
theorem qd9 {l:List S49} (h:VS l) (hs:Sm l) (most:Nat) (hm:most≤40000000):Ev (fun k=>ancepsref40_solutions.f k l (most:Int)) ((SS l).take most):=by
  refine Ev.bind (qbb h hs) ?_
  have:=qaD h h.occ.1 h.occ_len most hm (2 ^ (occ l).length) 0 [] (by omega) (by simp) (by simp)
  rw [List.nil_append,← List.range_eq_range'] at this
  refine qd this ?_
  unfold SS sl
  simp only [Nat.or_zero]

theorem qdv (l:List S49) (hs:Sm l) (hl:l.length≤1000):Ev (fun k=>ancepsref40_First.f k l) (qY l):=by
  refine Ev.bind (qR l hs hl) (qf (fun h=>Ev.bind (show Ev (fun k=>ancepsref40_solutions.f k l 1) ((SS l).take 1) from qd9 ((qj l).1 h) hs 1 (by decide)) ?_) (fun _=>Ev.now _))
  cases SS l with
  | nil=>exact qa rfl (Ev.now _)
  | cons x xs=>exact qb (by simp) (qa (by simp) (Ev.now _))
def lf (L:Nat) (b:S96):Bool:=decide (b.f1=0)&&decide (b.f2=0)&&decide (0≤b.f3)&&decide (b.f3<(L:Int))
def nd (b:S96):Bool:=decide (0≤b.f0)&&decide (b.f0<24)&&decide (b.f3=0)
def mrk (n i:Nat):List Int→List Bool→Option (List Bool)
  | [],M=>some M
  | k :: ks,M=>if (i:Int)<k∧k<(n:Int)∧rdOf false M k=false then mrk n i ks (M.set k.toNat true) else none
def shp (L n:Nat):List S96→Nat→List Bool→Option (List Bool)
  | [],_,M=>some M
  | b :: bs,i,M=>if b.f0=-1 then (if lf L b=true then shp L n bs (i+1) M else none) else if nd b=true then (mrk n i [b.f1,b.f2] M).bind (shp L n bs (i+1)) else none
theorem qbI (n i:Nat):∀ (ks:List Int) (M M':List Bool),mrk n i ks M=some M'→M'.length=M.length
  | [],M,M',h=>by simp only [mrk,Option.some.injEq] at h;rw [h]
  | k :: ks,M,M',h=>by
    rw [mrk] at h
    split at h
    · rw [qbI n i ks _ M' h,List.length_set]
    · cases h
def fin:Option (List Bool)→Bool
  | none=>false
  | some M=>(M.drop 1).all id
theorem qaE (l:List S96) (i:Nat) (hi:i<l.length):l.drop i=rd_T96 l i :: l.drop (i+1):=qD l i z96 hi
theorem qbW (M:List Bool) (hl:(M.length:Int)≤9223372036854775807):∀ (d i:Nat),i+d=M.length→∃ q:Int,Ev (fun k=>slices_Index_bool_bool.l0 k M false M.length i) q∧decide (q≥0)=!(M.drop i).all id
  | 0,i,h=>by
    refine ⟨-1,?_,by rw [List.drop_eq_nil_of_le (by omega)];rfl⟩
    refine Ev.step (fun k=>by rw [slices_Index_bool_bool.l0,if_neg (by omega)]) ?_
    exact Ev.now _
  | d+1,i,h=>by
    have hi:i<M.length:=by omega
    have hw:=qc i M.length hi hl
    obtain ⟨q,hq,hq2⟩:=qbW M hl d (i+1) (by omega)
    have hd:M.drop i=rdOf false M (i:Int) :: M.drop (i+1):=qD M i false hi
    rw [hd,List.all_cons]
    cases e:rdOf false M (i:Int)
    · refine ⟨i,?_,by simp⟩
      refine Ev.step (fun k=>by rw [slices_Index_bool_bool.l0,if_pos (by omega),if_pos (by omega),if_pos (by omega),e]) ?_
      refine qa rfl ?_
      exact Ev.now _
    · refine ⟨q,?_,by rw [hq2];simp⟩
      refine Ev.step (fun k=>by rw [slices_Index_bool_bool.l0,if_pos (by omega),if_pos (by omega),if_pos (by omega),e,hw]) ?_
      refine qb (by decide) ?_
      exact hq
theorem qbr (l:List S49) (N:List S96) (hn:N.length≤2000) (i:Nat) (ks:List Int) (hk:ks.length≤2) (R:List Bool→Bool)
    (hR:∀ M,M.length=N.length→Ev (fun k=>solve_shape.l0 k l N.length M N N.length (wrap64 ((i:Int)+1))) (R M)) :
    ∀ (d j:Nat) (M:List Bool),j+d=ks.length→M.length=N.length→
    Ev (fun k=>solve_shape.l1 k l N.length M i N N.length i ks ks.length j) (match mrk N.length i (ks.drop j) M with|none=>false|some M'=>R M')
  | 0,j,M,h,hM=>by
    rw [List.drop_eq_nil_of_le (by omega)]
    refine Ev.step (fun k=>by rw [solve_shape.l1,if_neg (by omega)]) ?_
    exact hR M hM
  | d+1,j,M,h,hM=>by
    have hj:j<ks.length:=by omega
    have hw:=qc j ks.length hj (by omega)
    rw [qi ks j hj,mrk]
    refine Ev.step (fun k=>by rw [solve_shape.l1,if_pos (by omega),if_pos (by omega),if_pos (by omega)]) ?_
    by_cases h1:rd ks j≤(i:Int)
    · rw [if_neg (by omega)]
      refine qa h1 ?_
      exact Ev.now _
    refine qb h1 ?_
    by_cases h2:rd ks j≥(N.length:Int)
    · rw [if_neg (by omega)]
      refine qa h2 ?_
      exact Ev.now _
    refine qb h2 ?_
    refine qa (by omega) ?_
    refine qa (by omega) ?_
    cases h3:rdOf false M (rd ks j)
    · rw [if_pos ⟨by omega,by omega,rfl⟩]
      refine qb (by decide) ?_
      rw [hw]
      exact qbr l N hn i ks hk R hR d (j+1) _ (by omega) (by rw [List.length_set];exact hM)
    · rw [if_neg (by rintro ⟨_,_,h⟩;cases h)]
      refine qa rfl ?_
      exact Ev.now _
theorem qbs (l:List S49) (hL:l.length≤1000) (N:List S96) (hn:N.length≤2000) (h0:1≤N.length):∀ (d i:Nat) (M:List Bool),i+d=N.length→M.length=N.length→
    Ev (fun k=>solve_shape.l0 k l N.length M N N.length i) (fin (shp l.length N.length (N.drop i) i M))
  | 0,i,M,h,hM=>by
    rw [List.drop_eq_nil_of_le (by omega)]
    refine Ev.step (fun k=>by rw [solve_shape.l0,if_neg (by omega)]) ?_
    refine qa (by omega) ?_
    obtain ⟨q,hq,hq2⟩:=qbW (M.drop 1) (by rw [List.length_drop];omega) (M.drop 1).length 0 (by omega)
    refine Ev.bind (show Ev (fun k=>slices_Contains_bool_bool.f k (M.drop 1) false) (decide (q≥0)) from Ev.bind hq (Ev.now _)) ?_
    rw [hq2,List.drop_zero,Bool.not_not]
    exact Ev.now _
  | d+1,i,M,h,hM=>by
    have hi:i<N.length:=by omega
    have hw:=qc i N.length hi (by omega)
    have ih:=fun M' hM'=>qbs l hL N hn h0 d (i+1) M' (by omega) hM'
    rw [qaE N i hi,shp]
    refine Ev.step (fun k=>by rw [solve_shape.l0,if_pos (by omega),if_pos (by omega),if_pos (by omega)]) ?_
    by_cases c0:(rd_T96 N i).f0=-1
    · rw [if_pos c0]
      refine qa c0 ?_
      unfold lf
      by_cases c1:(rd_T96 N i).f1=0
      · refine qa c1 ?_
        by_cases c2:(rd_T96 N i).f2=0
        · refine qa c2 ?_
          by_cases c3:(rd_T96 N i).f3<0
          · refine qa c3 ?_
            rw [if_neg (by simp;omega)]
            exact Ev.now _
          · refine qb c3 ?_
            by_cases c4:(rd_T96 N i).f3≥(l.length:Int)
            · refine qa c4 ?_
              rw [if_neg (by simp;omega)]
              exact Ev.now _
            · refine qb c4 ?_
              rw [if_pos (by simp;omega),hw]
              exact ih M hM
        · refine qb c2 ?_
          rw [if_neg (by simp;omega)]
          exact Ev.now _
      · refine qb c1 ?_
        rw [if_neg (by simp;omega)]
        exact Ev.now _
    · rw [if_neg c0]
      refine qb c0 ?_
      have hfin:∀ o:Option (List Bool),fin (o.bind (shp l.length N.length (N.drop (i+1)) (i+1)))=match o with|none=>false|some M'=>fin (shp l.length N.length (N.drop (i+1)) (i+1) M'):=fun o=>by cases o <;> rfl
      unfold nd
      by_cases c1:(rd_T96 N i).f0<0
      · refine qa c1 ?_
        rw [if_neg (by simp;omega)]
        exact Ev.now _
      · refine qb c1 ?_
        by_cases c2:(rd_T96 N i).f0≥24
        · refine qa c2 ?_
          rw [if_neg (by simp;omega)]
          exact Ev.now _
        · refine qb c2 ?_
          by_cases c3:(rd_T96 N i).f3=0
          · rw [if_pos (by simp;omega),hfin]
            refine qa c3 (Ev.bind (Ev.now [(rd_T96 N i).f1,(rd_T96 N i).f2]) ?_)
            exact qbr l N hn i [(rd_T96 N i).f1,(rd_T96 N i).f2] (by simp) _ (fun M' hM'=>by rw [hw];exact ih M' hM') 2 0 M rfl hM
          · rw [if_neg (by simp;omega)]
            exact qb c3 (Ev.now _)
def qZ (L:Nat) (N:List S96):Bool:=decide (1≤N.length)&&decide (N.length≤2000)&&fin (shp L N.length N 0 (List.replicate N.length false))
theorem qdM (l:List S49) (hL:l.length≤1000) (N:List S96):Ev (fun k=>solve_shape.f k l N) (qZ l.length N):=by
  unfold qZ
  by_cases h0:(N.length:Int)=0
  · refine qa h0 ?_
    rw [decide_eq_false (show ¬ 1≤N.length by omega),Bool.false_and,Bool.false_and]
    exact Ev.now _
  · refine qb h0 ?_
    by_cases h1:(N.length:Int)>2000
    · refine qa h1 ?_
      rw [decide_eq_false (show ¬ N.length≤2000 by omega),Bool.and_false,Bool.false_and]
      exact Ev.now _
    · refine qb h1 (qa (by omega) (qa (by omega) ?_))
      rw [decide_eq_true (show 1≤N.length by omega),decide_eq_true (show N.length≤2000 by omega),Bool.true_and,Bool.true_and,Int.toNat_natCast]
      have h:=qbs l hL N (by omega) (by omega) N.length 0 (List.replicate N.length false) (by omega) (by simp)
      rwa [List.drop_zero] at h
def vis (l:List S49) (N:List S96):Nat→Nat→Nat→Nat→Option (List Nat)
  | 0,_,_,_=>none
  | k+1,p,C,V=>if p<N.length then (if (rd_T96 N p).f0=-1 then (if lf l.length (rd_T96 N p)=true∧fl (rd_T49 l (rd_T96 N p).f3) C V=true then some [p] else none)
    else if nd (rd_T96 N p)=true∧(p:Int)<(rd_T96 N p).f1∧(p:Int)<(rd_T96 N p).f2∧C.testBit (rd_T96 N p).f0.toNat=false then
      (vis l N k (rd_T96 N p).f1.toNat (wC C (rd_T96 N p).f0) (wV V (rd_T96 N p).f0 false)).bind fun a=>(vis l N k (rd_T96 N p).f2.toNat (wC C (rd_T96 N p).f0) (wV V (rd_T96 N p).f0 true)).bind fun b=>some (p :: (a++b)) else none) else none
theorem qdw (C:Nat) (hC:C<2 ^ 24) (v:Int) (h0:0≤v) (h1:v<24):Go.bits .and .i64 (shr .i64 (C:Int) v) 1=(((C.testBit v.toNat).toNat:Nat):Int):=by
  have e1:shr .i64 (C:Int) v=((C / 2 ^ v.toNat:Nat):Int):=by
    obtain ⟨n,rfl⟩:∃ n:Nat,v=n:=⟨v.toNat,qg h0⟩
    unfold shr
    rw [show IntKind.i64.bits=64 from rfl,show min ((n:Int)).toNat 64=n by omega]
    simp
  rw [e1]
  have hd:C / 2 ^ v.toNat<2 ^ 62:=Nat.lt_of_le_of_lt (Nat.div_le_self _ _) (p62 hC (by decide))
  have:=(bits_nat .i64 62 (by decide) w62 (C / 2 ^ v.toNat) 1 hd (by decide)).1
  rw [Nat.and_one_is_mod,← Nat.toNat_testBit] at this
  exact this
theorem qd4 {l:List S49} (h:VS l) {i:Int} (h0:0≤i) (h1:i<(l.length:Int)):VT (rd_T49 l i).f0 (rd_T49 l i).f1:=by
  have:=ql l i.toNat (by omega)
  rw [← qg h0] at this
  exact h.tab _ this
def qeo (L:Nat) (N:List S96):Prop:=∀ i:Nat,i<N.length→((rd_T96 N i).f0=-1→lf L (rd_T96 N i)=true)∧((rd_T96 N i).f0≠-1→nd (rd_T96 N i)=true∧(i:Int)<(rd_T96 N i).f1∧(rd_T96 N i).f1<(N.length:Int)∧(i:Int)<(rd_T96 N i).f2∧(rd_T96 N i).f2<(N.length:Int))
theorem qbt (L:Nat) (b:S96):lf L b=true↔b.f1=0∧b.f2=0∧0≤b.f3∧b.f3<(L:Int):=by unfold lf;simp [and_assoc]
theorem qbu (b:S96):nd b=true↔0≤b.f0∧b.f0<24∧b.f3=0:=by unfold nd;simp [and_assoc]
theorem qbd {l:List S49} (h:VS l) {N:List S96} (hF:qeo l.length N):∀ (d p C V:Nat),p<N.length→N.length≤p+d→C<2 ^ 24→V<2 ^ 24→
    Ev (fun k=>solve_right.f k l N p (C:Int) (V:Int)) (vis l N d p C V).isSome
  | 0,p,C,V,hp,hd,hC,hV=>by omega
  | d+1,p,C,V,hp,hd,hC,hV=>by
    have hf:=hF p hp
    rw [vis,if_pos hp]
    refine Ev.step (fun k=>by rw [solve_right.f,if_pos (by omega),if_pos (by omega)]) ?_
    by_cases c0:(rd_T96 N p).f0=-1
    · have h1:=(qbt _ _).1 (hf.1 c0)
      rw [if_pos c0]
      refine qa (by omega) ?_
      refine qa h1.2.2.1 ?_
      refine qa h1.2.2.2 ?_
      refine Ev.bind (qcu (qd4 h h1.2.2.1 h1.2.2.2) C V hC hV) ?_
      refine qd (Ev.now _) ?_
      by_cases e:fl (rd_T49 l (rd_T96 N p).f3) C V=true
      · rw [if_pos ⟨hf.1 c0,e⟩,e];rfl
      · rw [if_neg (fun e'=>e e'.2),(Bool.not_eq_true _).mp e];rfl
    · obtain ⟨h1,h2,h3,h4,h5⟩:=hf.2 c0
      have h1':=(qbu _).1 h1
      have wl:=qca hC h1'.1 h1'.2.1
      have wv:=fun b=>qcb b hV h1'.1 h1'.2.1
      rw [if_neg c0]
      refine qb (by omega) ?_
      refine qa h1'.1 ?_
      rw [qdw C hC _ h1'.1 h1'.2.1]
      cases e:C.testBit (rd_T96 N p).f0.toNat
      · rw [if_pos ⟨h1,h2,h4,rfl⟩]
        refine qa rfl ?_
        have w:=fun b=>qaR b hC hV h1'.1 h1'.2.1
        refine Ev.bind (show Ev (fun _=>solve_choices_with.f (C:Int) (V:Int) (rd_T96 N p).f0 0) _ from (w false) ▸ Ev.now _) ?_
        have i1:=qbd h hF d (rd_T96 N p).f1.toNat _ _ (by omega) (by omega) wl (wv false)
        rw [← qg (by omega:0≤(rd_T96 N p).f1)] at i1
        refine Ev.bind i1 ?_
        cases v1:vis l N d (rd_T96 N p).f1.toNat (wC C (rd_T96 N p).f0) (wV V (rd_T96 N p).f0 false) with
        | none=>
          refine qb (by decide) ?_
          exact Ev.now _
        | some a=>
          refine qa rfl ?_
          refine Ev.bind (show Ev (fun _=>solve_choices_with.f (C:Int) (V:Int) (rd_T96 N p).f0 1) _ from (w true) ▸ Ev.now _) ?_
          have i2:=qbd h hF d (rd_T96 N p).f2.toNat _ _ (by omega) (by omega) wl (wv true)
          rw [← qg (by omega:0≤(rd_T96 N p).f2)] at i2
          refine Ev.bind i2 ?_
          refine qd (Ev.now _) ?_
          cases v2:vis l N d (rd_T96 N p).f2.toNat (wC C (rd_T96 N p).f0) (wV V (rd_T96 N p).f0 true) <;> simp [v2]
      · rw [if_neg (by rintro ⟨_,_,_,h⟩;cases h)]
        refine qb (by decide) ?_
        exact Ev.now _
theorem qS (n i:Nat):∀ (ks:List Int) (M M':List Bool),mrk n i ks M=some M'→∀ k,k∈ks→(i:Int)<k∧k<(n:Int)
  | [],_,_,_=>fun _ hk=>by cases hk
  | x :: ks,M,M',h=>fun k hk=>by
    rw [mrk] at h
    split at h
    · next hc=>
      rcases List.mem_cons.1 hk with rfl|hk
      · exact ⟨hc.1,hc.2.1⟩
      · exact qS n i ks _ _ h k hk
    · cases h
theorem qan (L:Nat) (N:List S96):∀ (d i:Nat) (M M':List Bool),i+d=N.length→shp L N.length (N.drop i) i M=some M'→∀ j:Nat,i≤j→j<N.length→((rd_T96 N j).f0=-1→lf L (rd_T96 N j)=true)∧((rd_T96 N j).f0≠-1→nd (rd_T96 N j)=true∧(j:Int)<(rd_T96 N j).f1∧(rd_T96 N j).f1<(N.length:Int)∧(j:Int)<(rd_T96 N j).f2∧(rd_T96 N j).f2<(N.length:Int))
  | 0,i,M,M',h,hs=>fun j h1 h2=>by omega
  | d+1,i,M,M',h,hs=>fun j h1 h2=>by
    have hi:i<N.length:=by omega
    rw [qaE N i hi,shp] at hs
    by_cases c0:(rd_T96 N i).f0=-1
    · rw [if_pos c0] at hs
      by_cases c1:lf L (rd_T96 N i)=true
      · rw [if_pos c1] at hs
        by_cases e:j=i
        · subst e;exact ⟨fun _=>c1,fun c=>absurd c0 c⟩
        · exact qan L N d (i+1) M M' (by omega) hs j (by omega) h2
      · rw [if_neg c1] at hs;cases hs
    · rw [if_neg c0] at hs
      by_cases c1:nd (rd_T96 N i)=true
      · rw [if_pos c1] at hs
        cases e2:mrk N.length i [(rd_T96 N i).f1,(rd_T96 N i).f2] M with
        | none=>rw [e2] at hs;cases hs
        | some M1=>
          rw [e2] at hs
          by_cases e:j=i
          · subst e
            have b:=qS _ _ _ _ _ e2
            have b1:=b _ (.head _)
            have b2:=b _ (.tail _ (.head _))
            exact ⟨fun c=>absurd c c0,fun _=>⟨c1,b1.1,b1.2,b2.1,b2.2⟩⟩
          · exact qan L N d (i+1) M1 M' (by omega) hs j (by omega) h2
      · rw [if_neg c1] at hs;cases hs
def qaF (l:List S49) (N:List S96):Bool:=if qX l=0 then qZ l.length N&&(vis l N N.length 0 0 0).isSome else false
theorem qdx (l:List S49) (hs:Sm l) (hl:l.length≤1000) (N:List S96):Ev (fun k=>solve_Check.f k l N) (qaF l N):=by
  refine Ev.bind (qE l hs hl) ?_
  unfold qaF
  refine qf (fun h=>?_) (fun h=>Ev.now _)
  have hv:=(qj l).1 h
  refine Ev.bind (qdM l hl N) ?_
  cases e:qZ l.length N
  · refine qb (by decide) ?_
    exact Ev.now _
  · refine qa rfl ?_
    unfold qZ at e
    simp only [Bool.and_eq_true,decide_eq_true_iff] at e
    cases e2:shp l.length N.length N 0 (List.replicate N.length false) with
    | none=>rw [e2] at e;simp [fin] at e
    | some M=>
      have hF:qeo l.length N:=fun j hj=>qan l.length N N.length 0 _ M (by omega) (by rw [List.drop_zero];exact e2) j (by omega) hj
      refine Ev.bind (qbd hv hF N.length 0 0 0 (by omega) (by omega) (by decide) (by decide)) ?_
      rw [Bool.true_and]
      exact Ev.now _

def Lies (N:List S96) (T:Tr) (p:Nat):Prop:=∃ suf,N.drop p=T.nod p++suf
theorem Lies.lt {N:List S96} {T:Tr} {p:Nat} (h:Lies N T p):p+T.sz≤N.length:=by
  obtain ⟨suf,h⟩:=h
  have:=congrArg List.length h
  rw [List.length_drop,List.length_append,T.nod_len] at this
  have:=T.sz_pos
  omega
theorem Lies.rd {N:List S96} {T:Tr} {p:Nat} (h:Lies N T p):(∀ t,T=.leaf t→rd_T96 N p=⟨-1,0,0,t⟩)∧(∀ v a b,T=.node v a b→rd_T96 N p=⟨v,((p+1:Nat):Int),((p+1+a.sz:Nat):Int),0⟩∧Lies N a (p+1)∧Lies N b (p+1+a.sz)):=by
  have hl:=h.lt
  have hs:=T.sz_pos
  obtain ⟨suf,h⟩:=h
  rw [qaE N p (by omega)] at h
  constructor
  · rintro t rfl
    exact (List.cons.inj h).1
  · rintro v a b rfl
    obtain ⟨h1,h2⟩:=List.cons.inj h
    change _=(a.nod (p+1)++b.nod (p+1+a.sz))++suf at h2
    rw [List.append_assoc] at h2
    refine ⟨h1,⟨_,h2⟩,⟨suf,?_⟩⟩
    have:=congrArg (List.drop a.sz) h2
    have e:(a.nod (p+1)).drop a.sz=[]:=List.drop_eq_nil_of_le (by rw [a.nod_len];omega)
    rw [List.drop_drop,List.drop_append_of_le_length (by rw [a.nod_len];omega),e,List.nil_append] at this
    exact this
def chN (b:S96):List Nat:=if b.f0=-1 then [] else [b.f1.toNat,b.f2.toNat]
def chA (N:List S96) (i:Nat):List Nat:=chN (rd_T96 N i)
def Fld (L:Nat) (N:List S96) (i:Nat):Prop:=((rd_T96 N i).f0=-1→lf L (rd_T96 N i)=true)∧((rd_T96 N i).f0≠-1→nd (rd_T96 N i)=true∧(i:Int)<(rd_T96 N i).f1∧(rd_T96 N i).f1<(N.length:Int)∧(i:Int)<(rd_T96 N i).f2∧(rd_T96 N i).f2<(N.length:Int))
theorem Fld.ch {L:Nat} {N:List S96} {i:Nat} (h:Fld L N i):∀ c,c∈chA N i→i<c∧c<N.length:=by
  intro c hc
  unfold chA chN at hc
  by_cases e:(rd_T96 N i).f0=-1
  · rw [if_pos e] at hc;cases hc
  · rw [if_neg e] at hc
    have:=h.2 e
    rcases List.mem_cons.1 hc with rfl|hc
    · omega
    · rw [List.mem_singleton] at hc
      subst hc
      omega
theorem qv (l:List S49) (N:List S96):∀ (k p C V:Nat) (Q:List Nat),vis l N k p C V=some Q→
    p<N.length∧(∀ j,j∈Q→p≤j∧j<N.length∧Fld l.length N j)∧Q.Perm (p :: Q.flatMap (chA N))
  | 0,_,_,_,_,h=>by simp [vis] at h
  | k+1,p,C,V,Q,h=>by
    rw [vis] at h
    by_cases hp:p<N.length
    · rw [if_pos hp] at h
      by_cases c0:(rd_T96 N p).f0=-1
      · rw [if_pos c0] at h
        by_cases c1:lf l.length (rd_T96 N p)=true∧fl (rd_T49 l (rd_T96 N p).f3) C V=true
        · rw [if_pos c1] at h
          obtain rfl:=(Option.some.inj h).symm
          refine ⟨hp,fun j hj=>?_,?_⟩
          · rw [List.mem_singleton] at hj
            subst hj
            exact ⟨Nat.le_refl _,hp,fun _=>c1.1,fun c=>absurd c0 c⟩
          · rw [List.flatMap_singleton]
            unfold chA chN
            rw [if_pos c0]
        · rw [if_neg c1] at h;cases h
      · rw [if_neg c0] at h
        by_cases c1:nd (rd_T96 N p)=true∧(p:Int)<(rd_T96 N p).f1∧(p:Int)<(rd_T96 N p).f2∧C.testBit (rd_T96 N p).f0.toNat=false
        · rw [if_pos c1] at h
          cases e1:vis l N k (rd_T96 N p).f1.toNat (wC C (rd_T96 N p).f0) (wV V (rd_T96 N p).f0 false) with
          | none=>rw [e1] at h;cases h
          | some a=>
            rw [e1,Option.bind_some] at h
            cases e2:vis l N k (rd_T96 N p).f2.toNat (wC C (rd_T96 N p).f0) (wV V (rd_T96 N p).f0 true) with
            | none=>rw [e2] at h;cases h
            | some b=>
              rw [e2,Option.bind_some] at h
              obtain rfl:=(Option.some.inj h).symm
              obtain ⟨a1,a2,a3⟩:=qv l N k _ _ _ a e1
              obtain ⟨b1,b2,b3⟩:=qv l N k _ _ _ b e2
              refine ⟨hp,fun j hj=>?_,?_⟩
              · rcases List.mem_cons.1 hj with rfl|hj
                · exact ⟨Nat.le_refl _,hp,fun c=>absurd c c0,fun _=>⟨c1.1,c1.2.1,by omega,c1.2.2.1,by omega⟩⟩
                · rcases List.mem_append.1 hj with hj|hj
                  · have:=a2 j hj
                    exact ⟨by omega,this.2⟩
                  · have:=b2 j hj
                    exact ⟨by omega,this.2⟩
              · refine List.Perm.cons _ ?_
                rw [List.flatMap_cons,List.flatMap_append]
                have hc:chA N p=[(rd_T96 N p).f1.toNat,(rd_T96 N p).f2.toNat]:=by unfold chA chN;rw [if_neg c0]
                rw [hc]
                refine (a3.append b3).trans ?_
                show ((rd_T96 N p).f1.toNat :: (a.flatMap (chA N)++(rd_T96 N p).f2.toNat :: b.flatMap (chA N))).Perm ((rd_T96 N p).f1.toNat :: (rd_T96 N p).f2.toNat :: (a.flatMap (chA N)++b.flatMap (chA N)))
                exact List.Perm.cons _ List.perm_middle
        · rw [if_neg c1] at h;cases h
    · rw [if_neg hp] at h;cases h
theorem qbe (n i:Nat):∀ (ks:List Int) (M M':List Bool),M.length=n→mrk n i ks M=some M'→(ks.map Int.toNat).Nodup∧(∀ k,k∈ks→rdOf false M k=false)∧∀ j:Nat,rdOf false M' (j:Int)=(rdOf false M (j:Int)||decide (j∈ks.map Int.toNat))
  | [],M,M',hM,h=>by
    simp only [mrk,Option.some.injEq] at h
    subst h
    exact ⟨List.nodup_nil,(fun _ hk=>by cases hk),(fun j=>by rw [List.map_nil];simp)⟩
  | x :: ks,M,M',hM,h=>by
    rw [mrk] at h
    split at h
    · next hc=>
      obtain ⟨h1,h2,h3⟩:=qbe n i ks _ M' (by rw [List.length_set];exact hM) h
      have hx:x=((x.toNat:Nat):Int):=qg (by omega)
      have hb:=qS n i ks _ _ h
      have hset:∀ j:Nat,rdOf false (M.set x.toNat true) (j:Int)=if x.toNat=j then true else rdOf false M (j:Int):=fun j=>qaQ _ _ _ _ (by omega)
      refine ⟨?_,?_,?_⟩
      · rw [List.map_cons,List.nodup_cons]
        refine ⟨fun hm=>?_,h1⟩
        obtain ⟨y,hy,e⟩:=List.mem_map.1 hm
        have:=h2 y hy
        have hy0:=hb y hy
        rw [qg (by omega:0≤y),hset,if_pos e.symm] at this
        cases this
      · intro k hk
        rcases List.mem_cons.1 hk with rfl|hk
        · exact hc.2.2
        · have:=h2 k hk
          have hk0:=hb k hk
          rw [qg (by omega:0≤k),hset] at this
          rw [qg (by omega:0≤k)]
          split at this
          · cases this
          · exact this
      · intro j
        rw [h3 j,hset,List.map_cons]
        by_cases e:x.toNat=j
        · rw [if_pos e];simp [e]
        · rw [if_neg e]
          congr 1
          rw [Bool.eq_iff_iff]
          simp
          omega
    · cases h
theorem qdy (n i:Nat):∀ (ks:List Int) (M:List Bool),M.length=n→(∀ k,k∈ks→(i:Int)<k∧k<(n:Int))→(ks.map Int.toNat).Nodup→(∀ k,k∈ks→rdOf false M k=false)→∃ M',mrk n i ks M=some M'
  | [],M,_,_,_,_=>⟨M,rfl⟩
  | x :: ks,M,hM,hb,hn,hu=>by
    have hx:=hb x (.head _)
    rw [List.map_cons,List.nodup_cons] at hn
    rw [mrk,if_pos ⟨hx.1,hx.2,hu x (.head _)⟩]
    refine qdy n i ks _ (by rw [List.length_set];exact hM) (fun k hk=>hb k (.tail _ hk)) hn.2 (fun k hk=>?_)
    have hk0:=hb k (.tail _ hk)
    rw [qg (by omega:0≤k),qaQ _ _ _ _ (by omega)]
    split
    · next e=>exact absurd (List.mem_map.2 ⟨k,hk,e.symm⟩) hn.1
    · rw [← qg (by omega:0≤k)];exact hu k (.tail _ hk)
theorem qao (L:Nat) (N:List S96):∀ (d i:Nat) (M M':List Bool),i+d=N.length→M.length=N.length→shp L N.length (N.drop i) i M=some M'→
    M'.length=N.length∧((List.range' i d).flatMap (chA N)).Nodup∧(∀ j,j∈(List.range' i d).flatMap (chA N)→rdOf false M (j:Int)=false)∧∀ j:Nat,rdOf false M' (j:Int)=(rdOf false M (j:Int)||decide (j∈(List.range' i d).flatMap (chA N)))
  | 0,i,M,M',h,hM,hs=>by
    rw [List.drop_eq_nil_of_le (by omega)] at hs
    simp only [shp,Option.some.injEq] at hs
    subst hs
    exact ⟨hM,by simp,by simp,by simp⟩
  | d+1,i,M,M',h,hM,hs=>by
    have hi:i<N.length:=by omega
    rw [qaE N i hi,shp] at hs
    rw [List.range'_succ,List.flatMap_cons]
    by_cases c0:(rd_T96 N i).f0=-1
    · rw [if_pos c0] at hs
      split at hs
      · have hc:chA N i=[]:=by unfold chA chN;rw [if_pos c0]
        rw [hc,List.nil_append]
        exact qao L N d (i+1) M M' (by omega) hM hs
      · cases hs
    · rw [if_neg c0] at hs
      split at hs
      · have hc:chA N i=[(rd_T96 N i).f1,(rd_T96 N i).f2].map Int.toNat:=by unfold chA chN;rw [if_neg c0];rfl
        cases e2:mrk N.length i [(rd_T96 N i).f1,(rd_T96 N i).f2] M with
        | none=>rw [e2] at hs;cases hs
        | some M1=>
          rw [e2,Option.bind_some] at hs
          have hM1:M1.length=N.length:=by rw [qbI _ _ _ _ _ e2];exact hM
          obtain ⟨m1,m2,m3⟩:=qbe _ _ _ _ _ hM e2
          have mb:=qS _ _ _ _ _ e2
          obtain ⟨s0,s1,s2,s3⟩:=qao L N d (i+1) M1 M' (by omega) hM1 hs
          rw [← hc] at m1 m3
          refine ⟨s0,?_,?_,?_⟩
          · rw [List.nodup_append]
            refine ⟨m1,s1,fun a ha b hb e=>?_⟩
            subst e
            have:=s2 a hb
            rw [m3,decide_eq_true ha,Bool.or_true] at this
            cases this
          · intro j hj
            rcases List.mem_append.1 hj with hj|hj
            · rw [hc] at hj
              obtain ⟨x,hx,rfl⟩:=List.mem_map.1 hj
              have:=mb x hx
              rw [← qg (by omega:0≤x)]
              exact m2 x hx
            · have:=s2 j hj
              rw [m3] at this
              simp at this
              exact this.1
          · intro j
            rw [s3 j,m3 j,Bool.or_assoc]
            congr 1
            rw [Bool.eq_iff_iff]
            simp [List.mem_append]
      · cases hs
theorem qcy (L:Nat) (N:List S96) (hF:∀ i,i<N.length→Fld L N i):∀ (d i:Nat) (M:List Bool),i+d=N.length→M.length=N.length→((List.range' i d).flatMap (chA N)).Nodup→(∀ j,j∈(List.range' i d).flatMap (chA N)→rdOf false M (j:Int)=false)→∃ M',shp L N.length (N.drop i) i M=some M'
  | 0,i,M,h,hM,_,_=>⟨M,by rw [List.drop_eq_nil_of_le (by omega)];rfl⟩
  | d+1,i,M,h,hM,hn,hu=>by
    have hi:i<N.length:=by omega
    rw [qaE N i hi,shp]
    rw [List.range'_succ,List.flatMap_cons] at hn hu
    rw [List.nodup_append] at hn
    by_cases c0:(rd_T96 N i).f0=-1
    · rw [if_pos c0,if_pos ((hF i hi).1 c0)]
      exact qcy L N hF d (i+1) M (by omega) hM hn.2.1 (fun j hj=>hu j (List.mem_append_right _ hj))
    · have hf:=(hF i hi).2 c0
      have hc:chA N i=[(rd_T96 N i).f1,(rd_T96 N i).f2].map Int.toNat:=by unfold chA chN;rw [if_neg c0];rfl
      rw [if_neg c0,if_pos hf.1]
      have hb:∀ k,k∈[(rd_T96 N i).f1,(rd_T96 N i).f2]→(i:Int)<k∧k<(N.length:Int):=fun k hk=>by
        rcases List.mem_cons.1 hk with rfl|hk
        · omega
        · rw [List.mem_singleton] at hk;subst hk;omega
      obtain ⟨M1,e1⟩:=qdy N.length i [(rd_T96 N i).f1,(rd_T96 N i).f2] M hM hb (by rw [← hc];exact hn.1) (fun k hk=>by
        have:=hb k hk
        rw [qg (by omega:0≤k)]
        exact hu _ (List.mem_append_left _ (by rw [hc];exact List.mem_map.2 ⟨k,hk,rfl⟩)))
      obtain ⟨_,_,m3⟩:=qbe _ _ _ _ _ hM e1
      rw [e1,Option.bind_some]
      refine qcy L N hF d (i+1) M1 (by omega) (by rw [qbI _ _ _ _ _ e1];exact hM) hn.2.1 (fun j hj=>?_)
      rw [m3,hu j (List.mem_append_right _ hj),Bool.false_or,decide_eq_false_iff_not,← hc]
      exact fun hm=>hn.2.2 j hm j hj rfl
def qcc (N:List S96):List Nat:=(List.range N.length).flatMap (chA N)
theorem qdN (L:Nat) (N:List S96):qZ L N=true↔1≤N.length∧N.length≤2000∧(∀ i,i<N.length→Fld L N i)∧(qcc N).Nodup∧∀ j,1≤j→j<N.length→j∈qcc N:=by
  unfold qZ qcc
  rw [List.range_eq_range']
  have h0:∀ j:Nat,rdOf false (List.replicate N.length false) (j:Int)=false:=fun j=>by rw [rdOf,List.getD,Int.toNat_natCast,List.getElem?_replicate];split <;> rfl
  have hfin:∀ M:List Bool,M.length=N.length→(fin (some M)=true↔∀ j,1≤j→j<N.length→rdOf false M (j:Int)=true):=fun M hM=>by
    have hg:∀ j (hj:j<M.length),rdOf false M (j:Int)=M[j]:=fun j hj=>by rw [rdOf,List.getD,Int.toNat_natCast,List.getElem?_eq_getElem hj,Option.getD_some]
    simp only [fin]
    rw [List.all_eq_true]
    constructor
    · intro h j h1 h2
      rw [hg j (by omega)]
      have:=h M[j] (List.mem_iff_getElem.2 ⟨j - 1,by rw [List.length_drop];omega,by rw [List.getElem_drop];congr 1;omega⟩)
      simpa using this
    · intro h x hx
      obtain ⟨j,hj,e⟩:=List.getElem_of_mem hx
      rw [List.length_drop] at hj
      rw [List.getElem_drop] at e
      have:=h (1+j) (by omega) (by omega)
      rw [hg (1+j) (by omega),e] at this
      simpa using this
  simp only [Bool.and_eq_true,decide_eq_true_iff]
  constructor
  · rintro ⟨⟨h1,h2⟩,h3⟩
    cases e:shp L N.length N 0 (List.replicate N.length false) with
    | none=>rw [e] at h3;cases h3
    | some M=>
      rw [e] at h3
      obtain ⟨s0,s1,s2,s3⟩:=qao L N N.length 0 _ M (by omega) List.length_replicate (by rw [List.drop_zero];exact e)
      refine ⟨h1,h2,fun i hi=>qan L N N.length 0 _ M (by omega) (by rw [List.drop_zero];exact e) i (by omega) hi,s1,fun j k1 k2=>?_⟩
      have:=(hfin M s0).1 h3 j k1 k2
      rw [s3,h0,Bool.false_or,decide_eq_true_iff] at this
      exact this
  · rintro ⟨h1,h2,hF,hn,hc⟩
    obtain ⟨M,e⟩:=qcy L N hF N.length 0 (List.replicate N.length false) (by omega) (by simp) hn (fun j _=>h0 j)
    obtain ⟨s0,s1,s2,s3⟩:=qao L N N.length 0 _ M (by omega) (by simp) e
    rw [List.drop_zero] at e
    rw [e]
    refine ⟨⟨h1,h2⟩,(hfin M s0).2 (fun j k1 k2=>?_)⟩
    rw [s3,h0,Bool.false_or,decide_eq_true_iff]
    exact hc j k1 k2
theorem qc8 {f:Nat→List Nat}:∀ {l:List Nat},(l.flatMap f).Nodup→∀ i i' j,i∈l→i'∈l→j∈f i→j∈f i'→i=i'
  | [],_,_,_,_,h,_,_,_=>by cases h
  | x :: l,hn,i,i',j,h,h',e,e'=>by
    rw [List.flatMap_cons,List.nodup_append] at hn
    rcases List.mem_cons.1 h with h1|h1
    · rcases List.mem_cons.1 h' with h2|h2
      · rw [h1,h2]
      · rw [h1] at e
        exact absurd rfl (hn.2.2 j e j (List.mem_flatMap.2 ⟨i',h2,e'⟩))
    · rcases List.mem_cons.1 h' with h2|h2
      · rw [h2] at e'
        exact absurd rfl (hn.2.2 j e' j (List.mem_flatMap.2 ⟨i,h1,e⟩))
      · exact qc8 hn.2.1 i i' j h1 h2 e e'
theorem qcz {f:Nat→List Nat}:∀ {l:List Nat},(l.flatMap f).Nodup→∀ i,i∈l→(f i).Nodup
  | [],_,_,h=>by cases h
  | x :: l,hn,i,h=>by
    rw [List.flatMap_cons,List.nodup_append] at hn
    rcases List.mem_cons.1 h with rfl|h
    · exact hn.1
    · exact qcz hn.2.1 i h
theorem qcA {f:Nat→List Nat} {i j:Nat} (h1:(f i).count j≤1):∀ {l:List Nat},(∀ x,x∈l→x≠i→j∉f x)→(l.flatMap f).count j≤l.count i
  | [],_=>by simp
  | x :: l,h=>by
    rw [List.flatMap_cons,List.count_append,List.count_cons]
    have ih:=qcA h1 (l:=l) (fun y hy=>h y (.tail _ hy))
    by_cases e:x=i
    · subst e
      simp
      omega
    · have:=List.count_eq_zero.2 (h x (.head _) e)
      omega
theorem qdO (l:List S49) (N:List S96):(qZ l.length N&&(vis l N N.length 0 0 0).isSome)=true↔1≤N.length∧N.length≤2000∧∃ Q,vis l N N.length 0 0 0=some Q∧Q.Nodup∧∀ j,j<N.length→j∈Q:=by
  rw [Bool.and_eq_true,qdN]
  constructor
  · rintro ⟨⟨h1,h2,hF,hn,hc⟩,hv⟩
    obtain ⟨Q,e⟩:=Option.isSome_iff_exists.1 hv
    obtain ⟨q0,q1,q2⟩:=qv _ _ _ _ _ _ _ e
    refine ⟨h1,h2,Q,e,?_,?_⟩
    · rw [List.nodup_iff_count]
      intro a
      induction a using Nat.strongRecOn with
      | _ a ih=>
        rw [q2.count_eq a,List.count_cons]
        by_cases ha:a=0
        · subst ha
          have:(Q.flatMap (chA N)).count 0=0:=List.count_eq_zero.2 (fun hm=>by
            obtain ⟨x,hx,hm⟩:=List.mem_flatMap.1 hm
            have:=(q1 x hx).2.2.ch 0 hm
            omega)
          rw [this]
          simp
        · have e0:(if (0 == a)=true then 1 else 0)=0:=by simp;omega
          rw [e0,Nat.add_zero]
          by_cases hm:a∈Q.flatMap (chA N)
          · obtain ⟨i,hi,hm⟩:=List.mem_flatMap.1 hm
            have hi':=q1 i hi
            have hlt:=hi'.2.2.ch a hm
            have hin:i∈List.range N.length:=List.mem_range.2 hi'.2.1
            have hc1:(chA N i).count a≤1:=List.nodup_iff_count.1 (qcz hn i hin) a
            refine Nat.le_trans (qcA hc1 (fun x hx hne hm'=>?_)) (ih i hlt.1)
            exact hne (qc8 hn x i a (List.mem_range.2 (q1 x hx).2.1) hin hm' hm)
          · rw [List.count_eq_zero.2 hm];omega
    · intro j
      induction j using Nat.strongRecOn with
      | _ j ih=>
        intro hj
        rw [q2.mem_iff]
        by_cases e0:j=0
        · subst e0;exact .head _
        · obtain ⟨i,hi,hm⟩:=List.mem_flatMap.1 (hc j (by omega) hj)
          have hi':=List.mem_range.1 hi
          have:=(hF i hi').ch j hm
          exact .tail _ (List.mem_flatMap.2 ⟨i,ih i this.1 hi',hm⟩)
  · rintro ⟨h1,h2,Q,e,hn,hc⟩
    obtain ⟨q0,q1,q2⟩:=qv _ _ _ _ _ _ _ e
    have hp:Q.Perm (List.range N.length):=(List.perm_ext_iff_of_nodup hn List.nodup_range).2 (fun a=>⟨fun ha=>List.mem_range.2 (q1 a ha).2.1,fun ha=>hc a (List.mem_range.1 ha)⟩)
    have hq:Q.Perm (0 :: qcc N):=q2.trans (List.Perm.cons _ (List.Perm.flatMap_right _ hp))
    have hn':=(hq.nodup_iff).1 hn
    refine ⟨⟨h1,h2,fun i hi=>(q1 i (hc i hi)).2.2,(List.nodup_cons.1 hn').2,fun j k1 k2=>?_⟩,by rw [e];rfl⟩
    have:=hq.mem_iff.1 (hc j k2)
    rcases List.mem_cons.1 this with h|h
    · omega
    · exact h

theorem qcB {C V:Nat} (hs:∀ j,V.testBit j=true→C.testBit j=true) (v:Int) (b:Bool):∀ j,(wV V v b).testBit j=true→(wC C v).testBit j=true:=fun j hj=>by
  rw [qaf] at hj
  rw [qaz]
  by_cases e:v.toNat=j
  · simp [e]
  · simp [e] at hj
    rw [hs j hj];rfl
theorem qbf {l:List S49} (h:VS l) (N:List S96) (hn:N.length≤2000):∀ (d p C V:Nat) (M:List Bool),N.length≤p+d→M.length=N.length→C<2 ^ 24→V<2 ^ 24→(∀ j,V.testBit j=true→C.testBit j=true)→
    ∃ r:Bool×List Bool,Ev (fun k=>ancepsref40_below.f k l N p (C:Int) (V:Int) M) r∧r.2.length=N.length∧(r.1=true→∃ Q,vis l N d p C V=some Q∧Q.Nodup∧(∀ j,j∈Q→rdOf false M (j:Int)=false)∧∀ j:Nat,rdOf false r.2 (j:Int)=(rdOf false M (j:Int)||decide (j∈Q)))∧
      (r.1=false→∀ Q,vis l N d p C V=some Q→Q.Nodup→¬ ∀ j,j∈Q→rdOf false M (j:Int)=false)
  | d,p,C,V,M,hd,hM,hC,hV,hs=>by
    by_cases hp:p<N.length
    case neg=>
      refine ⟨(false,M),?_,hM,by simp,fun _ Q hQ=>absurd (qv _ _ _ _ _ _ _ hQ).1 hp⟩
      refine Ev.step (fun k=>by rw [ancepsref40_below.f]) ?_
      refine qb (by omega) ?_
      refine qa (by omega) ?_
      exact Ev.now _
    obtain ⟨d,rfl⟩:∃ d',d=d'+1:=⟨d - 1,by omega⟩
    cases hm:rdOf false M (p:Int)
    case true=>
      refine ⟨(false,M),?_,hM,by simp,fun _ Q hQ _ hu=>?_⟩
      · refine Ev.step (fun k=>by rw [ancepsref40_below.f,hm]) ?_
        refine qb (by omega) ?_
        refine qb (by omega) ?_
        refine qa (by omega) ?_
        refine qa (by omega) ?_
        exact qa rfl (Ev.now _)
      · have:=hu p ((qv _ _ _ _ _ _ _ hQ).2.2.mem_iff.2 (.head _))
        rw [hm] at this;cases this
    have hset:∀ j:Nat,rdOf false (M.set p true) (j:Int)=if p=j then true else rdOf false M (j:Int):=fun j=>qaQ _ _ _ _ (by omega)
    have hin:∀ r,Ev (fun k=>if (rd_T96 N p).f0=(-1) then (if (rd_T96 N p).f1=0 then (if (rd_T96 N p).f2=0 then (if (rd_T96 N p).f3≥0 then (if (rd_T96 N p).f3<(l.length:Int) then (if 0≤(rd_T96 N p).f3 then ((ancepsref40_fails.f k ((rd_T49 l ((rd_T96 N p).f3)).f0) ((rd_T49 l ((rd_T96 N p).f3)).f1) C V).bind fun t586=>(some (t586,M.set p true))) else (none)) else (some (false,M.set p true))) else (some (false,M.set p true))) else (some (false,M.set p true))) else (some (false,M.set p true))) else (if ((rd_T96 N p).f0)<0 then (some (false,M.set p true)) else (if ((rd_T96 N p).f0)>23 then (some (false,M.set p true)) else (if ((rd_T96 N p).f3)=0 then (if ((rd_T96 N p).f1)≤(p:Int) then (some (false,M.set p true)) else (if ((rd_T96 N p).f2)≤(p:Int) then (some (false,M.set p true)) else (if 0≤((rd_T96 N p).f0) then (if (Go.bits .and .i64 (shr .i64 C ((rd_T96 N p).f0)) 1)=1 then (some (false,M.set p true)) else ((ancepsref40_choices_with.f C V ((rd_T96 N p).f0) 0).bind fun bt90=>((ancepsref40_below.f k l N ((rd_T96 N p).f1) bt90.1 bt90.2 (M.set p true)).bind fun bt92=>(if bt92.1=true then ((ancepsref40_choices_with.f C V ((rd_T96 N p).f0) 1).bind fun bt91=>((ancepsref40_below.f k l N ((rd_T96 N p).f2) bt91.1 bt91.2 bt92.2).bind fun bt93=>(some (bt93.1,bt93.2)))) else (some (false,bt92.2)))))) else (none)))) else (some (false,M.set p true)))))) r→
        Ev (fun k=>ancepsref40_below.f k l N p (C:Int) (V:Int) M) r:=fun r hr=>by
      refine Ev.step (fun k=>by rw [ancepsref40_below.f,hm]) ?_
      refine qb (by omega) ?_
      refine qb (by omega) ?_
      refine qa (by omega) ?_
      refine qa (by omega) ?_
      refine qb (by decide) ?_
      rw [Int.toNat_natCast]
      refine Ev.bind (Ev.now (M.set p true)) ?_
      refine qa (by omega) ?_
      exact hr
    have hno:vis l N (d+1) p C V=none→Ev (fun k=>ancepsref40_below.f k l N p (C:Int) (V:Int) M) (false,M.set p true)→∃ r:Bool×List Bool,Ev (fun k=>ancepsref40_below.f k l N p (C:Int) (V:Int) M) r∧r.2.length=N.length∧(r.1=true→∃ Q,vis l N (d+1) p C V=some Q∧Q.Nodup∧(∀ j,j∈Q→rdOf false M (j:Int)=false)∧∀ j:Nat,rdOf false r.2 (j:Int)=(rdOf false M (j:Int)||decide (j∈Q)))∧
      (r.1=false→∀ Q,vis l N (d+1) p C V=some Q→Q.Nodup→¬ ∀ j,j∈Q→rdOf false M (j:Int)=false):=fun hv he=>
      ⟨_,he,by rw [List.length_set];exact hM,by simp,fun _ Q hQ=>by rw [hv] at hQ;cases hQ⟩
    by_cases c0:(rd_T96 N p).f0=-1
    · by_cases c1:lf l.length (rd_T96 N p)=true
      · have c1':=(qbt _ _).1 c1
        have he:Ev (fun k=>ancepsref40_below.f k l N p (C:Int) (V:Int) M) (fl (rd_T49 l (rd_T96 N p).f3) C V,M.set p true):=by
          refine hin _ ?_
          refine qa c0 ?_
          refine qa c1'.1 ?_
          refine qa c1'.2.1 ?_
          refine qa c1'.2.2.1 ?_
          refine qa c1'.2.2.2 ?_
          refine qa c1'.2.2.1 ?_
          refine Ev.bind (qdu (qd4 h c1'.2.2.1 c1'.2.2.2) hC hV hs) ?_
          exact Ev.now _
        cases e:fl (rd_T49 l (rd_T96 N p).f3) C V
        · rw [e] at he
          exact hno (by rw [vis,if_pos hp,if_pos c0,if_neg (by rw [e];simp)]) he
        · rw [e] at he
          have hv:vis l N (d+1) p C V=some [p]:=by rw [vis,if_pos hp,if_pos c0,if_pos ⟨c1,e⟩]
          refine ⟨_,he,by rw [List.length_set];exact hM,fun _=>⟨[p],hv,by simp,fun j hj=>?_,fun j=>?_⟩,fun hc=>by cases hc⟩
          · rw [List.mem_singleton] at hj
            subst hj;exact hm
          · rw [hset j]
            by_cases e:p=j
            · rw [if_pos e];simp [e]
            · rw [if_neg e];simp;omega
      · refine hno (by rw [vis,if_pos hp,if_pos c0,if_neg (fun c=>c1 c.1)]) (hin _ ?_)
        refine qa c0 ?_
        rw [qbt] at c1
        by_cases k1:(rd_T96 N p).f1=0
        · refine qa k1 ?_
          by_cases k2:(rd_T96 N p).f2=0
          · refine qa k2 ?_
            by_cases k3:(rd_T96 N p).f3≥0
            · refine qa k3 ?_
              refine qb (fun k4=>c1 ⟨k1,k2,k3,k4⟩) ?_
              exact Ev.now _
            · refine qb k3 ?_
              exact Ev.now _
          · refine qb k2 ?_
            exact Ev.now _
        · refine qb k1 ?_
          exact Ev.now _
    · by_cases c1:nd (rd_T96 N p)=true∧(p:Int)<(rd_T96 N p).f1∧(p:Int)<(rd_T96 N p).f2
      case neg=>
        refine hno (by rw [vis,if_pos hp,if_neg c0,if_neg (fun c=>c1 ⟨c.1,c.2.1,c.2.2.1⟩)]) (hin _ ?_)
        refine qb c0 ?_
        rw [qbu] at c1
        by_cases k1:(rd_T96 N p).f0<0
        · refine qa k1 ?_
          exact Ev.now _
        refine qb k1 ?_
        by_cases k2:(rd_T96 N p).f0>23
        · refine qa k2 ?_
          exact Ev.now _
        refine qb k2 ?_
        by_cases k3:(rd_T96 N p).f3=0
        · refine qa k3 ?_
          by_cases k4:(rd_T96 N p).f1≤(p:Int)
          · refine qa k4 ?_
            exact Ev.now _
          refine qb k4 ?_
          by_cases k5:(rd_T96 N p).f2≤(p:Int)
          · refine qa k5 ?_
            exact Ev.now _
          exact absurd ⟨⟨by omega,by omega,k3⟩,by omega,by omega⟩ c1
        · refine qb k3 ?_
          exact Ev.now _
      have c1':=(qbu _).1 c1.1
      have hin2:∀ r,Ev (fun k=>if (((C.testBit (rd_T96 N p).f0.toNat).toNat:Nat):Int)=1 then (some (false,M.set p true)) else ((ancepsref40_choices_with.f C V ((rd_T96 N p).f0) 0).bind fun bt90=>((ancepsref40_below.f k l N ((rd_T96 N p).f1) bt90.1 bt90.2 (M.set p true)).bind fun bt92=>(if bt92.1=true then ((ancepsref40_choices_with.f C V ((rd_T96 N p).f0) 1).bind fun bt91=>((ancepsref40_below.f k l N ((rd_T96 N p).f2) bt91.1 bt91.2 bt92.2).bind fun bt93=>(some (bt93.1,bt93.2)))) else (some (false,bt92.2)))))) r→Ev (fun k=>ancepsref40_below.f k l N p (C:Int) (V:Int) M) r:=fun r hr=>by
        refine hin r ?_
        refine qb c0 ?_
        refine qb (by omega) ?_
        refine qb (by omega) ?_
        refine qa c1'.2.2 ?_
        refine qb (by omega) ?_
        refine qb (by omega) ?_
        refine qa c1'.1 ?_
        rw [qdw C hC _ c1'.1 c1'.2.1]
        exact hr
      cases hb:C.testBit (rd_T96 N p).f0.toNat
      case true=>
        refine hno (by rw [vis,if_pos hp,if_neg c0,if_neg (by rw [hb];simp)]) (hin2 _ ?_)
        rw [hb]
        exact qa (by decide) (Ev.now _)
      have hv:vis l N (d+1) p C V=(vis l N d (rd_T96 N p).f1.toNat (wC C (rd_T96 N p).f0) (wV V (rd_T96 N p).f0 false)).bind fun a=>(vis l N d (rd_T96 N p).f2.toNat (wC C (rd_T96 N p).f0) (wV V (rd_T96 N p).f0 true)).bind fun b=>some (p :: (a++b)):=by
        rw [vis,if_pos hp,if_neg c0,if_pos ⟨c1.1,c1.2.1,c1.2.2,hb⟩]
      have hfr:Free C V ((rd_T96 N p).f0 :: []):=⟨hs,fun w hw=>by rw [List.mem_singleton] at hw;rw [hw];exact hb⟩
      have wl:=qca hC c1'.1 c1'.2.1
      have wv:=fun b=>qcb b hV c1'.1 c1'.2.1
      have hw:=fun b=>qdL (vs:=[]) b hC hV ⟨c1'.1,c1'.2.1⟩ hfr
      obtain ⟨r1,e1,l1,t1,f1⟩:=qbf h N hn d (rd_T96 N p).f1.toNat _ _ (M.set p true) (by omega) (by rw [List.length_set];exact hM) wl (wv false) (qcB hs _ _)
      rw [← qg (by omega:0≤(rd_T96 N p).f1)] at e1
      rw [hv]
      have hstep:∀ r,Ev (fun k=>if r1.1=true then ((ancepsref40_choices_with.f C V (rd_T96 N p).f0 1).bind fun bt591=>((ancepsref40_below.f k l N (rd_T96 N p).f2 bt591.1 bt591.2 r1.2).bind fun bt593=>(some (bt593.1,bt593.2)))) else (some (false,r1.2))) r→Ev (fun k=>ancepsref40_below.f k l N p (C:Int) (V:Int) M) r:=fun r hr=>by
        refine hin2 r ?_
        rw [hb]
        refine qb (by decide) ?_
        refine Ev.bind (hw false) ?_
        refine Ev.bind e1 ?_
        exact hr
      cases h1:r1.1
      case false=>
        refine ⟨(false,r1.2),hstep _ (by rw [h1];exact qb (by decide) (Ev.now _)),l1,by simp,fun _ Q hQ hnd hu=>?_⟩
        cases v1:vis l N d (rd_T96 N p).f1.toNat (wC C (rd_T96 N p).f0) (wV V (rd_T96 N p).f0 false) with
        | none=>rw [v1] at hQ;cases hQ
        | some a=>
          rw [v1,Option.bind_some] at hQ
          cases v2:vis l N d (rd_T96 N p).f2.toNat (wC C (rd_T96 N p).f0) (wV V (rd_T96 N p).f0 true) with
          | none=>rw [v2] at hQ;cases hQ
          | some b=>
            rw [v2,Option.bind_some] at hQ
            obtain rfl:=(Option.some.inj hQ).symm
            rw [List.nodup_cons,List.nodup_append] at hnd
            refine f1 h1 a v1 hnd.2.1 (fun j hj=>?_)
            rw [hset,if_neg (fun e=>hnd.1 (by rw [e];exact List.mem_append_left _ hj))]
            exact hu j (.tail _ (List.mem_append_left _ hj))
      obtain ⟨a,v1,n1,u1,m1⟩:=t1 h1
      obtain ⟨r2,e2,l2,t2,f2⟩:=qbf h N hn d (rd_T96 N p).f2.toNat _ _ r1.2 (by omega) l1 wl (wv true) (qcB hs _ _)
      rw [← qg (by omega:0≤(rd_T96 N p).f2)] at e2
      rw [v1,Option.bind_some]
      refine ⟨r2,hstep _ (by rw [h1];exact qa rfl (Ev.bind (hw true) (Ev.bind e2 (Ev.now _)))),l2,fun h2=>?_,fun h2 Q hQ hnd hu=>?_⟩
      · obtain ⟨b,v2,n2,u2,m2⟩:=t2 h2
        refine ⟨p :: (a++b),by rw [v2];rfl,?_,fun j hj=>?_,fun j=>?_⟩
        · have sa:=(qv _ _ _ _ _ _ _ v1).2.1
          have sb:=(qv _ _ _ _ _ _ _ v2).2.1
          rw [List.nodup_cons,List.nodup_append]
          refine ⟨fun hc=>?_,n1,n2,fun x hx y hy e=>?_⟩
          · rcases List.mem_append.1 hc with hc|hc
            · have:=(sa p hc).1;omega
            · have:=(sb p hc).1;omega
          · subst e
            have:=u2 x hy
            rw [m1,decide_eq_true hx,Bool.or_true] at this
            cases this
        · rcases List.mem_cons.1 hj with rfl|hj
          · exact hm
          · have hu1:∀ x,rdOf false (M.set p true) ((x:Nat):Int)=false→rdOf false M (x:Int)=false:=fun x hx=>by
              rw [hset] at hx
              split at hx
              · cases hx
              · exact hx
            rcases List.mem_append.1 hj with hj|hj
            · exact hu1 j (u1 j hj)
            · have:=u2 j hj
              rw [m1,Bool.or_eq_false_iff] at this
              exact hu1 j this.1
        · rw [m2,m1,hset]
          by_cases e:p=j
          · rw [if_pos e];simp [e]
          · rw [if_neg e,Bool.or_assoc]
            congr 1
            rw [Bool.eq_iff_iff]
            simp [List.mem_append]
            omega
      · cases v2:vis l N d (rd_T96 N p).f2.toNat (wC C (rd_T96 N p).f0) (wV V (rd_T96 N p).f0 true) with
        | none=>rw [v2] at hQ;cases hQ
        | some b=>
          rw [v2,Option.bind_some] at hQ
          obtain rfl:=(Option.some.inj hQ).symm
          rw [List.nodup_cons,List.nodup_append] at hnd
          refine f2 h2 b v2 hnd.2.2.1 (fun j hj=>?_)
          rw [m1,hset,if_neg (fun e=>hnd.1 (by rw [e];exact List.mem_append_right _ hj)),hu j (.tail _ (List.mem_append_right _ hj)),Bool.false_or,decide_eq_false_iff_not]
          exact fun hc=>hnd.2.2.2 j hc j hj rfl
theorem qaZ (M:List Bool) (hn:M.length≤2000):∀ (d i:Nat),i+d=M.length→Ev (fun k=>ancepsref40_Check.l0 k M i) ((M.drop i).all id)
  | 0,i,h=>by
    rw [List.drop_eq_nil_of_le (by omega)]
    refine Ev.step (fun k=>by rw [ancepsref40_Check.l0,if_neg (by omega)]) ?_
    exact Ev.now _
  | d+1,i,h=>by
    have hi:i<M.length:=by omega
    have hw:=qc i M.length hi (by omega)
    have hd:M.drop i=rdOf false M (i:Int) :: M.drop (i+1):=qD M i false hi
    rw [hd,List.all_cons]
    refine Ev.step (fun k=>by rw [ancepsref40_Check.l0,if_pos (by omega),if_pos (by omega),hw]) ?_
    cases rdOf false M (i:Int)
    · refine qb (by decide) ?_
      exact Ev.now _
    · refine qa rfl ?_
      exact qaZ M hn d (i+1) (by omega)
theorem qdz (l:List S49) (hs:Sm l) (hl:l.length≤1000) (N:List S96):Ev (fun k=>ancepsref40_Check.f k l N) (qaF l N):=by
  refine Ev.bind (qR l hs hl) ?_
  unfold qaF
  refine qf (fun h=>?_) (fun h=>Ev.now _)
  have hv:=(qj l).1 h
  have hr:=qdO l N
  by_cases h0:(N.length:Int)=0
  · refine qa h0 ?_
    refine qd (Ev.now _) ?_
    cases e:(qZ l.length N&&(vis l N N.length 0 0 0).isSome)
    · rfl
    · have:=(hr.1 e).1;omega
  refine qb h0 ?_
  by_cases h2:(N.length:Int)>2000
  · refine qa h2 ?_
    refine qd (Ev.now _) ?_
    cases e:(qZ l.length N&&(vis l N N.length 0 0 0).isSome)
    · rfl
    · have:=(hr.1 e).2.1;omega
  refine qb h2 ?_
  refine qa (by omega) ?_
  refine qa (by omega) ?_
  rw [Int.toNat_natCast]
  have hz:∀ j:Nat,rdOf false (List.replicate N.length false) (j:Int)=false:=fun j=>by rw [rdOf,List.getD,Int.toNat_natCast,List.getElem?_replicate];split <;> rfl
  obtain ⟨r,e1,l1,t1,f1⟩:=qbf hv N (by omega) N.length 0 0 0 (List.replicate N.length false) (by omega) List.length_replicate (by decide) (by decide) (fun j hj=>by simp at hj)
  refine Ev.bind e1 ?_
  cases hr1:r.1
  · refine qb (by decide) ?_
    refine qd (Ev.now _) ?_
    cases e:(qZ l.length N&&(vis l N N.length 0 0 0).isSome)
    · rfl
    · obtain ⟨_,_,Q,hQ,hn,_⟩:=hr.1 e
      exact absurd (fun j _=>hz j) (f1 hr1 Q hQ hn)
  · refine qa rfl ?_
    obtain ⟨Q,hQ,hn,_,hm⟩:=t1 hr1
    have e2:=qaZ r.2 (by omega) r.2.length 0 (by omega)
    rw [List.drop_zero] at e2
    refine qd e2 ?_
    rw [Bool.eq_iff_iff,hr,List.all_eq_true]
    have hg:∀ j (hj:j<r.2.length),r.2[j]=decide (j∈Q):=fun j hj=>by
      have:=hm j
      rw [hz,Bool.false_or] at this
      rw [← this,rdOf,List.getD,Int.toNat_natCast,List.getElem?_eq_getElem hj,Option.getD_some]
    constructor
    · intro ha
      refine ⟨by omega,by omega,Q,hQ,hn,fun j hj=>?_⟩
      have:=ha r.2[j] (List.getElem_mem _)
      rw [hg] at this
      simpa using this
    · rintro ⟨_,_,Q',hQ',_,hc⟩ x hx
      rw [hQ] at hQ'
      obtain rfl:=(Option.some.inj hQ').symm
      obtain ⟨j,hj,e⟩:=List.getElem_of_mem hx
      rw [← e,hg]
      simpa using hc j (by omega)
theorem qcC {l:List S49} {N:List S96} (a:Nat):∀ (k p C V:Nat),(∀ j,V.testBit j=(a.testBit j&&C.testBit j))→(vis l N k p C V).isSome=true→sat l a=false
  | 0,_,_,_,_,h=>by simp [vis] at h
  | k+1,p,C,V,hag,h=>by
    rw [vis] at h
    split at h
    · split at h
      · split at h
        · next hc=>
          have hl:=(qbt _ _).1 hc.1
          have hmem:=ql l (rd_T96 N p).f3.toNat (by omega)
          rw [← qg hl.2.2.1] at hmem
          have hno:=qcv hc.2 (a:=a) (fun w _=>hag w.toNat)
          unfold sat
          rw [List.all_eq_false]
          exact ⟨_,hmem,by rw [hno];decide⟩
        · cases h
      · split at h
        · next hc=>
          have hn:=(qbu _).1 hc.1
          have hag':∀ b,a.testBit (rd_T96 N p).f0.toNat=b→∀ j,(wV V (rd_T96 N p).f0 b).testBit j=(a.testBit j&&(wC C (rd_T96 N p).f0).testBit j):=fun b hb j=>by
            rw [qaf,qaz,hag]
            by_cases e:(rd_T96 N p).f0.toNat=j
            · rw [← e,hb];simp
            · rw [show ((rd_T96 N p).f0.toNat == j)=false by simpa using e];simp
          cases v1:vis l N k (rd_T96 N p).f1.toNat (wC C (rd_T96 N p).f0) (wV V (rd_T96 N p).f0 false) with
          | none=>rw [v1] at h;cases h
          | some x=>
            rw [v1,Option.bind_some] at h
            cases v2:vis l N k (rd_T96 N p).f2.toNat (wC C (rd_T96 N p).f0) (wV V (rd_T96 N p).f0 true) with
            | none=>rw [v2] at h;cases h
            | some y=>
              cases hb:a.testBit (rd_T96 N p).f0.toNat
              · exact qcC a k _ _ _ (hag' false hb) (by rw [v1];rfl)
              · exact qcC a k _ _ _ (hag' true hb) (by rw [v2];rfl)
        · cases h
    · cases h
theorem qdP {l:List S49} {N:List S96} (h:qaF l N=true):qX l=0∧SS l=[]:=by
  unfold qaF at h
  split at h
  · next hv=>
    rw [Bool.and_eq_true] at h
    refine ⟨hv,?_⟩
    unfold SS sl
    rw [List.map_eq_nil_iff,List.filter_eq_nil_iff]
    intro a _
    rw [qcC a _ 0 0 0 (fun j=>by simp) h.2]
    decide
  · cases h
structure Md (l:List S49):Prop where
  len:l.length≤6
  tab:∀ t,t∈l→VT t.f0 t.f1∧Chn 8 none t.f0
theorem Md.vs {l:List S49} (h:Md l):VS l:=⟨by have:=h.len;omega,fun t ht=>(h.tab t ht).1⟩
theorem qG {l:List S49} (h:VS l):Sm l:=fun t ht=>by
  have h1:=(h.tab t ht).len
  have h2:=(h.tab t ht).rows_len
  omega
theorem Md.sm {l:List S49} (h:Md l):Sm l:=qG h.vs
def cmb:Nat→Nat→Nat→List (List Int)
  | _,0,_=>[[]]
  | 0,_+1,_=>[]
  | d+1,s+1,f=>((cmb d s (f+1)).map fun l=>(f:Int) :: l)++cmb d (s+1) (f+1)
theorem qt (d f:Nat):cmb d 0 f=[[]]:=by cases d <;> rfl
theorem qx:∀ (d s f:Nat),(cmb d s f).length≤2 ^ d
  | d,0,f=>by rw [qt];exact Nat.one_le_two_pow
  | 0,s+1,f=>by simp [cmb]
  | d+1,s+1,f=>by
    have h1:=qx d s (f+1)
    have h2:=qx d (s+1) (f+1)
    rw [cmb,List.length_append,List.length_map,Nat.pow_succ]
    omega
theorem Chn.of_low {hi:Int} {q:Int}:∀ {l:List Int},Chn hi none l→(∀ x,x∈l→q<x)→Chn hi (some q) l
  | [],_,_=>trivial
  | x :: l,⟨h0,h1,_,h3⟩,h=>⟨h0,h1,fun p hp=>by injection hp with hp;have:=h x List.mem_cons_self;omega,h3⟩
theorem qk:∀ (d s f:Nat) (l:List Int),l∈cmb d s f↔l.length=s∧Chn ((f+d:Nat):Int) none l∧∀ x,x∈l→(f:Int)≤x
  | d,0,f,l=>by
    rw [qt,List.mem_singleton]
    constructor
    · rintro rfl;exact ⟨rfl,trivial,fun x hx=>by simp at hx⟩
    · rintro ⟨h,_⟩;exact List.eq_nil_of_length_eq_zero h
  | 0,s+1,f,l=>by
    constructor
    · intro h;simp [cmb] at h
    · rintro ⟨h1,h2,h3⟩
      cases l with
      | nil=>simp at h1
      | cons x l=>have:=h2.2.1;have:=h3 x List.mem_cons_self;omega
  | d+1,s+1,f,l=>by
    rw [cmb,List.mem_append,List.mem_map,qk d (s+1) (f+1) l]
    have e:((f+1+d:Nat):Int)=((f+(d+1):Nat):Int):=by omega
    rw [e]
    constructor
    · rintro (⟨m,hm,rfl⟩|⟨h1,h2,h3⟩)
      · obtain ⟨h1,h2,h3⟩:=(qk d s (f+1) m).1 hm
        rw [e] at h2
        refine ⟨by rw [List.length_cons,h1],⟨by omega,by omega,(fun q hq=>by cases hq),h2.of_low (fun x hx=>by have:=h3 x hx;omega)⟩,fun x hx=>?_⟩
        rcases List.mem_cons.1 hx with rfl|hx
        · exact Int.le_refl _
        · have:=h3 x hx;omega
      · exact ⟨h1,h2,fun x hx=>by have:=h3 x hx;omega⟩
    · rintro ⟨h1,h2,h3⟩
      cases l with
      | nil=>simp at h1
      | cons x m=>
        have hx:=h3 x List.mem_cons_self
        by_cases hf:x=(f:Int)
        · subst hf
          refine .inl ⟨m,(qk d s (f+1) m).2 ⟨by simpa using h1,by rw [e];exact h2.2.2.2.weak,fun y hy=>?_⟩,rfl⟩
          have:=(h2.2.2.2.mem y hy).2.2 _ rfl
          omega
        · refine .inr ⟨h1,h2,fun y hy=>?_⟩
          rcases List.mem_cons.1 hy with rfl|hy
          · omega
          · have:=(h2.2.2.2.mem y hy).2.2 _ rfl
            omega
theorem qaG:∀ (d s f:Nat),(cmb d s f).Nodup
  | d,0,f=>by rw [qt];simp
  | 0,s+1,f=>by simp [cmb]
  | d+1,s+1,f=>by
    rw [cmb]
    refine List.nodup_append.2 ⟨?_,qaG d (s+1) (f+1),?_⟩
    · unfold List.Nodup
      rw [List.pairwise_map]
      exact (qaG d s (f+1)).imp (fun h e=>h (List.cons.inj e).2)
    · intro a ha b hb e
      subst e
      obtain ⟨m,_,rfl⟩:=List.mem_map.1 ha
      have:=((qk d (s+1) (f+1) _).1 hb).2.2 f List.mem_cons_self
      omega
theorem qaH:∀ (d s f g:Nat),cmb d s (f+g)=(cmb d s f).map fun l=>l.map fun x=>x+(g:Int)
  | d,0,f,g=>by rw [qt,qt];rfl
  | 0,s+1,f,g=>rfl
  | d+1,s+1,f,g=>by
    have h1:=qaH d s (f+1) g
    have h2:=qaH d (s+1) (f+1) g
    rw [show f+1+g=f+g+1 by omega] at h1 h2
    rw [cmb,cmb,h1,h2,List.map_append,List.map_map,List.map_map]
    congr 1
def frm (f:Nat) (l:List Int):Nat:=match l.getLast? with
  | none=>f
  | some x=>x.toNat+1
def ext (n f:Nat) (l:List Int):List (List Int):=(List.range' (frm f l) (n - frm f l)).map fun i:Nat=>l++[(i:Int)]
theorem qdQ (f:Nat) (l:List Int):frm f ((f:Int) :: l)=frm (f+1) l:=by
  unfold frm
  cases l with
  | nil=>simp
  | cons y l=>
    rw [List.getLast?_cons_cons]
    cases e:(y :: l).getLast? with
    | none=>exact absurd (List.getLast?_eq_none_iff.1 e) (by simp)
    | some x=>rfl
theorem qdR (n f:Nat) (l:List Int):ext n f ((f:Int) :: l)=(ext n (f+1) l).map fun l=>(f:Int) :: l:=by
  unfold ext
  rw [qdQ,List.map_map]
  congr 1
theorem qea (f g:Nat) {l:List Int} (h:l≠[]):frm f l=frm g l:=by
  unfold frm
  cases e:l.getLast? with
  | none=>exact absurd (List.getLast?_eq_none_iff.1 e) h
  | some x=>rfl
theorem qc9 (n:Nat):∀ (d f:Nat),f+d=n→ext n f []=cmb d 1 f
  | 0,f,h=>by
    unfold ext
    rw [show frm f []=f from rfl,show n - f=0 by omega]
    rfl
  | d+1,f,h=>by
    have ih:=qc9 n d (f+1) (by omega)
    unfold ext at ih ⊢
    rw [show frm f []=f from rfl,show n - f=d+1 by omega,List.range'_succ,List.map_cons,cmb,qt,← ih,show frm (f+1) []=f+1 from rfl,show n - (f+1)=d by omega]
    rfl
theorem qbJ (n:Nat):∀ (d s f:Nat),f+d=n→(cmb d s f).flatMap (ext n f)=cmb d (s+1) f
  | d,0,f,h=>by rw [qt,List.flatMap_cons,List.flatMap_nil,List.append_nil,qc9 n d f h]
  | 0,s+1,f,h=>rfl
  | d+1,s+1,f,h=>by
    have h1:=qbJ n d s (f+1) (by omega)
    have h2:=qbJ n d (s+1) (f+1) (by omega)
    have e1:∀ L:List (List Int),(L.map fun l=>(f:Int) :: l).flatMap (ext n f)=(L.flatMap (ext n (f+1))).map fun l=>(f:Int) :: l:=by
      intro L
      induction L with
      | nil=>rfl
      | cons l L ih=>rw [List.map_cons,List.flatMap_cons,List.flatMap_cons,List.map_append,ih,qdR]
    have e2:∀ L:List (List Int),(∀ l,l∈L→l≠[])→L.flatMap (ext n f)=L.flatMap (ext n (f+1)):=by
      intro L
      induction L with
      | nil=>intro _;rfl
      | cons l L ih=>
        intro hL
        rw [List.flatMap_cons,List.flatMap_cons,ih (fun m hm=>hL m (List.mem_cons_of_mem _ hm))]
        congr 1
        unfold ext
        rw [qea f (f+1) (hL l List.mem_cons_self)]
    rw [cmb,List.flatMap_append,e1,h1,e2 _ (fun l hl e=>by have:=((qk d (s+1) (f+1) l).1 hl).1;rw [e] at this;simp at this),h2]
    rfl
def qn (P:List Int→Bool) (s:List Int):Bool:=P s&&(List.range s.length).all fun i=>!P (s.eraseIdx i)
def Mon (n:Nat) (P:List Int→Bool):Prop:=∀ s t,Chn n none s→Chn n none t→(∀ x,x∈s→x∈t)→P s=true→P t=true
def low (n:Nat) (P:List Int→Bool) (k:Nat):List (List Int):=(List.range k).flatMap fun j=>(cmb n j 0).filter (qn P)
def lst (n:Nat) (P:List Int→Bool):List (List Int):=low n P (n+1)
def step (P:List Int→Bool) (out:List (List Int)) (s:List Int):List (List Int):=if (out.any fun o=>o.all fun x=>decide (x∈s))=true then out else if P s=true then out++[s] else out
theorem qC (P:List Int→Bool) (s:List Int):qn P s=true↔P s=true∧∀ i,i<s.length→P (s.eraseIdx i)=false:=by
  unfold qn
  rw [Bool.and_eq_true,List.all_eq_true]
  constructor
  · rintro ⟨h1,h2⟩;exact ⟨h1,fun i hi=>by have:=h2 i (List.mem_range.2 hi);simpa using this⟩
  · rintro ⟨h1,h2⟩;exact ⟨h1,fun i hi=>by rw [h2 i (List.mem_range.1 hi)];rfl⟩
theorem Chn.sub {hi:Int}:∀ {l' l:List Int},l'.Sublist l→∀ {p:Option Int},Chn hi p l→Chn hi p l':=by
  intro l' l h
  induction h with
  | slnil=>intro p _;trivial
  | @cons l1 l2 a h ih=>
    intro p hc
    have h3:=hc.2.2.2
    have:Chn hi none l1:=ih h3.weak
    cases p with
    | none=>exact this
    | some q=>exact this.of_low (fun x hx=>by have h4:=(h3.mem x (h.subset hx)).2.2 a rfl;have:=hc.2.2.1 q rfl;omega)
  | cons_cons a h ih=>intro p hc;exact ⟨hc.1,hc.2.1,hc.2.2.1,ih hc.2.2.2⟩
theorem Chn.nodup {hi:Int}:∀ {l:List Int} {p:Option Int},Chn hi p l→l.Nodup
  | [],_,_=>List.nodup_nil
  | x :: l,p,h=>List.nodup_cons.2 ⟨fun hx=>by have:=(h.2.2.2.mem x hx).2.2 x rfl;omega,h.2.2.2.nodup⟩
theorem qda (P:List Int→Bool):∀ (n:Nat) (s:List Int),s.length=n→P s=true→∃ o,o.Sublist s∧qn P o=true
  | n,s,hn,hs=>by
    by_cases h:qn P s=true
    · exact ⟨s,List.Sublist.refl _,h⟩
    · have:∃ i,i<s.length∧P (s.eraseIdx i)=true:=by
        by_cases hx:∃ i,i<s.length∧P (s.eraseIdx i)=true
        · exact hx
        · exact absurd ((qC P s).2 ⟨hs,fun i hi=>by rw [← Bool.not_eq_true];exact fun h2=>hx ⟨i,hi,h2⟩⟩) h
      obtain ⟨i,hi,hp⟩:=this
      have hl:(s.eraseIdx i).length<n:=by rw [List.length_eraseIdx];split <;> omega
      obtain ⟨o,ho,hm⟩:=qda P _ (s.eraseIdx i) rfl hp
      exact ⟨o,ho.trans (List.eraseIdx_sublist _ _),hm⟩
  termination_by n=>n
theorem qag (n:Nat) (P:List Int→Bool) (k:Nat) (s:List Int):s∈low n P k↔s.length<k∧Chn n none s∧qn P s=true:=by
  unfold low
  rw [List.mem_flatMap]
  constructor
  · rintro ⟨j,hj,hs⟩
    obtain ⟨h1,h2⟩:=List.mem_filter.1 hs
    obtain ⟨h3,h4,_⟩:=(qk n j 0 s).1 h1
    rw [Nat.zero_add] at h4
    have:=List.mem_range.1 hj
    exact ⟨by omega,h4,h2⟩
  · rintro ⟨h1,h2,h3⟩
    refine ⟨s.length,List.mem_range.2 h1,List.mem_filter.2 ⟨(qk n _ 0 s).2 ⟨rfl,by rw [Nat.zero_add];exact h2,fun x hx=>?_⟩,h3⟩⟩
    have:=(h2.mem x hx).1
    omega
theorem qdb (n:Nat) (P:List Int→Bool) (s:List Int):s∈lst n P↔Chn n none s∧qn P s=true:=by
  unfold lst
  rw [qag]
  constructor
  · rintro ⟨_,h1,h2⟩;exact ⟨h1,h2⟩
  · rintro ⟨h1,h2⟩;exact ⟨by have:=h1.len (by omega);omega,h1,h2⟩
theorem qdj {n:Int} {o s:List Int} (ho:Chn n none o) (hs:Chn n none s) (h:∀ x,x∈o→x∈s) (hne:o≠s):∃ i,i<s.length∧∀ x,x∈o→x∈s.eraseIdx i:=by
  have:∃ x,x∈s∧x∉o:=by
    by_cases hx:∃ x,x∈s∧x∉o
    · exact hx
    · refine absurd (ho.same hs (fun x=>⟨h x,fun hx2=>?_⟩)) hne
      by_cases hxo:x∈o
      · exact hxo
      · exact absurd ⟨x,hx2,hxo⟩ hx
  obtain ⟨x,hx,hxo⟩:=this
  obtain ⟨i,hi,rfl⟩:=List.getElem_of_mem hx
  refine ⟨i,hi,fun y hy=>?_⟩
  obtain ⟨j,hj,rfl⟩:=List.getElem_of_mem (h y hy)
  exact List.mem_eraseIdx_iff_getElem.2 ⟨j,hj,fun e=>hxo (by subst e;exact hy),rfl⟩
theorem qdk {n:Nat} {P:List Int→Bool} (hP:Mon n P) {k:Nat} {pre rest:List (List Int)} {s:List Int} (h:cmb n k 0=pre++s :: rest):step P (low n P k++pre.filter (qn P)) s=low n P k++(pre++[s]).filter (qn P):=by
  have hmem:∀ o,o∈pre++s :: rest→o.length=k∧Chn n none o:=fun o ho=>by
    rw [← h] at ho
    obtain ⟨h1,h2,_⟩:=(qk n k 0 o).1 ho
    rw [Nat.zero_add] at h2
    exact ⟨h1,h2⟩
  obtain ⟨hsl,hsc⟩:=hmem s (by simp)
  have hnd:=qaG n k 0
  rw [h] at hnd
  have hsp:s∉pre:=fun hs=>(List.nodup_append.1 hnd).2.2 s hs s List.mem_cons_self rfl
  rw [List.filter_append]
  unfold step
  by_cases hm:qn P s=true
  · have hn:¬ ((low n P k++pre.filter (qn P)).any fun o=>o.all fun x=>decide (x∈s))=true:=by
      intro ha
      obtain ⟨o,ho,hos⟩:=List.any_eq_true.1 ha
      have hos:∀ x,x∈o→x∈s:=fun x hx=>by have:=List.all_eq_true.1 hos x hx;simpa using this
      have:o≠s∧Chn n none o∧qn P o=true:=by
        rcases List.mem_append.1 ho with ho|ho
        · obtain ⟨h1,h2,h3⟩:=(qag n P k o).1 ho
          exact ⟨fun e=>by rw [e] at h1;omega,h2,h3⟩
        · obtain ⟨h1,h2⟩:=List.mem_filter.1 ho
          exact ⟨fun e=>hsp (e ▸ h1),(hmem o (List.mem_append_left _ h1)).2,h2⟩
      obtain ⟨h1,h2,h3⟩:=this
      obtain ⟨i,hi,h4⟩:=qdj h2 hsc hos h1
      have h5:=hP o (s.eraseIdx i) h2 (hsc.sub (List.eraseIdx_sublist _ _)) h4 ((qC P o).1 h3).1
      rw [((qC P s).1 hm).2 i hi] at h5
      cases h5
    rw [if_neg hn,if_pos ((qC P s).1 hm).1,List.filter_cons_of_pos hm,List.filter_nil,List.append_assoc]
  · rw [List.filter_cons_of_neg hm,List.filter_nil,List.append_nil]
    by_cases hp:P s=true
    · have ha:((low n P k++pre.filter (qn P)).any fun o=>o.all fun x=>decide (x∈s))=true:=by
        have:∃ i,i<s.length∧P (s.eraseIdx i)=true:=by
          by_cases hx:∃ i,i<s.length∧P (s.eraseIdx i)=true
          · exact hx
          · exact absurd ((qC P s).2 ⟨hp,fun i hi=>by rw [← Bool.not_eq_true];exact fun h2=>hx ⟨i,hi,h2⟩⟩) hm
        obtain ⟨i,hi,hpi⟩:=this
        obtain ⟨o,ho,hmo⟩:=qda P _ _ rfl hpi
        have hsub:=ho.trans (List.eraseIdx_sublist s i)
        have hlen:o.length<k:=by
          have h1:=ho.length_le
          rw [List.length_eraseIdx,if_pos hi] at h1
          omega
        refine List.any_eq_true.2 ⟨o,List.mem_append_left _ ((qag n P k o).2 ⟨hlen,hsc.sub hsub,hmo⟩),List.all_eq_true.2 (fun x hx=>?_)⟩
        simpa using hsub.subset hx
      rw [if_pos ha]
    · rw [if_neg hp]
      split <;> rfl
theorem qK (n:Nat) (P:List Int→Bool) (k:Nat):low n P (k+1)=low n P k++(cmb n k 0).filter (qn P):=by
  unfold low
  rw [List.range_succ,List.flatMap_append,List.flatMap_cons,List.flatMap_nil,List.append_nil]
theorem qdc (n:Nat) (P:List Int→Bool):∀ k,(low n P k).length≤k * 2 ^ n
  | 0=>by simp [low]
  | k+1=>by
    have h1:=qdc n P k
    have h2:=List.length_filter_le (qn P) (cmb n k 0)
    have h3:=qx n k 0
    rw [qK,List.length_append,Nat.succ_mul]
    omega

def sub (l:List S49) (s:List Int):List S49:=s.map (rd_T49 l)
def bad (l:List S49) (s:List Int):Bool:=(qY (sub l s)).2 != 0
theorem qdA {l:List S49} {i:Int} (h0:0≤i) (h1:i<(l.length:Int)):rd_T49 l i∈l:=by
  have:=ql l i.toNat (by omega)
  rw [← qg h0] at this
  exact this
theorem qdB {l:List S49} {s:List Int} (hs:Chn (l.length:Int) none s):∀ t,t∈sub l s→t∈l:=fun t ht=>by
  obtain ⟨i,hi,rfl⟩:=List.mem_map.1 ht
  have:=hs.mem i hi
  exact qdA this.1 this.2.1
theorem qcD {l:List S49} (h:VS l) {s:List Int} (hs:Chn (l.length:Int) none s):VS (sub l s):=by
  refine ⟨?_,fun t ht=>h.tab t (qdB hs t ht)⟩
  have h1:=hs.len (by omega)
  have h2:=h.len
  unfold sub
  rw [List.length_map]
  omega
theorem qep {l:List S49} (h:VS l):SS l≠[]↔∃ a,sat l a=true:=by
  unfold SS sl
  constructor
  · intro hn
    obtain ⟨x,hx⟩:=List.exists_mem_of_ne_nil _ hn
    obtain ⟨a,ha,_⟩:=List.mem_map.1 hx
    exact ⟨a,(List.mem_filter.1 ha).2⟩
  · rintro ⟨a,ha⟩ hn
    have hb:sat l (asg (occ l) (row (occ l) a)||| 0)=true:=by
      rw [Nat.or_zero]
      refine List.all_eq_true.2 (fun t ht=>?_)
      have:=List.all_eq_true.1 ha t ht
      rw [← this]
      exact qcn _ _ (fun w hw=>qem h.occ.1 a ((h.occ.2 w).2 (List.mem_flatMap.2 ⟨t,ht,hw⟩)))
    have:(asg (occ l) (row (occ l) a)||| 0)∈((List.range (2 ^ (occ l).length)).map fun i=>asg (occ l) i||| 0).filter (sat l):=List.mem_filter.2 ⟨List.mem_map.2 ⟨_,List.mem_range.2 (qbk _ _),rfl⟩,hb⟩
    rw [List.map_eq_nil_iff] at hn
    rw [hn] at this
    cases this
theorem qcE {l:List S49} (h:VS l):(qY l).2=0↔∃ a,sat l a=true:=by
  rw [← qep h]
  unfold qY
  rw [if_pos ((qj l).2 h)]
  cases SS l with
  | nil=>exact ⟨fun e=>absurd e (by decide),fun e=>absurd rfl e⟩
  | cons x xs=>exact ⟨fun _ e=>(by cases e),fun _=>rfl⟩
theorem qdd (l:List S49) (s:List Int) (a:Nat):sat (sub l s) a=true↔∀ i,i∈s→hs (rd_T49 l i).f0 (rd_T49 l i).f1 a=true:=by
  unfold sat sub
  rw [List.all_eq_true]
  exact ⟨fun h i hi=>h _ (List.mem_map.2 ⟨i,hi,rfl⟩),fun h t ht=>by obtain ⟨i,hi,rfl⟩:=List.mem_map.1 ht;exact h i hi⟩
theorem qbK {l:List S49} (h:VS l) {s:List Int} (hc:Chn (l.length:Int) none s):bad l s=false↔∃ a,∀ i,i∈s→hs (rd_T49 l i).f0 (rd_T49 l i).f1 a=true:=by
  unfold bad
  have e:((qY (sub l s)).2 != 0)=false↔(qY (sub l s)).2=0:=by simp
  rw [e,qcE (qcD h hc)]
  exact ⟨fun ⟨a,ha⟩=>⟨a,(qdd l s a).1 ha⟩,fun ⟨a,ha⟩=>⟨a,(qdd l s a).2 ha⟩⟩
theorem qbL {l:List S49} (h:VS l):Mon l.length (bad l):=fun s t hs ht hst hb=>by
  cases e:bad l t with
  | true=>rfl
  | false=>
    obtain ⟨a,ha⟩:=(qbK h ht).1 e
    have:=(qbK h hs).2 ⟨a,fun i hi=>ha i (hst i hi)⟩
    rw [this] at hb
    cases hb
def oth (n:Nat) (s:List Int):List Int:=flt (fun m=>!decide ((m:Int)∈s)) n 0
theorem qeb (n:Nat) (s:List Int) (x:Int):x∈oth n s↔0≤x∧x<(n:Int)∧x∉s:=by
  unfold oth
  rw [qad]
  constructor
  · rintro ⟨m,_,h1,h2,rfl⟩;exact ⟨by omega,by omega,by simpa using h2⟩
  · rintro ⟨h0,h1,h2⟩;exact ⟨x.toNat,by omega,by omega,by rw [← qg h0];simpa using h2,qg h0⟩
theorem qah (n:Nat) (s:List Int):Chn (n:Int) none (oth n s):=by
  have:=qU (fun m=>!decide ((m:Int)∈s)) n 0 none (fun q hq=>by cases hq)
  rw [Nat.zero_add] at this
  exact this
def rep (l:List S49) (s:List Int):Bool:=!bad l (oth l.length s)
theorem qec {l:List S49} (h:VS l):Mon l.length (rep l):=fun s t hs ht hst hb=>by
  unfold rep at hb ⊢
  cases e:bad l (oth l.length t) with
  | false=>rfl
  | true=>
    have:=qbL h _ _ (qah _ t) (qah _ s) (fun x hx=>by
      rw [qeb] at hx ⊢
      exact ⟨hx.1,hx.2.1,fun hs2=>hx.2.2 (hst x hs2)⟩) e
    rw [this] at hb
    cases hb
theorem qN {l:List S49} (h:Sm l) {s:List Int} (hs:Chn (l.length:Int) none s):Sm (sub l s):=fun t ht=>h t (qdB hs t ht)
theorem qh {n:Nat} (hn:n≤1000) {s:List Int} (hs:Chn (n:Int) none s):s.length≤n:=by have:=hs.len (by omega);omega
theorem qa0 (l:List S49) (s:List Int) (hs:Chn (l.length:Int) none s) (hl:s.length≤1000):∀ (d i:Nat) (out:List S49),i+d=s.length→out.length=i→Ev (fun k=>conflict_system.l0 k l out s s.length i) (out++sub l (s.drop i))
  | 0,i,out,h,ho=>by
    rw [List.drop_eq_nil_of_le (by omega)]
    exact qd (Ev.step (f:=fun _=>some out) (fun k=>by rw [conflict_system.l0,if_neg (by omega)]) (Ev.now _)) (by simp [sub])
  | d+1,i,out,h,ho=>by
    have hi:i<s.length:=by omega
    have hw:=qc i s.length hi (by omega)
    have hm:=hs.mem _ (qz s i hi)
    have ih:=qa0 l s hs hl d (i+1) (out++[rd_T49 l (rd s i)]) (by omega) (by simp;omega)
    refine qd (Ev.step (fun k=>by rw [conflict_system.l0,if_pos (by omega),if_pos (by omega),if_pos (by omega),if_pos hm.1,if_pos hm.2.1,if_pos (by omega),hw]) ih) ?_
    rw [qi s i hi,List.append_assoc]
    rfl
theorem q7 (l:List S49) {s:List Int} (hs:Chn (l.length:Int) none s) (hl:s.length≤1000):Ev (fun k=>conflict_system.f k l s) (sub l s):=by
  have:=qa0 l s hs hl s.length 0 [] (by omega) rfl
  rw [List.drop_zero,List.nil_append] at this
  exact this
theorem qM {l:List S49} (h:Sm l) {s:List Int} (hs:Chn (l.length:Int) none s) (hl:s.length≤1000):Ev (fun k=>conflict_solvable.f k l s) (!bad l s):=by
  refine Ev.bind (q7 l hs hl) (Ev.bind (qdt _ (qN h hs) (by unfold sub;rw [List.length_map];exact hl)) ?_)
  refine qd (Ev.now _) ?_
  unfold bad
  cases e:(qY (sub l s)).2 == 0 <;> simp [bne,e]
theorem qw {n:Int} {s:List Int} (hs:Chn n none s) (i:Nat):Chn n none (s.eraseIdx i):=hs.sub (List.eraseIdx_sublist _ _)
theorem qq (l:List (List Int)) (i:Nat) (hi:i<l.length):l.drop i=rd_L1 l i :: l.drop (i+1):=qD l i [] hi
theorem qde (n:Nat) (hn:n≤16) (L:List (List Int)) (s:List Int) (i:Nat) (r:List (List Int)):∀ (d j:Nat) (out:List (List Int)),j+d=n→s.length≤1000→out.length+d≤2000000→
    Ev (fun k=>conflict_sets.l0 k n (out++(List.range' j d).map fun m:Nat=>s++[(m:Int)]) L L.length (wrap64 ((i:Int)+1))) r→Ev (fun k=>conflict_sets.l1 k n out s j L L.length i) r
  | 0,j,out,h,hs,ho,H=>by
    rw [show List.range' j 0=[] from rfl,List.map_nil,List.append_nil] at H
    exact Ev.step (fun k=>by rw [conflict_sets.l1,if_neg (by omega)]) H
  | d+1,j,out,h,hs,ho,H=>by
    have hw:wrap64 ((j:Int)+1)=((j+1:Nat):Int):=by rw [qe _ (by omega)];omega
    refine Ev.step (fun k=>by rw [conflict_sets.l1,if_pos (by omega)]) (Ev.bind (f:=fun k t=>if t.length<17592186044416 then (if out.length<5864062014805 then conflict_sets.l1 k n (out++[t++[(j:Int)]]) s (wrap64 ((j:Int)+1)) L L.length i else none) else none) (show Ev (fun _=>slices_Clone_int_int.f s) s from ?_) (qa (by omega) (qa (by omega) ?_)))
    · refine qd (qa (by simp;omega) (Ev.now _)) (by simp)
    · rw [hw]
      refine qde n hn L s i r d (j+1) _ (by omega) hs (by simp;omega) ?_
      rw [List.range'_succ,List.map_cons] at H
      rw [List.append_assoc]
      exact H
theorem qeq {n:Nat} {s:List Int} (hs:Chn (n:Int) none s):frm 0 s≤n:=by
  unfold frm
  cases e:s.getLast? with
  | none=>exact Nat.zero_le _
  | some x=>have:=hs.mem x (List.mem_of_getLast? e);show x.toNat+1≤n;omega
theorem qbX (n:Nat) (hn:n≤16) (L:List (List Int)) (hL:∀ s,s∈L→Chn (n:Int) none s) (hl:L.length≤100000):∀ (d i:Nat) (out:List (List Int)),i+d=L.length→out.length≤16 * i→
    Ev (fun k=>conflict_sets.l0 k n out L L.length i) (out++(L.drop i).flatMap (ext n 0))
  | 0,i,out,h,ho=>by
    rw [List.drop_eq_nil_of_le (by omega)]
    exact qd (Ev.step (f:=fun _=>some out) (fun k=>by rw [conflict_sets.l0,if_neg (by omega)]) (Ev.now _)) (by simp)
  | d+1,i,out,h,ho=>by
    have hi:i<L.length:=by omega
    have hw:=qc i L.length hi (by omega)
    have hs:=hL (rd_L1 L i) (by have:=qq L i hi;have h2:=List.mem_of_mem_drop (l:=L) (i:=i) (a:=rd_L1 L i) (by rw [this];exact List.mem_cons_self);exact h2)
    have hsl:=qh (by omega) hs
    have hf:=qeq hs
    have ih:=qbX n hn L hL hl d (i+1) (out++ext n 0 (rd_L1 L i)) (by omega) (by unfold ext;rw [List.length_append,List.length_map,List.length_range'];omega)
    rw [qq L i hi,List.flatMap_cons,← List.append_assoc]
    refine Ev.step (fun k=>by rw [conflict_sets.l0,if_pos (by omega),if_pos (by omega),if_pos (by omega)]) ?_
    have key:∀ m:Nat,m=frm 0 (rd_L1 L i)→Ev (fun k=>conflict_sets.l1 k n out (rd_L1 L i) m L L.length i) (out++ext n 0 (rd_L1 L i)++(L.drop (i+1)).flatMap (ext n 0)):=by
      intro m hm
      subst hm
      refine qde n hn L _ i _ (n - frm 0 (rd_L1 L i)) _ out (by omega) (by omega) (by omega) ?_
      rw [hw]
      exact ih
    generalize hg:rd_L1 L i=s at *
    refine qd (s:=out++ext n 0 s++(L.drop (i+1)).flatMap (ext n 0)) ?_ rfl
    by_cases hp:(s.length:Int)>0
    · refine qa hp ?_
      have hw1:wrap64 ((s.length:Int) - 1)=((s.length - 1:Nat):Int):=by rw [qe _ (by omega)];omega
      refine Ev.congr (fun k=>by rw [hw1,if_pos (by omega),if_pos (by omega)]) ?_
      have hlast:s.getLast?=some (rd s ((s.length - 1:Nat):Int)):=by
        rw [List.getLast?_eq_getElem?]
        exact qel s _ (by omega)
      have hfr:frm 0 s=(rd s ((s.length - 1:Nat):Int)).toNat+1:=by unfold frm;rw [hlast]
      have hmem:=hs.mem _ (List.mem_of_getLast? hlast)
      have hw2:wrap64 (rd s ((s.length - 1:Nat):Int)+1)=((frm 0 s:Nat):Int):=by rw [hfr,qe _ (by omega)];omega
      refine Ev.congr (fun k=>by rw [hw2]) (key _ rfl)
    · refine qb hp ?_
      have hs0:s=[]:=List.eq_nil_of_length_eq_zero (by omega)
      exact key 0 (by rw [hs0];rfl)
theorem qaS (n:Nat) (hn:n≤16):∀ s:Nat,s≤1000→Ev (fun k=>conflict_sets.f k n s) (cmb n s 0)
  | 0,_=>by
    rw [qt]
    exact Ev.step (f:=fun _=>some [[]]) (fun k=>by rw [conflict_sets.f,if_pos (by omega)]) (Ev.now _)
  | s+1,hs=>by
    have ih:=qaS n hn s (by omega)
    have hw:wrap64 (((s+1:Nat):Int) - 1)=(s:Int):=by rw [qe _ (by omega)];omega
    have hlen:=qx n s 0
    have hp:2 ^ n≤2 ^ 16:=Nat.pow_le_pow_right (by decide) hn
    have h16:(2:Nat) ^ 16=65536:=by decide
    refine Ev.step (fun k=>by rw [conflict_sets.f,if_neg (by omega),hw]) (Ev.bind ih ?_)
    have:=qbX n hn (cmb n s 0) (fun t ht=>by have:=((qk n s 0 t).1 ht).2.1;rw [Nat.zero_add] at this;exact this) (by omega) (cmb n s 0).length 0 [] (by omega) (by simp)
    rw [List.drop_zero,List.nil_append,qbJ n n s 0 (by omega)] at this
    exact this

theorem qa1 (sm lg:List Int) (h1:sm.length≤1000) (h2:lg.length≤1000):∀ (d i:Nat),i+d=sm.length→∃ q:Int,Ev (fun k=>slices_IndexFunc_int_int_conflict_part_1.l0 k sm sm.length i lg) q∧decide (q≥0)=(sm.drop i).any fun x=>!decide (x∈lg)
  | 0,i,hd=>by
    rw [List.drop_eq_nil_of_le (by omega)]
    exact ⟨-1,Ev.step (f:=fun _=>some (-1)) (fun k=>by rw [slices_IndexFunc_int_int_conflict_part_1.l0,if_neg (by omega)]) (Ev.now _),rfl⟩
  | d+1,i,hd=>by
    have hi:i<sm.length:=by omega
    have hw:=qc i sm.length hi (by omega)
    obtain ⟨q,hq,hq2⟩:=qa1 sm lg h1 h2 d (i+1) (by omega)
    have hc:Ev (fun k=>conflict_part_1_v1.f k (rd sm i) lg) (!decide (rd sm i∈lg)):=Ev.bind (qaa lg (by omega) _) (Ev.now _)
    rw [qi sm i hi,List.any_cons]
    by_cases e:(!decide (rd sm i∈lg))=true
    · rw [e] at hc ⊢
      exact ⟨i,Ev.step (fun k=>by rw [slices_IndexFunc_int_int_conflict_part_1.l0,if_pos (by omega),if_pos (by omega),if_pos (by omega)]) (Ev.bind hc (qa rfl (Ev.now _))),by rw [Bool.true_or];exact decide_eq_true (by omega)⟩
    · rw [Bool.not_eq_true] at e
      rw [e] at hc ⊢
      exact ⟨q,Ev.step (fun k=>by rw [slices_IndexFunc_int_int_conflict_part_1.l0,if_pos (by omega),if_pos (by omega),if_pos (by omega),hw]) (Ev.bind hc (qb Bool.false_ne_true hq)),by rw [Bool.false_or];exact hq2⟩
theorem qed (sm lg:List Int) (h1:sm.length≤1000) (h2:lg.length≤1000):Ev (fun k=>conflict_part.f k sm lg) (sm.all fun x=>decide (x∈lg)):=by
  obtain ⟨q,hq,hq2⟩:=qa1 sm lg h1 h2 sm.length 0 (by omega)
  rw [List.drop_zero] at hq2
  refine Ev.bind (show Ev (fun k=>slices_ContainsFunc_int_int_conflict_part_1.f k sm lg) (decide (q≥0)) from Ev.bind hq (Ev.now _)) (qd (Ev.now _) ?_)
  rw [hq2,List.not_any_eq_all_not]
  simp
theorem qaI (out:List (List Int)) (s:List Int) (h1:out.length≤2000000) (h2:s.length≤1000) (h3:∀ o,o∈out→o.length≤1000):∀ (d i:Nat),i+d=out.length→∃ q:Int,Ev (fun k=>slices_IndexFunc_int_int_conflict_least_1.l0 k out out.length i s) q∧decide (q≥0)=(out.drop i).any fun o=>o.all fun x=>decide (x∈s)
  | 0,i,hd=>by
    rw [List.drop_eq_nil_of_le (by omega)]
    exact ⟨-1,Ev.step (f:=fun _=>some (-1)) (fun k=>by rw [slices_IndexFunc_int_int_conflict_least_1.l0,if_neg (by omega)]) (Ev.now _),rfl⟩
  | d+1,i,hd=>by
    have hi:i<out.length:=by omega
    have hw:=qc i out.length hi (by omega)
    obtain ⟨q,hq,hq2⟩:=qaI out s h1 h2 h3 d (i+1) (by omega)
    have hm:rd_L1 out i∈out:=by have:=qq out i hi;exact List.mem_of_mem_drop (l:=out) (i:=i) (by rw [this];exact List.mem_cons_self)
    have hc:Ev (fun k=>conflict_least_1_v1.f k (rd_L1 out i) s) ((rd_L1 out i).all fun x=>decide (x∈s)):=Ev.bind (qed _ s (h3 _ hm) h2) (Ev.now _)
    rw [qq out i hi,List.any_cons]
    by_cases e:((rd_L1 out i).all fun x=>decide (x∈s))=true
    · rw [e] at hc ⊢
      exact ⟨i,Ev.step (fun k=>by rw [slices_IndexFunc_int_int_conflict_least_1.l0,if_pos (by omega),if_pos (by omega),if_pos (by omega)]) (Ev.bind hc (qa rfl (Ev.now _))),by rw [Bool.true_or];exact decide_eq_true (by omega)⟩
    · rw [Bool.not_eq_true] at e
      rw [e] at hc ⊢
      exact ⟨q,Ev.step (fun k=>by rw [slices_IndexFunc_int_int_conflict_least_1.l0,if_pos (by omega),if_pos (by omega),if_pos (by omega),hw]) (Ev.bind hc (qb Bool.false_ne_true hq)),by rw [Bool.false_or];exact hq2⟩
theorem qa2 (out:List (List Int)) (s:List Int) (h1:out.length≤2000000) (h2:s.length≤1000) (h3:∀ o,o∈out→o.length≤1000):Ev (fun k=>slices_ContainsFunc_int_int_conflict_least_1.f k out s) (out.any fun o=>o.all fun x=>decide (x∈s)):=by
  obtain ⟨q,hq,hq2⟩:=qaI out s h1 h2 h3 out.length 0 (by omega)
  rw [List.drop_zero] at hq2
  rw [← hq2]
  exact Ev.bind hq (Ev.now _)
theorem qcF {n:Nat} {P:List Int→Bool} (hP:Mon n P) {k:Nat}:∀ (rest pre:List (List Int)),cmb n k 0=pre++rest→rest.foldl (step P) (low n P k++pre.filter (qn P))=low n P (k+1)
  | [],pre,h=>by rw [List.foldl_nil,qK,h,List.append_nil]
  | s :: rest,pre,h=>by
    rw [List.foldl_cons,qdk hP h]
    exact qcF hP rest (pre++[s]) (by rw [h,List.append_assoc];rfl)
theorem qbY {n:Nat} {P:List Int→Bool} (hP:Mon n P) (k:Nat):(cmb n k 0).foldl (step P) (low n P k)=low n P (k+1):=by
  have:=qcF hP (cmb n k 0) [] rfl
  rwa [List.filter_nil,List.append_nil] at this
theorem qcG (P:List Int→Bool) (out:List (List Int)) (s:List Int):(step P out s).length≤out.length+1:=by
  unfold step
  split
  · omega
  · split <;> simp
theorem qcH {P:List Int→Bool} {out:List (List Int)} {s o:List Int} (h:o∈step P out s):o∈out∨o=s:=by
  unfold step at h
  split at h
  · exact .inl h
  · split at h
    · rcases List.mem_append.1 h with h|h
      · exact .inl h
      · exact .inr (List.mem_singleton.1 h)
    · exact .inl h
theorem qai {n k:Nat} {s:List Int} (h:s∈cmb n k 0):Chn (n:Int) none s:=by
  have:=((qk n k 0 s).1 h).2.1
  rwa [Nat.zero_add] at this
theorem qbv {n:Nat} (hn:n≤16):2 ^ n≤65536:=Nat.le_trans (Nat.pow_le_pow_right (by decide) hn) (by decide)
theorem q8 {n:Nat} (hn:n≤16) (P:List Int→Bool) {k:Nat} (hk:k≤n+1):(low n P k).length≤1114112:=by
  have h1:=qdc n P k
  have h2:=qbv hn
  have h3:k * 2 ^ n≤17 * 65536:=Nat.mul_le_mul (by omega) h2
  omega
theorem qbM {n:Nat} {P:List Int→Bool} {k:Nat} {s:List Int} (h:s∈low n P k):Chn (n:Int) none s:=((qag n P k s).1 h).2.1
theorem qa3 {l:List S49} (hS:Sm l) (hl:l.length≤16) (n1 j:Int) (L:List (List Int)) (hL:∀ s,s∈L→Chn (l.length:Int) none s) (hLl:L.length≤100000) (r:List (List Int)):∀ (d i:Nat) (out:List (List Int)),i+d=L.length→out.length+d≤1500000→(∀ o,o∈out→Chn (l.length:Int) none o)→
    Ev (fun k=>conflict_least_conflict_Cores_1.l0 k l.length ((L.drop i).foldl (step (bad l)) out) n1 (wrap64 (j+1)) l) r→Ev (fun k=>conflict_least_conflict_Cores_1.l1 k l.length out n1 j L L.length i l) r
  | 0,i,out,h,ho,hc,H=>by
    rw [List.drop_eq_nil_of_le (by omega),List.foldl_nil] at H
    exact Ev.step (fun k=>by rw [conflict_least_conflict_Cores_1.l1,if_neg (by omega)]) H
  | d+1,i,out,h,ho,hc,H=>by
    have hi:i<L.length:=by omega
    have hw:=qc i L.length hi (by omega)
    have hm:rd_L1 L i∈L:=by have:=qq L i hi;exact List.mem_of_mem_drop (l:=L) (i:=i) (by rw [this];exact List.mem_cons_self)
    have hs:=hL _ hm
    have hsl:=qh (by omega) hs
    rw [qq L i hi,List.foldl_cons] at H
    have ih:=qa3 hS hl n1 j L hL hLl r d (i+1) (step (bad l) out (rd_L1 L i)) (by omega) (by have:=qcG (bad l) out (rd_L1 L i);omega) (fun o ho=>by rcases qcH ho with h|rfl;exact hc o h;exact hs) H
    refine Ev.step (fun k=>by rw [conflict_least_conflict_Cores_1.l1,if_pos (by omega),if_pos (by omega),if_pos (by omega),hw]) (Ev.bind (qa2 out _ (by omega) (by omega) (fun o ho=>Nat.le_trans (qh (by omega) (hc o ho)) (by omega))) ?_)
    unfold step at ih
    by_cases e:(out.any fun o=>o.all fun x=>decide (x∈rd_L1 L i))=true
    · rw [if_pos e] at ih
      exact qa e ih
    · rw [if_neg e] at ih
      refine qb e (Ev.bind (show Ev (fun k=>conflict_Cores_1_v1.f k (rd_L1 L i) l) (bad l (rd_L1 L i)) from Ev.bind (qM hS hs (by omega)) (qd (Ev.now _) (by simp))) ?_)
      by_cases e2:bad l (rd_L1 L i)=true
      · rw [if_pos e2] at ih
        exact qa e2 (qa (by omega) ih)
      · rw [if_neg e2] at ih
        exact qb e2 ih
theorem qbZ {l:List S49} (h:VS l) (hl:l.length≤16):∀ (d j:Nat),j+d=l.length+1→Ev (fun k=>conflict_least_conflict_Cores_1.l0 k l.length (low l.length (bad l) j) ((l.length+1:Nat):Int) j l) (lst l.length (bad l))
  | 0,j,hj=>by
    have:j=l.length+1:=by omega
    subst this
    exact Ev.step (f:=fun _=>some (low l.length (bad l) (l.length+1))) (fun k=>by rw [conflict_least_conflict_Cores_1.l0,if_neg (by omega)]) (Ev.now _)
  | d+1,j,hj=>by
    have ih:=qbZ h hl d (j+1) (by omega)
    have hw:wrap64 ((j:Int)+1)=((j+1:Nat):Int):=by rw [qe _ (by omega)];omega
    have h2:=qbv hl
    have h3:=qx l.length j 0
    refine Ev.step (fun k=>by rw [conflict_least_conflict_Cores_1.l0,if_pos (by omega)]) (Ev.bind (qaS l.length hl j (by omega)) ?_)
    refine qa3 (qG h) hl _ _ _ (fun s hs=>qai hs) (by omega) _ (cmb l.length j 0).length 0 _ (by omega) (by have:=q8 hl (bad l) (k:=j) (by omega);omega) (fun o ho=>qbM ho) ?_
    rw [List.drop_zero,qbY (qbL h),hw]
    exact ih
def cvl (l:List S49):Int:=if (l.length:Int)>12 then 3 else qp l
theorem qA {l:List S49} (h:cvl l=0):VS l∧l.length≤12:=by
  unfold cvl at h
  by_cases e:(l.length:Int)>12
  · rw [if_pos e] at h;cases h
  · rw [if_neg e] at h
    exact ⟨⟨by omega,(qat l).1 h⟩,by omega⟩
theorem qa4 (l:List S49) (hs:Sm l) (hl:l.length≤1000):∀ (d i:Nat),i+d=l.length→Ev (fun k=>conflict_valid.l0 k l l.length i) (qp (l.drop i))
  | 0,i,h=>by
    rw [List.drop_eq_nil_of_le (by omega)]
    exact Ev.step (f:=fun _=>some 0) (fun k=>by rw [conflict_valid.l0,if_neg (by omega)]) (Ev.now _)
  | d+1,i,h=>by
    have hi:i<l.length:=by omega
    have hw:=qc i l.length hi (by omega)
    have hm:=hs _ (ql l i hi)
    rw [qs l i hi,qp]
    refine Ev.step (fun k=>by rw [conflict_valid.l0,if_pos (by omega),if_pos (by omega),if_pos (by omega),hw]) (Ev.bind (qci _ _ (by omega) (by omega)) ?_)
    exact qf (fun _=>qa4 l hs hl d (i+1) (by omega)) (fun _=>Ev.now _)
theorem q9 (l:List S49) (hs:Sm l) (hl:l.length≤1000):Ev (fun k=>conflict_valid.f k l) (cvl l):=by
  unfold cvl conflict_valid.f
  exact qf (fun _=>Ev.now _) (fun _=>by simpa using qa4 l hs hl l.length 0 (by omega))
def crs (l:List S49):List (List Int)×Int:=if cvl l=0 then (lst l.length (bad l),0) else ([],cvl l)
theorem qbg (l:List S49) (hs:Sm l) (hl:l.length≤1000):Ev (fun k=>conflict_Cores.f k l) (crs l):=by
  refine Ev.bind (q9 l hs hl) (qf (fun e=>?_) (fun _=>Ev.now _))
  obtain ⟨h,h12⟩:=qA e
  have hw:wrap64 ((l.length:Int)+1)=((l.length+1:Nat):Int):=by rw [qe _ (by omega)];omega
  refine Ev.bind (Ev.congr (fun k=>?_) (qbZ h (by omega) (l.length+1) 0 (by omega))) (Ev.now _)
  unfold conflict_least_conflict_Cores_1.f
  rw [hw]
  rfl
theorem qab (n:Nat) (s:List Int) (hs:s.length≤1000) (hn:n≤1000):∀ (d i:Nat) (out:List Int),i+d=n→out.length≤i→Ev (fun k=>conflict_others.l0 k s out n i) (out++flt (fun m=>!decide ((m:Int)∈s)) d i)
  | 0,i,out,h,ho=>qd (Ev.step (f:=fun _=>some out) (fun k=>by rw [conflict_others.l0,if_neg (by omega)]) (Ev.now _)) (by simp [flt])
  | d+1,i,out,h,ho=>by
    have hw:=qc i n (by omega) (by omega)
    refine Ev.step (fun k=>by rw [conflict_others.l0,if_pos (by omega),hw]) (Ev.bind (qaa s (by omega) _) ?_)
    rw [flt]
    by_cases e:(i:Int)∈s
    · rw [if_neg (by simpa using e)]
      exact qa (decide_eq_true e) (qab n s hs hn d (i+1) out (by omega) (by omega))
    · rw [if_pos (by simpa using e)]
      have ih:=qab n s hs hn d (i+1) (out++[(i:Int)]) (by omega) (by simp;omega)
      rw [List.append_assoc] at ih
      exact qb (by simpa using e) (qa (by omega) ih)
theorem qdC (n:Nat) (s:List Int) (hs:s.length≤1000) (hn:n≤1000):Ev (fun k=>conflict_others.f k n s) (oth n s):=by
  have:=qab n s hs hn n 0 [] (by omega) (by simp)
  rwa [List.nil_append] at this
theorem qee {l:List S49} (hS:Sm l) (hl:l.length≤16) {s:List Int} (hs:Chn (l.length:Int) none s):Ev (fun k=>conflict_Repairs_1_v1.f k s l) (rep l s):=by
  have h1:=qh (by omega) hs
  have h2:=qh (n:=l.length) (by omega) (qah l.length s)
  exact Ev.bind (qdC l.length s (by omega) (by omega)) (Ev.bind (qM hS (qah _ s) (by omega)) (Ev.now _))
theorem qbw {l:List S49} (hS:Sm l) (hl:l.length≤16) (n1 j:Int) (L:List (List Int)) (hL:∀ s,s∈L→Chn (l.length:Int) none s) (hLl:L.length≤100000) (r:List (List Int)):∀ (d i:Nat) (out:List (List Int)),i+d=L.length→out.length+d≤1500000→(∀ o,o∈out→Chn (l.length:Int) none o)→
    Ev (fun k=>conflict_least_conflict_Repairs_1.l0 k l.length ((L.drop i).foldl (step (rep l)) out) n1 (wrap64 (j+1)) l) r→Ev (fun k=>conflict_least_conflict_Repairs_1.l1 k l.length out n1 j L L.length i l) r
  | 0,i,out,h,ho,hc,H=>by
    rw [List.drop_eq_nil_of_le (by omega),List.foldl_nil] at H
    exact Ev.step (fun k=>by rw [conflict_least_conflict_Repairs_1.l1,if_neg (by omega)]) H
  | d+1,i,out,h,ho,hc,H=>by
    have hi:i<L.length:=by omega
    have hw:=qc i L.length hi (by omega)
    have hm:rd_L1 L i∈L:=by have:=qq L i hi;exact List.mem_of_mem_drop (l:=L) (i:=i) (by rw [this];exact List.mem_cons_self)
    have hs:=hL _ hm
    have hsl:=qh (by omega) hs
    rw [qq L i hi,List.foldl_cons] at H
    have ih:=qbw hS hl n1 j L hL hLl r d (i+1) (step (rep l) out (rd_L1 L i)) (by omega) (by have:=qcG (rep l) out (rd_L1 L i);omega) (fun o ho=>by rcases qcH ho with h|rfl;exact hc o h;exact hs) H
    refine Ev.step (fun k=>by rw [conflict_least_conflict_Repairs_1.l1,if_pos (by omega),if_pos (by omega),if_pos (by omega),hw]) (Ev.bind (qa2 out _ (by omega) (by omega) (fun o ho=>Nat.le_trans (qh (by omega) (hc o ho)) (by omega))) ?_)
    unfold step at ih
    by_cases e:(out.any fun o=>o.all fun x=>decide (x∈rd_L1 L i))=true
    · rw [if_pos e] at ih
      exact qa e ih
    · rw [if_neg e] at ih
      refine qb e (Ev.bind (qee hS hl hs) ?_)
      by_cases e2:rep l (rd_L1 L i)=true
      · rw [if_pos e2] at ih
        exact qa e2 (qa (by omega) ih)
      · rw [if_neg e2] at ih
        exact qb e2 ih
theorem qcI {l:List S49} (h:VS l) (hl:l.length≤16):∀ (d j:Nat),j+d=l.length+1→Ev (fun k=>conflict_least_conflict_Repairs_1.l0 k l.length (low l.length (rep l) j) ((l.length+1:Nat):Int) j l) (lst l.length (rep l))
  | 0,j,hj=>by
    have:j=l.length+1:=by omega
    subst this
    exact Ev.step (f:=fun _=>some (low l.length (rep l) (l.length+1))) (fun k=>by rw [conflict_least_conflict_Repairs_1.l0,if_neg (by omega)]) (Ev.now _)
  | d+1,j,hj=>by
    have ih:=qcI h hl d (j+1) (by omega)
    have hw:wrap64 ((j:Int)+1)=((j+1:Nat):Int):=by rw [qe _ (by omega)];omega
    have h2:=qbv hl
    have h3:=qx l.length j 0
    refine Ev.step (fun k=>by rw [conflict_least_conflict_Repairs_1.l0,if_pos (by omega)]) (Ev.bind (qaS l.length hl j (by omega)) ?_)
    refine qbw (qG h) hl _ _ _ (fun s hs=>qai hs) (by omega) _ (cmb l.length j 0).length 0 _ (by omega) (by have:=q8 hl (rep l) (k:=j) (by omega);omega) (fun o ho=>qbM ho) ?_
    rw [List.drop_zero,qbY (qec h),hw]
    exact ih
def rps (l:List S49):List (List Int)×Int:=if cvl l=0 then (lst l.length (rep l),0) else ([],cvl l)
theorem qdl (l:List S49) (hs:Sm l) (hl:l.length≤1000):Ev (fun k=>conflict_Repairs.f k l) (rps l):=by
  refine Ev.bind (q9 l hs hl) (qf (fun e=>?_) (fun _=>Ev.now _))
  obtain ⟨h,h12⟩:=qA e
  have hw:wrap64 ((l.length:Int)+1)=((l.length+1:Nat):Int):=by rw [qe _ (by omega)];omega
  refine Ev.bind (Ev.congr (fun k=>?_) (qcI h (by omega) (l.length+1) 0 (by omega))) (Ev.now _)
  unfold conflict_least_conflict_Repairs_1.f
  rw [hw]
  rfl

theorem qy (l:List (List Int)) (i:Nat) (hi:i<l.length):rd_L1 l i∈l:=by
  have:=qq l i hi
  exact List.mem_of_mem_drop (l:=l) (i:=i) (by rw [this];exact List.mem_cons_self)
theorem qbx (L:List (List Int)) (hl:L.length≤2000000) (hs:∀ s,s∈L→s.length≤1000):∀ (d i:Nat) (out:List Int),i+d=L.length→out.length≤1000 * i→Ev (fun k=>slices_Concat_int_int.l1 k out L L.length i) (out++(L.drop i).flatten)
  | 0,i,out,h,ho=>by
    rw [List.drop_eq_nil_of_le (by omega)]
    exact qd (Ev.step (f:=fun _=>some out) (fun k=>by rw [slices_Concat_int_int.l1,if_neg (by omega)]) (Ev.now _)) (by simp)
  | d+1,i,out,h,ho=>by
    have hi:i<L.length:=by omega
    have hw:=qc i L.length hi (by omega)
    have hm:=hs _ (qy L i hi)
    have ih:=qbx L hl hs d (i+1) (out++rd_L1 L i) (by omega) (by simp;omega)
    rw [qq L i hi,List.flatten_cons,← List.append_assoc]
    exact Ev.step (fun k=>by rw [slices_Concat_int_int.l1,if_pos (by omega),if_pos (by omega),if_pos (by omega),if_pos (by omega),hw]) ih
theorem qa5 (L:List (List Int)) (hl:L.length≤2000000) (hs:∀ s,s∈L→s.length≤1000):∀ (d i n:Nat),i+d=L.length→n≤1000 * i→Ev (fun k=>slices_Concat_int_int.l0 k L n L L.length i) L.flatten
  | 0,i,n,h,hn=>by
    refine Ev.step (fun k=>by rw [slices_Concat_int_int.l0,if_neg (by omega)]) (Ev.bind (show Ev (fun _=>slices_Grow_int_int.f [] n) [] from qa (by omega) (qa (by simp;omega) (Ev.now _))) ?_)
    have:=qbx L hl hs L.length 0 [] (by omega) (by simp)
    rw [List.drop_zero,List.nil_append] at this
    exact this
  | d+1,i,n,h,hn=>by
    have hi:i<L.length:=by omega
    have hw:=qc i L.length hi (by omega)
    have hm:=hs _ (qy L i hi)
    have hw2:wrap64 ((n:Int)+((rd_L1 L i).length:Int))=((n+(rd_L1 L i).length:Nat):Int):=by rw [qe _ (by omega)];omega
    exact Ev.step (fun k=>by rw [slices_Concat_int_int.l0,if_pos (by omega),if_pos (by omega),if_pos (by omega),hw2,if_neg (by omega),hw]) (qa5 L hl hs d (i+1) (n+(rd_L1 L i).length) (by omega) (by omega))
theorem qdD (L:List (List Int)) (hl:L.length≤2000000) (hs:∀ s,s∈L→s.length≤1000):Ev (fun k=>slices_Concat_int_int.f k L) L.flatten:=qa5 L hl hs L.length 0 0 (by omega) (by omega)
theorem qdm {L:List (List Int)} (hs:∀ s,s∈L→s.length≤1000):L.flatten.length≤1000 * L.length:=by
  induction L with
  | nil=>simp
  | cons s L ih=>
    have h1:=hs s List.mem_cons_self
    have h2:=ih (fun t ht=>hs t (List.mem_cons_of_mem _ ht))
    rw [List.flatten_cons,List.length_append,List.length_cons]
    omega
theorem qb0 {n:Nat} (hn:n≤16) (P:List Int→Bool):(lst n P).length≤1114112∧∀ s,s∈lst n P→s.length≤1000:=
  ⟨q8 hn P (Nat.le_refl _),fun s hs=>Nat.le_trans (qh (by omega) (qbM hs)) (by omega)⟩
def uni (L:List (List Int)):List Int:=Lib.compact (L.flatten.mergeSort fun x y=>decide (x≤y))
theorem qdS {n:Nat} {L:List (List Int)} (h:∀ s,s∈L→Chn (n:Int) none s):Chn (n:Int) none (uni L)∧∀ x,x∈uni L↔∃ s,s∈L∧x∈s:=by
  obtain ⟨h1,h2⟩:=qae (hi:=n) L.flatten (fun x hx=>by
    obtain ⟨s,hs,hx⟩:=List.mem_flatten.1 hx
    have:=(h s hs).mem x hx
    exact ⟨this.1,this.2.1⟩)
  exact ⟨h1,fun x=>by rw [show uni L=Lib.compact (L.flatten.mergeSort fun x y=>decide (x≤y)) from rfl,h2,List.mem_flatten]⟩
def blm (l:List S49):List Int×Int:=if cvl l=0 then (uni (lst l.length (bad l)),0) else ([],cvl l)
theorem qdT (l:List S49) (hs:Sm l) (hl:l.length≤1000):Ev (fun k=>conflict_Blame.f k l) (blm l):=by
  refine Ev.bind (qbg l hs hl) ?_
  unfold crs blm
  by_cases e:cvl l=0
  · rw [if_pos e,if_pos e]
    obtain ⟨h,h12⟩:=qA e
    obtain ⟨h1,h2⟩:=qb0 (n:=l.length) (by omega) (bad l)
    have h3:=qdm h2
    exact qa rfl (Ev.bind (qdD (lst l.length (bad l)) (by omega) h2) (Ev.bind (show Ev (fun _=>slices_Sort_int_int.f (lst l.length (bad l)).flatten) _ from qa (by omega) (Ev.now _)) (Ev.bind (show Ev (fun _=>slices_Compact_int_int.f ((lst l.length (bad l)).flatten.mergeSort fun x y=>decide (x≤y))) _ from Ev.now _) (Ev.now _))))
  · rw [if_neg e,if_neg e]
    exact qb e (Ev.now _)
def ok0 (z:Int):Bool:=z == 0
theorem qaj (z:Int):ok0 z=true↔z=0:=by unfold ok0;exact beq_iff_eq
theorem qb1 (n:Nat) (s:List Int) (hl:s.length≤1000):∀ (d i:Nat),i+d=s.length→Ev (fun k=>conflict_ascending.l0 k s n s s.length i) (ok0 (chk n (prv s i) (s.drop i)))
  | 0,i,h=>by
    rw [List.drop_eq_nil_of_le (by omega)]
    refine Ev.step (f:=fun _=>some true) (fun k=>by rw [conflict_ascending.l0,if_neg (by omega)]) ?_
    cases prv s i <;> exact Ev.now _
  | d+1,i,h=>by
    have hi:i<s.length:=by omega
    have hw:=qc i s.length hi (by omega)
    have ih:=qb1 n s hl d (i+1) (by omega)
    rw [qJ] at ih
    rw [qi s i hi]
    have hj:rd s i<0∨(n:Int)≤rd s i→∀ p,ok0 (chk n p (rd s i :: s.drop (i+1)))=false:=fun h p=>by
      cases p <;> simp only [chk] <;> rw [if_pos h] <;> rfl
    by_cases h0:rd s i<0
    · rw [hj (.inl h0)]
      exact Ev.step (f:=fun _=>some false) (fun k=>by rw [conflict_ascending.l0,if_pos (by omega),if_pos (by omega),if_pos (by omega),if_pos h0]) (Ev.now _)
    · by_cases h1:rd s i≥(n:Int)
      · rw [hj (.inr h1)]
        exact Ev.step (f:=fun _=>some false) (fun k=>by rw [conflict_ascending.l0,if_pos (by omega),if_pos (by omega),if_pos (by omega),if_neg h0,if_pos h1]) (Ev.now _)
      · by_cases e:i=0
        · have ep:prv s i=none:=by unfold prv;rw [if_pos e]
          rw [ep]
          simp only [chk]
          rw [if_neg (by omega)]
          exact Ev.step (fun k=>by rw [conflict_ascending.l0,if_pos (by omega),if_pos (by omega),if_pos (by omega),if_neg h0,if_neg h1,if_neg (by omega),hw]) ih
        · have ep:prv s i=some (rd s ((i:Int) - 1)):=by unfold prv;rw [if_neg e]
          rw [ep]
          simp only [chk]
          rw [if_neg (by omega)]
          by_cases h2:rd s i≤rd s ((i:Int) - 1)
          · rw [if_pos h2]
            exact Ev.step (f:=fun _=>some false) (fun k=>by rw [conflict_ascending.l0,if_pos (by omega),if_pos (by omega),if_pos (by omega),if_neg h0,if_neg h1,if_pos (by omega),qe ((i:Int) - 1) (by omega),if_pos (by omega),if_pos (by omega),if_pos (by omega)]) (Ev.now _)
          · rw [if_neg h2]
            exact Ev.step (fun k=>by rw [conflict_ascending.l0,if_pos (by omega),if_pos (by omega),if_pos (by omega),if_neg h0,if_neg h1,if_pos (by omega),qe ((i:Int) - 1) (by omega),if_pos (by omega),if_pos (by omega),if_neg (by omega),hw]) ih
theorem qdf (n:Nat) (s:List Int) (hl:s.length≤1000):Ev (fun k=>conflict_ascending.f k s n) (ok0 (chk n none s)):=by
  have:=qb1 n s hl s.length 0 (by omega)
  rw [List.drop_zero] at this
  exact this
def er (out:List Int) (t:Int):List Int:=out.eraseIdx (out.idxOf t)
def shr (P:List Int→Bool):List Int→List Int→List Int
  | out,[]=>out
  | out,t :: ts=>shr P (if P (er out t)=true then er out t else out) ts
theorem qcJ (l:List Int) (hl:l.length≤1000) (x:Int):∀ (d i:Nat),i+d=l.length→x∈l.drop i→Ev (fun k=>slices_Index_int_int.l0 k l x l.length i) ((i+(l.drop i).idxOf x:Nat):Int)
  | 0,i,h,hx=>by rw [List.drop_eq_nil_of_le (by omega)] at hx;cases hx
  | d+1,i,h,hx=>by
    have hi:i<l.length:=by omega
    have hw:=qc i l.length hi (by omega)
    rw [qi l i hi] at hx ⊢
    by_cases e:x=rd l i
    · rw [e,List.idxOf_cons_self,Nat.add_zero]
      exact Ev.step (f:=fun _=>some (i:Int)) (fun k=>by rw [slices_Index_int_int.l0,if_pos (by omega),if_pos (by omega),if_pos (by omega),if_pos rfl]) (Ev.now _)
    · have ih:=qcJ l hl x d (i+1) (by omega) (by rcases List.mem_cons.1 hx with h|h;exact absurd h e;exact h)
      rw [List.idxOf_cons,show (rd l i == x)=false by simpa using fun h=>e h.symm,cond_false,show i+((l.drop (i+1)).idxOf x+1)=i+1+(l.drop (i+1)).idxOf x by omega]
      exact Ev.step (fun k=>by rw [slices_Index_int_int.l0,if_pos (by omega),if_pos (by omega),if_pos (by omega),if_neg e,hw]) ih
theorem qer (l:List Int) (hl:l.length≤1000) {x:Int} (hx:x∈l):Ev (fun k=>slices_Index_int_int.f k l x) ((l.idxOf x:Nat):Int):=by
  have:=qcJ l hl x l.length 0 (by omega) hx
  rw [List.drop_zero,Nat.zero_add] at this
  exact this
theorem qes {n:Int} {out:List Int} (h:Chn n none out) (t x:Int):x∈er out t↔x∈out∧x≠t:=by
  unfold er
  have e:out.erase t=out.eraseIdx (out.idxOf t):=by first|exact List.erase_eq_eraseIdx_of_idxOf _ _ _ rfl|exact List.erase_eq_eraseIdx_of_idxOf rfl
  rw [← e,h.nodup.mem_erase_iff]
  exact ⟨fun h=>⟨h.2,h.1⟩,fun h=>⟨h.2,h.1⟩⟩
theorem qaJ {n:Int} {out:List Int} (h:Chn n none out) (t:Int):Chn n none (er out t):=qw h _
theorem qac {l:List S49} (hS:Sm l) (hl:l.length≤16) (ts:List Int) (hts:Chn (l.length:Int) none ts):∀ (d i:Nat) (out:List Int),i+d=ts.length→Chn (l.length:Int) none out→(∀ t,t∈ts.drop i→t∈out)→Ev (fun k=>conflict_Shrink.l0 k l out ts ts.length i) (shr (bad l) out (ts.drop i),0)
  | 0,i,out,h,ho,hm=>by
    rw [List.drop_eq_nil_of_le (by omega)]
    exact Ev.step (f:=fun _=>some (out,0)) (fun k=>by rw [conflict_Shrink.l0,if_neg (by omega)]) (Ev.now _)
  | d+1,i,out,h,ho,hm=>by
    have hi:i<ts.length:=by omega
    have htl:=qh (by omega) hts
    have hol:=qh (by omega) ho
    have hw:=qc i ts.length hi (by omega)
    rw [qi ts i hi] at hm ⊢
    have hx:=hm (rd ts i) List.mem_cons_self
    have hlt:=List.idxOf_lt_length_of_mem hx
    have hw2:wrap64 (((out.idxOf (rd ts i):Nat):Int)+1)=((out.idxOf (rd ts i)+1:Nat):Int):=by rw [qe _ (by omega)];omega
    have hne:∀ t,t∈ts.drop (i+1)→t≠rd ts i:=fun t ht e=>by
      have hd:Chn (l.length:Int) none (ts.drop i):=hts.sub (List.drop_sublist i ts)
      rw [qi ts i hi] at hd
      have:=(hd.2.2.2.mem t ht).2.2 _ rfl
      omega
    refine Ev.step (fun k=>by rw [conflict_Shrink.l0,if_pos (by omega),if_pos (by omega),if_pos (by omega),hw]) (Ev.bind (qer out (by omega) hx) (Ev.bind (show Ev (fun _=>slices_Clone_int_int.f out) out from qd (qa (by simp;omega) (Ev.now _)) (by simp)) ?_))
    refine Ev.congr (fun k=>by rw [hw2]) (Ev.bind (show Ev (fun _=>slices_Delete_int_int.f out ((out.idxOf (rd ts i):Nat):Int) ((out.idxOf (rd ts i)+1:Nat):Int)) (er out (rd ts i)) from qa (by omega) (qa (by omega) (qa (by omega) (qd (Ev.now _) ?_)))) (Ev.bind (qM hS (qaJ ho (rd ts i)) (by have:=qh (by omega) (qaJ ho (rd ts i));omega)) ?_))
    · rw [Int.toNat_natCast,Int.toNat_natCast]
      unfold er
      rw [List.eraseIdx_eq_take_drop_succ]
    · rw [shr]
      by_cases e:bad l (er out (rd ts i))=true
      · rw [if_pos e]
        exact qb (by rw [e];simp) (qac hS hl ts hts d (i+1) _ (by omega) (qaJ ho _) (fun t ht=>(qes ho _ _).2 ⟨hm t (List.mem_cons_of_mem _ ht),hne t ht⟩))
      · rw [if_neg e]
        exact qa (by rw [Bool.not_eq_true] at e;rw [e];rfl) (qac hS hl ts hts d (i+1) _ (by omega) ho (fun t ht=>hm t (List.mem_cons_of_mem _ ht)))
def shk (l:List S49) (ts:List Int):List Int×Int:=if cvl l=0 then (if chk l.length none ts=0 then (if bad l ts=true then (shr (bad l) ts ts,0) else ([],11)) else ([],1)) else ([],cvl l)
theorem qdn (l:List S49) (hs:Sm l) (hl:l.length≤1000) (ts:List Int) (ht:ts.length≤1000):Ev (fun k=>conflict_Shrink.f k l ts) (shk l ts):=by
  refine Ev.bind (q9 l hs hl) ?_
  unfold shk
  refine qf (fun e=>?_) (fun _=>Ev.now _)
  obtain ⟨h,h12⟩:=qA e
  refine Ev.bind (qdf _ ts ht) ?_
  by_cases c:chk l.length none ts=0
  · rw [if_pos c]
    have hc:=(qI _ _ _).1 c
    refine qa ((qaj _).2 c) (Ev.bind (qM hs hc ht) ?_)
    by_cases b:bad l ts=true
    · rw [if_pos b]
      refine qb (by rw [b];simp) (Ev.bind (show Ev (fun _=>slices_Clone_int_int.f ts) ts from qd (qa (by simp;omega) (Ev.now _)) (by simp)) ?_)
      have:=qac hs (by omega) ts hc ts.length 0 ts (by omega) hc (fun t ht=>by rw [List.drop_zero] at ht;exact ht)
      rw [List.drop_zero] at this
      exact this
    · rw [if_neg b]
      exact qa (by rw [Bool.not_eq_true] at b;rw [b];rfl) (Ev.now _)
  · rw [if_neg c]
    exact qb (fun h=>c ((qaj _).1 h)) (Ev.now _)

theorem qby (a:List Int) (ha:a.length≤2000000):∀ (d i:Nat),i+d=a.length→Ev (fun k=>ancepsref42_Ints.l0 k a a i) true
  | 0,i,h=>Ev.step (f:=fun _=>some true) (fun k=>by rw [ancepsref42_Ints.l0,if_neg (by omega)]) (Ev.now _)
  | d+1,i,h=>by
    have hw:=qc i a.length (by omega) (by omega)
    exact Ev.step (fun k=>by rw [ancepsref42_Ints.l0,if_pos (by omega),if_pos (by omega),if_pos (by omega),if_pos rfl,hw]) (qby a ha d (i+1) (by omega))
theorem qdU (a:List Int) (ha:a.length≤2000000):Ev (fun k=>ancepsref42_Ints.f k a a) true:=qa rfl (qby a ha a.length 0 (by omega))
theorem qa6 (a:List (List Int)) (ha:a.length≤2000000) (hs:∀ s,s∈a→s.length≤1000):∀ (d i:Nat),i+d=a.length→Ev (fun k=>ancepsref42_Lists.l0 k a a i) true
  | 0,i,h=>Ev.step (f:=fun _=>some true) (fun k=>by rw [ancepsref42_Lists.l0,if_neg (by omega)]) (Ev.now _)
  | d+1,i,h=>by
    have hw:=qc i a.length (by omega) (by omega)
    exact Ev.step (fun k=>by rw [ancepsref42_Lists.l0,if_pos (by omega),if_pos (by omega),if_pos (by omega),hw]) (Ev.bind (qdU _ (Nat.le_trans (hs _ (qy a i (by omega))) (by omega))) (qa rfl (qa6 a ha hs d (i+1) (by omega))))
theorem qb2 (a:List (List Int)) (ha:a.length≤2000000) (hs:∀ s,s∈a→s.length≤1000):Ev (fun k=>ancepsref42_Lists.f k a a) true:=qa rfl (qa6 a ha hs a.length 0 (by omega))
def L4:List S49:=[⟨[0],[1]⟩,⟨[0],[0]⟩,⟨[1],[0,1]⟩,⟨[0,1],[3]⟩]
def L2:List S49:=[⟨[0],[1]⟩,⟨[0],[0]⟩]
def T0:List S49:=[⟨[0],[1]⟩]
def T1:List S49:=[⟨[0],[0]⟩]
theorem qdo:VS L4:=(qj _).1 (by decide)
theorem qcd:VS L2:=(qj _).1 (by decide)
theorem qce:VS T0:=(qj _).1 (by decide)
theorem qcf:VS T1:=(qj _).1 (by decide)
def qcK (s:List Int):Bool:=!(List.range 4).any fun a=>s.all fun i=>hs (rd_T49 L4 i).f0 (rd_T49 L4 i).f1 a
theorem qcg (s:List Int) (h:Chn ((4:Nat):Int) none s):bad L4 s=qcK s:=by
  have hi:=qbK qdo (s:=s) h
  have hv:∀ t,t∈L4→∀ w,w∈t.f0→w.toNat<2:=by decide
  have e:qcK s=false↔∃ a,∀ i,i∈s→hs (rd_T49 L4 i).f0 (rd_T49 L4 i).f1 a=true:=by
    unfold qcK
    rw [Bool.not_eq_false',List.any_eq_true]
    constructor
    · rintro ⟨a,_,ha⟩;exact ⟨a,fun i hi=>List.all_eq_true.1 ha i hi⟩
    · rintro ⟨a,ha⟩
      refine ⟨a % 4,List.mem_range.2 (by omega),List.all_eq_true.2 (fun i hi=>?_)⟩
      rw [← ha i hi]
      refine qcn _ _ (fun w hw=>?_)
      have hm:=h.mem i hi
      have:=hv _ (qdA (l:=L4) hm.1 hm.2.1) w hw
      rw [show (4:Nat)=2 ^ 2 from rfl,Nat.testBit_mod_two_pow,decide_eq_true this,Bool.true_and]
  rw [← e] at hi
  cases h1:bad L4 s with
  | false=>exact (hi.1 h1).symm
  | true=>cases h2:qcK s with
    | false=>rw [hi.2 h2] at h1;cases h1
    | true=>rfl
theorem qdp {n:Int} {P Q:List Int→Bool} (h:∀ s,Chn n none s→P s=Q s) {s:List Int} (hs:Chn n none s):qn P s=qn Q s:=by
  unfold qn
  rw [h s hs]
  congr 1
  congr 1
  funext i
  rw [h _ (qw hs i)]
theorem qaK {n:Nat} {P Q:List Int→Bool} (h:∀ s,Chn (n:Int) none s→P s=Q s):∀ k,low n P k=low n Q k
  | 0=>rfl
  | k+1=>by
    rw [qK,qK,qaK h k]
    congr 1
    exact List.filter_congr (fun s hs=>qdp h (qai hs))
theorem qcL:crs L4=([[0,1],[1,3]],0):=by
  unfold crs
  rw [if_pos (by decide),show L4.length=4 from rfl]
  unfold lst
  rw [qaK (n:=4) qcg]
  kernel_rfl
def qet (s:List Int):Bool:=!qcK (oth 4 s)
theorem qeD (s:List Int) (_:Chn ((4:Nat):Int) none s):rep L4 s=qet s:=by
  unfold rep qet
  rw [show L4.length=4 from rfl,qcg _ (qah 4 s)]
theorem qeE:rps L4=([[1],[0,3]],0):=by
  unfold rps
  rw [if_pos (by decide),show L4.length=4 from rfl]
  unfold lst
  rw [qaK (n:=4) qeD]
  kernel_rfl
theorem qeu:blm L4=([0,1,3],0):=by
  have h:=qcL
  unfold crs at h
  rw [if_pos (by decide)] at h
  unfold blm
  rw [if_pos (by decide),(Prod.mk.inj h).1]
  obtain ⟨h1,h2⟩:=qdS (n:=4) (L:=[[0,1],[1,3]]) (by intro s hs;simp at hs;rcases hs with rfl|rfl <;> simp [Chn])
  rw [h1.same (hi':=4) (q:=none) (ys:=[0,1,3]) (by simp [Chn]) (fun x=>by rw [h2];simp;omega)]
theorem qaL {n:Int} {P Q:List Int→Bool} (h:∀ s,Chn n none s→P s=Q s):∀ (ts out:List Int),Chn n none out→shr P out ts=shr Q out ts
  | [],_,_=>rfl
  | t :: ts,out,ho=>by
    rw [shr,shr,h _ (qaJ ho t)]
    split
    · exact qaL h ts _ (qaJ ho t)
    · exact qaL h ts _ ho
theorem qef:shk L4 [0,1,2,3]=([1,3],0):=by
  have hc:Chn ((4:Nat):Int) none [0,1,2,3]:=by simp [Chn]
  have e:shr (bad L4) [0,1,2,3] [0,1,2,3]=[1,3]:=(qaL qcg _ _ hc).trans (by kernel_rfl)
  have b:bad L4 [0,1,2,3]=true:=(qcg _ hc).trans (by kernel_rfl)
  unfold shk
  rw [if_pos (by decide),if_pos (by decide),if_pos b,e]
theorem qcM {l:List S49} (h:VS l) {vs:List Int} (hc:Chn 24 none vs) (hm:∀ v,v∈vs↔v∈flat l):occ l=vs:=Chn.same h.occ.1 hc (fun n=>by rw [h.occ.2,hm])
theorem qev:occ L2=[0]:=qcM qcd (by simp [Chn]) (fun v=>by simp [flat,L2])
theorem qew:occ T0=[0]:=qcM qce (by simp [Chn]) (fun v=>by simp [flat,T0])
theorem qex:occ T1=[0]:=qcM qcf (by simp [Chn]) (fun v=>by simp [flat,T1])
def R2:List S96:=((solve_split.f 60 L2 [0] 0 0 []).getD ([],false)).1
theorem qdE:Ev (fun k=>conflict_Smallest.f k L4) ([0,1],R2,[0,1],0):=by
  have v2:Ev (fun k=>solve_valid.f k L2) 0:=qd (qE L2 (qG qcd) (by decide)) ((qj _).2 qcd)
  have v0:Ev (fun k=>solve_valid.f k T0) 0:=qd (qE T0 (qG qce) (by decide)) ((qj _).2 qce)
  have v1:Ev (fun k=>solve_valid.f k T1) 0:=qd (qE T1 (qG qcf) (by decide)) ((qj _).2 qcf)
  have o2:Ev (fun k=>solve_occurring.f k L2) [0]:=qd (qaw L2 (qG qcd) (by decide)) qev
  have o0:Ev (fun k=>solve_occurring.f k T0) [0]:=qd (qaw T0 (qG qce) (by decide)) qew
  have o1:Ev (fun k=>solve_occurring.f k T1) [0]:=qd (qaw T1 (qG qcf) (by decide)) qex
  have s2:Ev (fun k=>solve_search.f k L2 [0] 0 0) []:=Ev.of (fun k=>solve_search.mono _ _ _ _ k) (k:=60) (by kernel_rfl)
  have s0:Ev (fun k=>solve_search.f k T0 [0] 0 0) [1]:=Ev.of (fun k=>solve_search.mono _ _ _ _ k) (k:=60) (by kernel_rfl)
  have s1:Ev (fun k=>solve_search.f k T1 [0] 0 0) [0]:=Ev.of (fun k=>solve_search.mono _ _ _ _ k) (k:=60) (by kernel_rfl)
  have p2:Ev (fun k=>solve_split.f k L2 [0] 0 0 []) (R2,true):=Ev.of (fun k=>solve_split.mono _ _ _ _ _ k) (k:=60) (by kernel_rfl)
  have hR:Ev (fun k=>solve_Refute.f k L2) (R2,0):=Ev.bind v2 (qa rfl (Ev.bind o2 (Ev.bind s2 (qa rfl (Ev.bind p2 (Ev.now _))))))
  have f0:Ev (fun k=>solve_First.f k T0) (1,0):=Ev.bind v0 (qa rfl (Ev.bind o0 (Ev.bind s0 (Ev.now _))))
  have f1:Ev (fun k=>solve_First.f k T1) (0,0):=Ev.bind v1 (qa rfl (Ev.bind o1 (Ev.bind s1 (Ev.now _))))
  have hc:Ev (fun k=>conflict_Cores.f k L4) ([[0,1],[1,3]],0):=qd (qbg L4 (qG qdo) (by decide)) qcL
  have hs:Ev (fun k=>conflict_system.f k L4 [0,1]) L2:=q7 L4 (s:=[0,1]) (by simp [Chn,L4]) (by decide)
  refine Ev.bind hc (qa rfl (qb (by decide) (qa (by decide) (Ev.bind hs (Ev.bind hR (qa rfl ?_))))))
  have e2:Ev (fun k=>conflict_Smallest.l0 k L2 ((2:Nat):Int) ((2:Nat):Int) [0,1] R2 [0,1]) ([0,1],R2,[0,1],0):=Ev.step (f:=fun _=>some ([0,1],R2,[0,1],0)) (fun k=>by rw [conflict_Smallest.l0,if_neg (by omega)]) (Ev.now _)
  have e1:Ev (fun k=>conflict_Smallest.l0 k L2 ((2:Nat):Int) ((1:Nat):Int) [0,1] R2 [0]) ([0,1],R2,[0,1],0):=
    Ev.step (f:=fun k=>(some L2).bind fun a=>(some T0).bind fun b=>(solve_First.f k b).bind fun c=>if c.2=0 then (if ([0]:List Int).length<17592186044416 then conflict_Smallest.l0 k L2 ((2:Nat):Int) ((2:Nat):Int) [0,1] R2 ([0]++[c.1]) else none) else some ([],[],[],c.2)) (fun k=>by rw [conflict_Smallest.l0,if_pos (by decide)];kernel_rfl) (Ev.bind (Ev.now L2) (Ev.bind (Ev.now T0) (Ev.bind f0 (qa rfl (qa (by decide) e2)))))
  exact Ev.step (f:=fun k=>(some L2).bind fun a=>(some T1).bind fun b=>(solve_First.f k b).bind fun c=>if c.2=0 then (if ([]:List Int).length<17592186044416 then conflict_Smallest.l0 k L2 ((2:Nat):Int) ((1:Nat):Int) [0,1] R2 ([]++[c.1]) else none) else some ([],[],[],c.2)) (fun k=>by rw [conflict_Smallest.l0,if_pos (by decide)];kernel_rfl) (Ev.bind (Ev.now L2) (Ev.bind (Ev.now T1) (Ev.bind f1 (qa rfl (qa (by decide) e1)))))
theorem qcN:Ev (fun k=>ancepslaw42_awake.f k) true:=by
  have hS:=qG qdo
  have hc:Ev (fun k=>conflict_Cores.f k L4) ([[0,1],[1,3]],0):=qd (qbg L4 hS (by decide)) qcL
  have hr:Ev (fun k=>conflict_Repairs.f k L4) ([[1],[0,3]],0):=qd (qdl L4 hS (by decide)) qeE
  have hb:Ev (fun k=>conflict_Blame.f k L4) ([0,1,3],0):=qd (qdT L4 hS (by decide)) qeu
  have hk:Ev (fun k=>conflict_Shrink.f k L4 [0,1,2,3]) ([1,3],0):=qd (qdn L4 hS (by decide) _ (by decide)) qef
  have q1:=qb2 [[0,1],[1,3]] (by decide) (by decide)
  have q2:=qb2 [[1],[0,3]] (by decide) (by decide)
  have q3:=qaC [0,1,3] (by decide)
  have q4:=qaC [1,3] (by decide)
  have q5:=qaC [0,1] (by decide)
  unfold ancepslaw42_awake.f
  exact Ev.bind (Ev.now L4) (Ev.bind hc (Ev.bind hr (Ev.bind hb (Ev.bind hk (Ev.bind qdE (qa rfl (Ev.bind q1 (qa rfl (qa rfl (Ev.bind q2 (qa rfl (qa rfl (Ev.bind q3 (qa rfl (qa rfl (Ev.bind q4 (qa rfl (qa rfl (Ev.bind q5 (qa rfl (Ev.bind q5 (Ev.now _))))))))))))))))))))))
theorem qap:Ev (fun k=>(ancepslaw42_awake.f k).bind fun t=>some t) true:=Ev.bind qcN (Ev.now _)

theorem qaM (l:List S49) (hs:Sm l) (hl:l.length≤1000):∀ (d i:Nat),i+d=l.length→Ev (fun k=>ancepsref42_Valid.l0 k l i) (qp (l.drop i))
  | 0,i,h=>by
    rw [List.drop_eq_nil_of_le (by omega)]
    exact Ev.step (f:=fun _=>some 0) (fun k=>by rw [ancepsref42_Valid.l0,if_neg (by omega)]) (Ev.now _)
  | d+1,i,h=>by
    have hi:i<l.length:=by omega
    have hw:=qc i l.length hi (by omega)
    have hm:=hs _ (ql l i hi)
    rw [qs l i hi,qp]
    refine Ev.step (fun k=>by rw [ancepsref42_Valid.l0,if_pos (by omega),if_pos (by omega),hw]) (Ev.bind (qbO _ _ (by omega) (by omega)) ?_)
    exact qf (fun _=>qaM l hs hl d (i+1) (by omega)) (fun _=>Ev.now _)
theorem qH (l:List S49) (hs:Sm l) (hl:l.length≤1000):Ev (fun k=>ancepsref42_Valid.f k l) (cvl l):=by
  unfold cvl ancepsref42_Valid.f
  exact qf (fun _=>Ev.now _) (fun _=>by simpa using qaM l hs hl l.length 0 (by omega))
theorem qeg (l:List S49):∃ b,Ev (fun k=>ancepsref42_Few.f k l) b∧(b=true→Sm l∧l.length≤18):=by
  obtain ⟨b,hb,hq⟩:=qd7 l
  cases b with
  | false=>exact ⟨false,Ev.bind hb (qb (by simp) (Ev.now _)),fun h=>by cases h⟩
  | true=>
    obtain ⟨h1,h2⟩:=hq rfl
    by_cases e:cvl l=0
    · obtain ⟨hv,_⟩:=qA e
      by_cases h6:(l.length:Int)≤6
      · exact ⟨_,Ev.bind hb (qa rfl (Ev.bind (qH l h1 (by omega)) (qa e (qa h6 (Ev.bind (qbb hv h1) (Ev.now _)))))),fun _=>⟨h1,h2⟩⟩
      · exact ⟨_,Ev.bind hb (qa rfl (Ev.bind (qH l h1 (by omega)) (qa e (qb h6 (Ev.now _))))),fun _=>⟨h1,h2⟩⟩
    · exact ⟨_,Ev.bind hb (qa rfl (Ev.bind (qH l h1 (by omega)) (qb e (Ev.now _)))),fun _=>⟨h1,h2⟩⟩
def full (n:Nat):List Int:=flt (fun _=>true) n 0
theorem qdV (n:Nat) (x:Int):x∈full n↔0≤x∧x<(n:Int):=by
  unfold full
  rw [qad]
  exact ⟨fun ⟨m,_,h1,_,h2⟩=>by omega,fun ⟨h0,h1⟩=>⟨x.toNat,by omega,by omega,rfl,qg h0⟩⟩
theorem qdW (n:Nat):Chn (n:Int) none (full n):=by
  have:=qU (fun _=>true) n 0 none (fun q hq=>by cases hq)
  rwa [Nat.zero_add] at this
theorem qdg (l:List S49):∀ (d i:Nat),i+d=l.length→sub l (flt (fun _=>true) d i)=l.drop i
  | 0,i,h=>by rw [List.drop_eq_nil_of_le (by omega)];rfl
  | d+1,i,h=>by
    rw [qs l i (by omega),flt,if_pos rfl]
    exact congrArg (rd_T49 l i :: ·) (qdg l d (i+1) (by omega))
theorem qdX (l:List S49):sub l (full l.length)=l:=by
  have:=qdg l l.length 0 (by omega)
  rwa [List.drop_zero] at this
theorem qbz (s:List Int) (hs:s.length≤1000) (i:Nat) (hi:i<s.length):Ev (fun _=>ancepsref42_Without.f s i) (s.eraseIdx i):=by
  have hw:wrap64 ((i:Int)+1)=((i+1:Nat):Int):=by rw [qe _ (by omega)];omega
  refine qcX (qa (by omega) (qa (by omega) (qa (by simp;omega) (qcX ?_))))
  refine Ev.congr (fun k=>by rw [hw]) (qa (by omega) (qa (by omega) (qa (by simp;omega) (qd (Ev.now _) ?_))))
  rw [Int.toNat_natCast,Int.toNat_natCast,List.nil_append,List.eraseIdx_eq_take_drop_succ]
theorem qaN (l:List S49) (s:List Int) (hs:Chn (l.length:Int) none s) (hl:s.length≤1000):∀ (d i:Nat) (out:List S49),i+d=s.length→out.length=i→Ev (fun k=>ancepsref42_System.l0 k l s out i) (out++sub l (s.drop i))
  | 0,i,out,h,ho=>by
    rw [List.drop_eq_nil_of_le (by omega)]
    exact qd (Ev.step (f:=fun _=>some out) (fun k=>by rw [ancepsref42_System.l0,if_neg (by omega)]) (Ev.now _)) (by simp [sub])
  | d+1,i,out,h,ho=>by
    have hi:i<s.length:=by omega
    have hw:=qc i s.length hi (by omega)
    have hm:=hs.mem _ (qz s i hi)
    have ih:=qaN l s hs hl d (i+1) (out++[rd_T49 l (rd s i)]) (by omega) (by simp;omega)
    refine qd (Ev.step (fun k=>by rw [ancepsref42_System.l0,if_pos (by omega),if_pos (by omega),if_pos hm.1,if_pos hm.2.1,if_pos (by omega),hw]) ih) ?_
    rw [qi s i hi,List.append_assoc]
    rfl
theorem qT (l:List S49) {s:List Int} (hs:Chn (l.length:Int) none s) (hl:s.length≤1000):Ev (fun k=>ancepsref42_System.f k l s) (sub l s):=by
  have:=qaN l s hs hl s.length 0 [] (by omega) rfl
  rwa [List.drop_zero,List.nil_append] at this
theorem qdh {l:List S49} (h:Sm l) {s:List Int} (hs:Chn (l.length:Int) none s) (hl:s.length≤1000):Ev (fun k=>ancepsref42_contradictory.f k l s) (bad l s):=
  Ev.bind (qT l hs hl) (Ev.bind (qdv _ (qN h hs) (by unfold sub;rw [List.length_map];exact hl)) (Ev.now _))
theorem qb3 (n s:Int) (out L:List (List Int)) (f i:Nat) (hi:i<L.length) (hf:f≤16) (ho:out.length<5864062014805) (hr:∀ x,x∈rd_L1 L i→0≤x∧x≤16) (hl:(rd_L1 L i).length≤16) (r:List (List Int)):∀ (d j:Nat) (c:List Int),j+d=(rd_L1 L i).length→c.length≤j+1→
    Ev (fun k=>ancepsref42_Sets.l1 k n s (out++[c++((rd_L1 L i).drop j).map fun x=>x+((f+1:Nat):Int)]) f L (wrap64 ((i:Int)+1))) r→Ev (fun k=>ancepsref42_Sets.l2 k n s out f L i c j) r
  | 0,j,c,h,hc,H=>by
    rw [List.drop_eq_nil_of_le (by omega),List.map_nil,List.append_nil] at H
    exact Ev.step (fun k=>by rw [ancepsref42_Sets.l2,if_pos (by omega),if_pos (by omega),if_neg (by omega),if_pos ho]) H
  | d+1,j,c,h,hc,H=>by
    have hj:j<(rd_L1 L i).length:=by omega
    have hw:=qc j _ hj (by omega)
    have hx:=hr _ (qz _ j hj)
    have e:wrap64 (wrap64 (rd (rd_L1 L i) j+(f:Int))+1)=rd (rd_L1 L i) j+((f+1:Nat):Int):=by rw [qe (rd (rd_L1 L i) j+(f:Int)) (by omega),qe _ (by omega)];omega
    rw [qi _ j hj,List.map_cons] at H
    refine Ev.step (fun k=>by rw [ancepsref42_Sets.l2,if_pos (by omega),if_pos (by omega),if_pos (by omega),if_pos (by omega),if_pos (by omega),hw,e]) (qb3 n s out L f i hi hf ho hr hl r d (j+1) _ (by omega) (by simp;omega) ?_)
    rw [List.append_assoc]
    exact H
theorem qbA (n s:Int) (L:List (List Int)) (f:Nat) (hf:f≤16) (hL:L.length≤100000) (hr:∀ t,t∈L→(∀ x,x∈t→0≤x∧x≤16)∧t.length≤16) (r:List (List Int)):∀ (d i:Nat) (out:List (List Int)),i+d=L.length→out.length+d≤5000000→
    Ev (fun k=>ancepsref42_Sets.l0 k n s (out++(L.drop i).map fun t=>(f:Int) :: t.map fun x=>x+((f+1:Nat):Int)) (wrap64 ((f:Int)+1))) r→Ev (fun k=>ancepsref42_Sets.l1 k n s out f L i) r
  | 0,i,out,h,ho,H=>by
    rw [List.drop_eq_nil_of_le (by omega),List.map_nil,List.append_nil] at H
    exact Ev.step (fun k=>by rw [ancepsref42_Sets.l1,if_neg (by omega)]) H
  | d+1,i,out,h,ho,H=>by
    have hi:i<L.length:=by omega
    have hw:=qc i L.length hi (by omega)
    obtain ⟨h1,h2⟩:=hr _ (qy L i hi)
    rw [qq L i hi,List.map_cons] at H
    refine Ev.step (fun k=>by rw [ancepsref42_Sets.l1,if_pos (by omega)];rfl) (qb3 n s out L f i hi hf (by omega) h1 h2 r (rd_L1 L i).length 0 [(f:Int)] (by omega) (by simp) ?_)
    rw [List.drop_zero,hw]
    refine qbA n s L f hf hL hr r d (i+1) _ (by omega) (by simp;omega) ?_
    rw [List.append_assoc]
    exact H
theorem qb4 (n:Nat) (hn:n≤16) (s:Nat) (hs:s≤1000) (rec:∀ m:Nat,m≤16→Ev (fun k=>ancepsref42_Sets.f k m s) (cmb m s 0)):∀ (d f:Nat) (out:List (List Int)),f+d=n→out.length≤f * 65536→Ev (fun k=>ancepsref42_Sets.l0 k n ((s+1:Nat):Int) out f) (out++cmb d (s+1) f)
  | 0,f,out,h,ho=>qd (Ev.step (f:=fun _=>some out) (fun k=>by rw [ancepsref42_Sets.l0,if_neg (by omega)]) (Ev.now _)) (by simp [cmb])
  | d+1,f,out,h,ho=>by
    have hw:wrap64 ((f:Int)+1)=((f+1:Nat):Int):=by rw [qe _ (by omega)];omega
    have e1:wrap64 (wrap64 ((n:Int) - (f:Int)) - 1)=(d:Int):=by rw [qe ((n:Int) - (f:Int)) (by omega),qe _ (by omega)];omega
    have e2:wrap64 (((s+1:Nat):Int) - 1)=(s:Int):=by rw [qe _ (by omega)];omega
    have hlen:=qx d s 0
    have h16:=qbv (n:=d) (by omega)
    have sh:=qaH d s 0 (f+1)
    rw [Nat.zero_add] at sh
    refine Ev.step (fun k=>by rw [ancepsref42_Sets.l0,if_pos (by omega),e1,e2]) (Ev.bind (rec d (by omega)) ?_)
    refine qbA n _ (cmb d s 0) f (by omega) (by omega) (fun t ht=>?_) _ (cmb d s 0).length 0 out (by omega) (by omega) ?_
    · obtain ⟨h1,h2,_⟩:=(qk d s 0 t).1 ht
      rw [Nat.zero_add] at h2
      have:=qh (by omega) h2
      exact ⟨fun x hx=>by have:=h2.mem x hx;omega,by omega⟩
    · rw [List.drop_zero,hw]
      have ih:=qb4 n hn s hs rec d (f+1) (out++(cmb d s (f+1)).map fun l=>(f:Int) :: l) (by omega) (by rw [List.length_append,List.length_map,sh,List.length_map];omega)
      rw [cmb,← List.append_assoc]
      refine qd (Ev.congr (fun k=>?_) ih) rfl
      rw [sh,List.map_map]
      rfl
theorem qbh:∀ (s n:Nat),n≤16→s≤1000→Ev (fun k=>ancepsref42_Sets.f k n s) (cmb n s 0)
  | 0,n,hn,_=>by
    rw [qt]
    exact Ev.step (f:=fun _=>some [[]]) (fun k=>by rw [ancepsref42_Sets.f,if_pos (by omega)]) (Ev.now _)
  | s+1,n,hn,hs=>by
    have:=qb4 n hn s (by omega) (fun m hm=>qbh s m hm (by omega)) n 0 [] (by omega) (by simp)
    rw [List.nil_append] at this
    exact Ev.step (fun k=>by rw [ancepsref42_Sets.f,if_neg (by omega)];rfl) this
theorem qbB {l:List S49} (hS:Sm l) (hl:l.length≤16) {s:List Int} (hs:Chn (l.length:Int) none s):∀ (d i:Nat),i+d=s.length→Ev (fun k=>ancepsref42_core.l0 k l s i) ((List.range' i d).all fun i=>!bad l (s.eraseIdx i))
  | 0,i,h=>Ev.step (f:=fun _=>some true) (fun k=>by rw [ancepsref42_core.l0,if_neg (by omega)]) (Ev.now _)
  | d+1,i,h=>by
    have hsl:=qh (by omega) hs
    have hw:=qc i s.length (by omega) (by omega)
    have hlen:=List.length_eraseIdx_le s i
    rw [List.range'_succ,List.all_cons]
    refine Ev.step (fun k=>by rw [ancepsref42_core.l0,if_pos (by omega),hw]) (Ev.bind (qbz s (by omega) i (by omega)) (Ev.bind (qdh hS (qw hs i) (by omega)) ?_))
    cases e:bad l (s.eraseIdx i) with
    | true=>exact qa rfl (Ev.now _)
    | false=>exact qb (by simp) (qd (qbB hS hl hs d (i+1) (by omega)) (by simp))
theorem qdY {l:List S49} (hS:Sm l) (hl:l.length≤16) {s:List Int} (hs:Chn (l.length:Int) none s):Ev (fun k=>ancepsref42_core.f k l s) (qn (bad l) s):=by
  have hsl:=qh (by omega) hs
  refine Ev.bind (qdh hS hs (by omega)) ?_
  unfold qn
  cases e:bad l s with
  | true=>
    have:=qbB hS hl hs s.length 0 (by omega)
    rw [← List.range_eq_range'] at this
    exact qa rfl (qd this (by simp))
  | false=>exact qb (by simp) (Ev.now _)
theorem qP {l:List S49} (hS:Sm l) (hl:l.length≤16) (j:Int) (L:List (List Int)) (hL:∀ s,s∈L→Chn (l.length:Int) none s) (hLl:L.length≤100000) (r:List (List Int)×Int):∀ (d i:Nat) (out:List (List Int)),i+d=L.length→out.length+d≤1500000→
    Ev (fun k=>ancepsref42_Cores.l0 k l (out++(L.drop i).filter (qn (bad l))) (wrap64 (j+1))) r→Ev (fun k=>ancepsref42_Cores.l1 k l out j L i) r
  | 0,i,out,h,ho,H=>by
    rw [List.drop_eq_nil_of_le (by omega),List.filter_nil,List.append_nil] at H
    exact Ev.step (fun k=>by rw [ancepsref42_Cores.l1,if_neg (by omega)]) H
  | d+1,i,out,h,ho,H=>by
    have hi:i<L.length:=by omega
    have hw:=qc i L.length hi (by omega)
    rw [qq L i hi] at H
    refine Ev.step (fun k=>by rw [ancepsref42_Cores.l1,if_pos (by omega),if_pos (by omega),hw]) (Ev.bind (qdY hS hl (hL _ (qy L i hi))) ?_)
    by_cases e:qn (bad l) (rd_L1 L i)=true
    · rw [List.filter_cons_of_pos e] at H
      refine qa e (qa (by omega) (qP hS hl j L hL hLl r d (i+1) _ (by omega) (by simp;omega) ?_))
      rw [List.append_assoc]
      exact H
    · rw [List.filter_cons_of_neg e] at H
      exact qb e (qP hS hl j L hL hLl r d (i+1) _ (by omega) (by omega) H)
theorem qa7 {l:List S49} (hS:Sm l) (hl:l.length≤16):∀ (d j:Nat),j+d=l.length+1→Ev (fun k=>ancepsref42_Cores.l0 k l (low l.length (bad l) j) j) (lst l.length (bad l),0)
  | 0,j,hj=>by
    have:j=l.length+1:=by omega
    subst this
    exact Ev.step (f:=fun _=>some (low l.length (bad l) (l.length+1),0)) (fun k=>by rw [ancepsref42_Cores.l0,if_neg (by omega)]) (Ev.now _)
  | d+1,j,hj=>by
    have ih:=qa7 hS hl d (j+1) (by omega)
    have hw:wrap64 ((j:Int)+1)=((j+1:Nat):Int):=by rw [qe _ (by omega)];omega
    have h2:=qbv hl
    have h3:=qx l.length j 0
    refine Ev.step (fun k=>by rw [ancepsref42_Cores.l0,if_pos (by omega)]) (Ev.bind (qbh j l.length hl (by omega)) ?_)
    refine qP hS hl j _ (fun s hs=>qai hs) (by omega) _ (cmb l.length j 0).length 0 _ (by omega) (by have:=q8 hl (bad l) (k:=j) (by omega);omega) ?_
    rw [List.drop_zero,← qK,hw]
    exact ih
theorem qdF (l:List S49) (hs:Sm l) (hl:l.length≤1000):Ev (fun k=>ancepsref42_Cores.f k l) (crs l):=by
  refine Ev.bind (qH l hs hl) ?_
  unfold crs
  refine qf (fun e=>?_) (fun _=>Ev.now _)
  have:=qa7 hs (by have:=(qA e).2;omega) (l.length+1) 0 (by omega)
  exact this
theorem qbi (xs:List Int) (hx:xs.length≤1030):Ev (fun _=>slices_Clone_int_int.f xs) xs:=qd (qa (by simp;omega) (Ev.now _)) (by simp)
theorem qa8 (l:List S49) (hs:Sm l) (hl:l.length≤1000):∀ (d i:Nat) (out:List S49),i+d=l.length→out.length=i→Ev (fun k=>ancepslaw42_copied.l0 k out l l.length i) (out++l.drop i)
  | 0,i,out,h,ho=>by
    rw [List.drop_eq_nil_of_le (by omega)]
    exact qd (Ev.step (f:=fun _=>some out) (fun k=>by rw [ancepslaw42_copied.l0,if_neg (by omega)]) (Ev.now _)) (by simp)
  | d+1,i,out,h,ho=>by
    have hi:i<l.length:=by omega
    have hw:=qc i l.length hi (by omega)
    have hm:=hs _ (ql l i hi)
    have ih:=qa8 l hs hl d (i+1) (out++[rd_T49 l i]) (by omega) (by simp;omega)
    rw [qs l i hi]
    refine qd (Ev.step (fun k=>by rw [ancepslaw42_copied.l0,if_pos (by omega),if_pos (by omega),if_pos (by omega),hw]) (Ev.bind (qbi _ hm.1) (Ev.bind (qbi _ hm.2) (qa (show out.length<2932031007402 by omega) ih)))) ?_
    rw [List.append_assoc]
    rfl
theorem qdG (l:List S49) (hs:Sm l) (hl:l.length≤1000):Ev (fun k=>ancepslaw42_copied.f k l) l:=by
  have:=qa8 l hs hl l.length 0 [] (by omega) rfl
  rwa [List.drop_zero,List.nil_append] at this

theorem qdH (l:List S49):(crs l).1.length≤1114112∧∀ s,s∈(crs l).1→s.length≤1000:=by
  unfold crs
  by_cases e:cvl l=0
  · rw [if_pos e];exact qb0 (by have:=(qA e).2;omega) _
  · rw [if_neg e];exact ⟨by simp,fun s hs=>by cases hs⟩
theorem qcO (l:List S49) (s:List Int) (hl:s.length≤1000):∀ (d i:Nat),i+d=s.length→Ev (fun k=>ancepsref42_Is.l0 k l s i) (ok0 (chk l.length (prv s i) (s.drop i)))
  | 0,i,h=>by
    rw [List.drop_eq_nil_of_le (by omega)]
    refine Ev.step (f:=fun _=>some true) (fun k=>by rw [ancepsref42_Is.l0,if_neg (by omega)]) ?_
    cases prv s i <;> exact Ev.now _
  | d+1,i,h=>by
    have hi:i<s.length:=by omega
    have hw:=qc i s.length hi (by omega)
    have ih:=qcO l s hl d (i+1) (by omega)
    rw [qJ] at ih
    rw [qi s i hi]
    have hj:rd s i<0∨(l.length:Int)≤rd s i→∀ p,ok0 (chk l.length p (rd s i :: s.drop (i+1)))=false:=fun h p=>by
      cases p <;> simp only [chk] <;> rw [if_pos h] <;> rfl
    by_cases h0:rd s i<0
    · rw [hj (.inl h0)]
      exact Ev.step (f:=fun _=>some false) (fun k=>by rw [ancepsref42_Is.l0,if_pos (by omega),if_pos (by omega),if_pos h0]) (Ev.now _)
    · by_cases h1:rd s i≥(l.length:Int)
      · rw [hj (.inr h1)]
        exact Ev.step (f:=fun _=>some false) (fun k=>by rw [ancepsref42_Is.l0,if_pos (by omega),if_pos (by omega),if_neg h0,if_pos h1]) (Ev.now _)
      · by_cases e:i=0
        · have ep:prv s i=none:=by unfold prv;rw [if_pos e]
          rw [ep]
          simp only [chk]
          rw [if_neg (by omega)]
          exact Ev.step (fun k=>by rw [ancepsref42_Is.l0,if_pos (by omega),if_pos (by omega),if_neg h0,if_neg h1,if_neg (by omega),hw]) ih
        · have ep:prv s i=some (rd s ((i:Int) - 1)):=by unfold prv;rw [if_neg e]
          rw [ep]
          simp only [chk]
          rw [if_neg (by omega)]
          by_cases h2:rd s i≤rd s ((i:Int) - 1)
          · rw [if_pos h2]
            exact Ev.step (f:=fun _=>some false) (fun k=>by rw [ancepsref42_Is.l0,if_pos (by omega),if_pos (by omega),if_neg h0,if_neg h1,if_pos (by omega),qe ((i:Int) - 1) (by omega),if_pos (by omega),if_pos (by omega),if_pos (by omega)]) (Ev.now _)
          · rw [if_neg h2]
            exact Ev.step (fun k=>by rw [ancepsref42_Is.l0,if_pos (by omega),if_pos (by omega),if_neg h0,if_neg h1,if_pos (by omega),qe ((i:Int) - 1) (by omega),if_pos (by omega),if_pos (by omega),if_neg (by omega),hw]) ih
theorem qey (l:List S49) (s:List Int) (hl:s.length≤1000):Ev (fun k=>ancepsref42_Is.f k l s) (ok0 (chk l.length none s)):=by
  have:=qcO l s hl s.length 0 (by omega)
  rwa [List.drop_zero] at this
theorem qa9 (a b:List Int) (hl:a.length≤1000) (he:a.length=b.length):∀ (d i:Nat),i+d=a.length→Ev (fun k=>slices_Equal_int_int.l0 k a b a.length i) (decide (a.drop i=b.drop i))
  | 0,i,h=>by
    rw [List.drop_eq_nil_of_le (by omega),List.drop_eq_nil_of_le (by omega)]
    exact Ev.step (f:=fun _=>some true) (fun k=>by rw [slices_Equal_int_int.l0,if_neg (by omega)]) (Ev.now _)
  | d+1,i,h=>by
    have hi:i<a.length:=by omega
    have hw:=qc i a.length hi (by omega)
    rw [qi a i hi,qi b i (by omega)]
    by_cases e:rd a i=rd b i
    · have ih:=qa9 a b hl he d (i+1) (by omega)
      rw [show decide (rd a i :: a.drop (i+1)=rd b i :: b.drop (i+1))=decide (a.drop (i+1)=b.drop (i+1)) from decide_eq_decide.2 ⟨fun h=>(List.cons.inj h).2,fun h=>by rw [e,h]⟩]
      exact Ev.step (fun k=>by rw [slices_Equal_int_int.l0,if_pos (by omega),if_pos (by omega),if_pos (by omega),if_pos (by omega),if_pos e,hw]) ih
    · rw [decide_eq_false (fun h=>e (List.cons.inj h).1)]
      exact Ev.step (f:=fun _=>some false) (fun k=>by rw [slices_Equal_int_int.l0,if_pos (by omega),if_pos (by omega),if_pos (by omega),if_pos (by omega),if_neg e]) (Ev.now _)
theorem qdI (a b:List Int) (hl:a.length≤1000):Ev (fun k=>slices_Equal_int_int.f k a b) (decide (a=b)):=by
  by_cases he:a.length=b.length
  · have:=qa9 a b hl he a.length 0 (by omega)
    rw [List.drop_zero,List.drop_zero] at this
    exact qa (by omega) this
  · rw [decide_eq_false (fun h=>he (by rw [h]))]
    exact qb (by omega) (Ev.now _)
theorem qF (l:List S49) (s:List Int):(sub l s).length=s.length:=List.length_map ..
theorem qdJ (l:List S49) (s:List Int) (i:Nat):(sub l s).eraseIdx i=sub l (s.eraseIdx i):=by
  unfold sub
  rw [List.eraseIdx_eq_take_drop_succ,List.eraseIdx_eq_take_drop_succ,List.map_append,List.map_take,List.map_drop]
theorem qez {t:List S49} (ht:t.length≤1000) {i:Nat} (hi:i<t.length):(api_Table_36.f t).bind (fun t82=>api_Table_35.f t82 (i:Int) (wrap64 ((i:Int)+1)))=some (t.eraseIdx i):=by
  have h1:api_Table_36.f t=some t:=by
    unfold api_Table_36.f
    simp only [Option.bind_some]
    rw [if_pos (by simp;omega)]
    rfl
  rw [h1,Option.bind_some]
  unfold api_Table_35.f
  rw [qc i t.length hi (by omega),if_pos (by omega),if_pos (by omega),if_pos (by omega),Int.toNat_natCast]
theorem qeh {l:List S49} (hv:VS l) {s:List Int} (hm:s∈lst l.length (bad l)):Chn (l.length:Int) none s∧bad l s=true∧∀ i,i<s.length→(qY (sub l (s.eraseIdx i))).2=0:=by
  obtain ⟨h1,h2⟩:=(qdb _ _ _).1 hm
  obtain ⟨h3,h4⟩:=(qC _ _).1 h2
  exact ⟨h1,h3,fun i hi=>by have:=h4 i hi;unfold bad at this;simpa using this⟩
def wok (l:List S49) (s W:List Int) (i d:Nat):Bool:=(List.range' i d).all fun j=>hld (sub l (s.eraseIdx j)) (rd W j)
def q6 (l:List S49) (s:List Int) (N:List S96) (W:List Int):Bool:=if cvl l=0 then (if ok0 (chk l.length none s)=true then (if (W.length:Int)=(s.length:Int) then (if qaF (sub l s) N=true then wok l s W 0 s.length else false) else false) else false) else false
theorem qcP (l:List S49) (s W:List Int) (i d:Nat):wok l s W i (d+1)=(hld (sub l (s.eraseIdx i)) (rd W i)&&wok l s W (i+1) d):=by unfold wok;rw [List.range'_succ,List.all_cons]
theorem qb5 {l:List S49} (hS:Sm l) {s W:List Int} (hs:Chn (l.length:Int) none s) (hl:s.length≤1000) (hW:W.length=s.length):∀ (d i:Nat),i+d=s.length→Ev (fun k=>conflict_Check.l0 k (sub l s) W (W.length:Int) i) (wok l s W i d)
  | 0,i,h=>Ev.step (f:=fun _=>some true) (fun k=>by rw [conflict_Check.l0,if_neg (by omega)]) (Ev.now _)
  | d+1,i,h=>by
    have hln:=qF l s
    have hi:i<s.length:=by omega
    have hw:=qc i s.length hi (by omega)
    have ih:=qb5 hS hs hl hW d (i+1) (by omega)
    have hd:=qez (t:=sub l s) (by omega) (i:=i) (by omega)
    rw [qdJ] at hd
    have h1:(sub l (s.eraseIdx i)).length≤1000:=by rw [qF,List.length_eraseIdx_of_lt hi];omega
    rw [qcP]
    refine Ev.step (f:=fun k=>(solve_Holds.f k (sub l (s.eraseIdx i)) (rd W i)).bind fun t80=>if t80=true then conflict_Check.l0 k (sub l s) W (W.length:Int) (wrap64 ((i:Int)+1)) else some false) (fun k=>?_) ?_
    · rw [conflict_Check.l0,if_pos (by omega),if_pos (by omega),if_pos (by omega),← Option.bind_assoc,hd,Option.bind_some]
    · refine Ev.bind (qcs _ (qN hS (qw hs i)) h1 _) ?_
      rw [hw]
      cases hld (sub l (s.eraseIdx i)) (rd W i) with
      | true=>exact qa rfl ih
      | false=>exact qb (by decide) (Ev.now _)
theorem qb6 {l:List S49} (hS:Sm l) {s W:List Int} (N:List S96) (hs:Chn (l.length:Int) none s) (hl:s.length≤1000) (hW:W.length=s.length):∀ (d i:Nat),i+d=s.length→Ev (fun k=>ancepsref42_Check.l0 k l i s N W) (wok l s W i d)
  | 0,i,h=>Ev.step (f:=fun _=>some true) (fun k=>by rw [ancepsref42_Check.l0,if_neg (by omega)]) (Ev.now _)
  | d+1,i,h=>by
    have hi:i<s.length:=by omega
    have hw:=qc i s.length hi (by omega)
    have ih:=qb6 hS N hs hl hW d (i+1) (by omega)
    have h1:(s.eraseIdx i).length≤1000:=by rw [List.length_eraseIdx_of_lt hi];omega
    rw [qcP]
    refine Ev.step (fun k=>by rw [ancepsref42_Check.l0,if_pos (by omega),hw]) ?_
    refine Ev.bind (qbz s hl i hi) (Ev.bind (qT l (qw hs i) h1) (qa (by omega) (qa (by omega) (Ev.bind (qct _ (qN hS (qw hs i)) (by rw [qF];omega) _) ?_))))
    cases hld (sub l (s.eraseIdx i)) (rd W i) with
    | true=>exact qa rfl ih
    | false=>exact qb (by decide) (Ev.now _)
theorem qcQ (l:List S49) (hS:Sm l) (hl:l.length≤1000) (s:List Int) (hs:s.length≤1000) (N:List S96) (W:List Int):Ev (fun k=>conflict_Check.f k l s N W) (q6 l s N W):=by
  refine Ev.bind (q9 l hS hl) ?_
  unfold q6
  refine qf (fun _=>Ev.bind (qdf l.length s hs) ?_) (fun _=>Ev.now _)
  by_cases e:ok0 (chk l.length none s)=true
  · rw [if_pos e]
    have hc:=(qI _ _ _).1 ((qaj _).1 e)
    refine qa e (qf (fun hW=>Ev.bind (q7 l hc hs) (Ev.bind (qdx _ (qN hS hc) (by rw [qF];omega) _) (qf (fun _=>?_) (fun _=>Ev.now _)))) (fun _=>Ev.now _))
    exact qb5 hS hc hs (by omega) s.length 0 (by omega)
  · rw [if_neg e];exact qb e (Ev.now _)
theorem qcR (l:List S49) (hS:Sm l) (hl:l.length≤1000) (s:List Int) (hs:s.length≤1000) (N:List S96) (W:List Int):Ev (fun k=>ancepsref42_Check.f k l s N W) (q6 l s N W):=by
  refine Ev.bind (qH l hS hl) ?_
  unfold q6
  refine qf (fun _=>Ev.bind (qey l s hs) ?_) (fun _=>Ev.now _)
  by_cases e:ok0 (chk l.length none s)=true
  · rw [if_pos e]
    have hc:=(qI _ _ _).1 ((qaj _).1 e)
    refine qa e (qf (fun hW=>Ev.bind (qT l hc hs) (Ev.bind (qdz _ (qN hS hc) (by rw [qF];omega) _) (qf (fun _=>?_) (fun _=>Ev.now _)))) (fun _=>Ev.now _))
    exact qb6 hS N hc hs (by omega) s.length 0 (by omega)
  · rw [if_neg e];exact qb e (Ev.now _)
def pok (l:List S49) (L:List (List Int)) (P:List Int) (i d:Nat):Bool:=(List.range' i d).all fun j=>hld (sub l (rd_L1 L j)) (rd P j)
theorem qcS (l:List S49) (L:List (List Int)) (P:List Int) (i d:Nat):pok l L P i (d+1)=(hld (sub l (rd_L1 L i)) (rd P i)&&pok l L P (i+1) d):=by unfold pok;rw [List.range'_succ,List.all_cons]
def qaq (l:List S49) (s:List Int) (N:List S96) (W P:List Int):Bool:=if q6 l s N W=true then (if (s.length:Int)=0 then false else (if (cmb l.length (s.length - 1) 0).length=P.length then pok l (cmb l.length (s.length - 1) 0) P 0 P.length else false)) else false
theorem qb7 {l:List S49} (hS:Sm l) (h16:l.length≤16) {L:List (List Int)} (hL:∀ s,s∈L→Chn (l.length:Int) none s) (hLl:L.length≤100000) {P:List Int} (hP:L.length=P.length):∀ (d i:Nat),i+d=P.length→Ev (fun k=>conflict_CheckSmallest.l0 k l P L (L.length:Int) i) (pok l L P i d)
  | 0,i,h=>Ev.step (f:=fun _=>some true) (fun k=>by rw [conflict_CheckSmallest.l0,if_neg (by omega)]) (Ev.now _)
  | d+1,i,h=>by
    have hi:i<L.length:=by omega
    have hw:=qc i L.length hi (by omega)
    have ih:=qb7 hS h16 hL hLl hP d (i+1) (by omega)
    have hc:=hL _ (qy L i hi)
    have hln:=qh (n:=l.length) (by omega) hc
    rw [qcS]
    refine Ev.step (fun k=>by rw [conflict_CheckSmallest.l0,if_pos (by omega),if_pos (by omega),if_pos (by omega),hw]) ?_
    refine Ev.bind (q7 l hc (by omega)) (qa (by omega) (Ev.bind (qcs _ (qN hS hc) (by rw [qF];omega) _) ?_))
    cases hld (sub l (rd_L1 L i)) (rd P i) with
    | true=>exact qa rfl ih
    | false=>exact qb (by decide) (Ev.now _)
theorem qb8 {l:List S49} (hS:Sm l) (h16:l.length≤16) {L:List (List Int)} (hL:∀ s,s∈L→Chn (l.length:Int) none s) (hLl:L.length≤100000) {P:List Int} (hP:L.length=P.length):∀ (d i:Nat),i+d=P.length→Ev (fun k=>ancepsref42_CheckSmallest.l0 k l P L i) (pok l L P i d)
  | 0,i,h=>Ev.step (f:=fun _=>some true) (fun k=>by rw [ancepsref42_CheckSmallest.l0,if_neg (by omega)]) (Ev.now _)
  | d+1,i,h=>by
    have hi:i<L.length:=by omega
    have hw:=qc i L.length hi (by omega)
    have ih:=qb8 hS h16 hL hLl hP d (i+1) (by omega)
    have hc:=hL _ (qy L i hi)
    have hln:=qh (n:=l.length) (by omega) hc
    rw [qcS]
    refine Ev.step (fun k=>by rw [ancepsref42_CheckSmallest.l0,if_pos (by omega),if_pos (by omega),hw]) ?_
    refine Ev.bind (qT l hc (by omega)) (qa (by omega) (Ev.bind (qct _ (qN hS hc) (by rw [qF];omega) _) ?_))
    cases hld (sub l (rd_L1 L i)) (rd P i) with
    | true=>exact qa rfl ih
    | false=>exact qb (by decide) (Ev.now _)
theorem qb9 {n:Nat} (h:n≤16) (s:Nat):(cmb n s 0).length≤100000:=Nat.le_trans (qx n s 0) (Nat.le_trans (Nat.pow_le_pow_right (by decide) h) (by decide))
theorem qdZ (l:List S49) (hS:Sm l) (hl:l.length≤1000) (s:List Int) (hs:s.length≤1000) (N:List S96) (W P:List Int):Ev (fun k=>conflict_CheckSmallest.f k l s N W P) (qaq l s N W P):=by
  refine Ev.bind (qcQ l hS hl s hs N W) ?_
  unfold qaq
  refine qf (fun hC=>qf (fun _=>Ev.now _) (fun h0=>?_)) (fun _=>Ev.now _)
  have h12:l.length≤12:=by
    unfold q6 at hC
    by_cases e:cvl l=0
    · exact (qA e).2
    · rw [if_neg e] at hC;cases hC
  have hw:wrap64 ((s.length:Int) - 1)=((s.length - 1:Nat):Int):=by rw [qe _ (by omega)];omega
  rw [hw]
  refine Ev.bind (qaS l.length (by omega) (s.length - 1) (by omega)) ?_
  by_cases e:(cmb l.length (s.length - 1) 0).length=P.length
  · rw [if_pos e]
    exact qa (by omega) (qb7 hS (by omega) (fun t ht=>qai ht) (qb9 (by omega) _) e P.length 0 (by omega))
  · rw [if_neg e];exact qb (by omega) (Ev.now _)
theorem qd0 (l:List S49) (hS:Sm l) (hl:l.length≤1000) (s:List Int) (hs:s.length≤1000) (N:List S96) (W P:List Int):Ev (fun k=>ancepsref42_CheckSmallest.f k l s N W P) (qaq l s N W P):=by
  refine Ev.bind (qcR l hS hl s hs N W) ?_
  unfold qaq
  refine qf (fun hC=>qf (fun _=>Ev.now _) (fun h0=>?_)) (fun _=>Ev.now _)
  have h12:l.length≤12:=by
    unfold q6 at hC
    by_cases e:cvl l=0
    · exact (qA e).2
    · rw [if_neg e] at hC;cases hC
  have hw:wrap64 ((s.length:Int) - 1)=((s.length - 1:Nat):Int):=by rw [qe _ (by omega)];omega
  rw [hw]
  refine Ev.bind (qbh (s.length - 1) l.length (by omega) (by omega)) ?_
  by_cases e:(cmb l.length (s.length - 1) 0).length=P.length
  · rw [if_pos e]
    exact qa (by omega) (qb8 hS (by omega) (fun t ht=>qai ht) (qb9 (by omega) _) e P.length 0 (by omega))
  · rw [if_neg e];exact qb (by omega) (Ev.now _)
theorem qbC (n:Nat) (P:List Int→Bool):∀ k,(low n P k).Pairwise fun a b=>a.length≤b.length
  | 0=>List.Pairwise.nil
  | k+1=>by
    rw [qK,List.pairwise_append]
    refine ⟨qbC n P k,?_,fun a ha b hb=>?_⟩
    · rw [List.pairwise_iff_forall_sublist]
      intro a b hab
      have ha:=(qk _ _ _ _).1 ((List.mem_filter.1 (hab.subset (List.mem_cons_self))).1)
      have hb:=(qk _ _ _ _).1 ((List.mem_filter.1 (hab.subset (List.mem_cons_of_mem _ List.mem_cons_self))).1)
      omega
    · have h1:=((qag n P k a).1 ha).1
      have h2:=(qk _ _ _ _).1 ((List.mem_filter.1 hb).1)
      omega
theorem qd1 {n:Nat} {P:List Int→Bool} {o:List Int} (ho:o∈lst n P):(rd_L1 (lst n P) 0).length≤o.length:=by
  have h:=qbC n P (n+1)
  unfold lst at ho ⊢
  cases hc:low n P (n+1) with
  | nil=>rw [hc] at ho;cases ho
  | cons s r=>
    rw [hc] at h ho
    show s.length≤o.length
    rcases List.mem_cons.1 ho with rfl|ho
    · exact Nat.le_refl _
    · exact (List.pairwise_cons.1 h).1 o ho
theorem qcT {m:List S49} (h:VS m) {a:Int} (ha:hld m a=true):(qY m).2=0:=by
  rw [qcE h]
  unfold hld at ha
  rw [if_pos ((qj m).2 h)] at ha
  by_cases e:a<0
  · rw [if_pos e] at ha;cases ha
  · rw [if_neg e] at ha
    by_cases e2:a≥16777216
    · rw [if_pos e2] at ha;cases ha
    · rw [if_neg e2] at ha
      unfold hsS at ha
      exact ⟨a.toNat,(Bool.and_eq_true _ _ ▸ ha).2⟩
theorem qcU {l:List S49} {s:List Int} {N:List S96} {W:List Int} (h:q6 l s N W=true):VS l∧l.length≤12∧cvl l=0∧Chn (l.length:Int) none s∧s∈lst l.length (bad l):=by
  unfold q6 at h
  by_cases hc:cvl l=0
  · rw [if_pos hc] at h
    obtain ⟨hv,h12⟩:=qA hc
    by_cases hk:ok0 (chk l.length none s)=true
    · rw [if_pos hk] at h
      have hch:=(qI _ _ _).1 ((qaj _).1 hk)
      by_cases hW:(W.length:Int)=(s.length:Int)
      · rw [if_pos hW] at h
        by_cases hN:qaF (sub l s) N=true
        · rw [if_pos hN] at h
          refine ⟨hv,h12,hc,hch,(qdb _ _ _).2 ⟨hch,(qC _ _).2 ⟨?_,fun i hi=>?_⟩⟩⟩
          · obtain ⟨h1,h2⟩:=qdP hN
            unfold bad qY
            rw [if_pos h1,h2]
            rfl
          · unfold wok at h
            have h1:=List.all_eq_true.1 h i (by rw [List.mem_range'_1];omega)
            have h2:=qcT (qcD hv (qw hch i)) h1
            unfold bad
            rw [h2]
            rfl
        · rw [if_neg hN] at h;cases h
      · rw [if_neg hW] at h;cases h
    · rw [if_neg hk] at h;cases h
  · rw [if_neg hc] at h;cases h
theorem qd2 (l:List S49):(full l.length).length=l.length:=by
  have h:=congrArg List.length (qdX l)
  rwa [qF] at h
theorem qd3 {l:List S49} {o:List Int} (h:Chn (l.length:Int) none o) (hlt:o.length<l.length):∃ t,Chn (l.length:Int) none t∧t.length=o.length+1∧∀ x,x∈o→x∈t:=by
  have hx:∃ x:Int,0≤x∧x<(l.length:Int)∧x∉o:=by
    by_cases e:∃ x:Int,0≤x∧x<(l.length:Int)∧x∉o
    · exact e
    · have h1:o=full l.length:=h.same (qdW _) (fun x=>by
        rw [qdV]
        constructor
        · intro hx;have:=h.mem x hx;omega
        · intro hx
          by_cases e2:x∈o
          · exact e2
          · exact absurd ⟨x,hx.1,hx.2,e2⟩ e)
      have:=qd2 l
      rw [← h1] at this
      omega
  obtain ⟨x,h0,h1,h2⟩:=hx
  have hm:∀ y,y∈flt (fun m=>decide ((m:Int)∈x :: o)) l.length 0↔y∈x :: o:=fun y=>by
    rw [qad]
    constructor
    · rintro ⟨m,_,_,h4,rfl⟩
      simpa using h4
    · intro hy
      have hy2:0≤y∧y<(l.length:Int):=by
        rcases List.mem_cons.1 hy with rfl|hy
        · exact ⟨h0,h1⟩
        · have:=h.mem y hy;omega
      exact ⟨y.toNat,by omega,by omega,by rw [show ((y.toNat:Nat):Int)=y by omega];simpa using hy,by omega⟩
  have hc:Chn (l.length:Int) none (flt (fun m=>decide ((m:Int)∈x :: o)) l.length 0):=by
    have h_:=qU (fun m=>decide ((m:Int)∈x :: o)) l.length 0 none (fun q hq=>by cases hq)
    rwa [Nat.zero_add] at h_
  refine ⟨_,hc,?_,fun y hy=>(hm y).2 (List.mem_cons_of_mem _ hy)⟩
  have hp:(flt (fun m=>decide ((m:Int)∈x :: o)) l.length 0).Perm (x :: o):=(List.perm_ext_iff_of_nodup hc.nodup (List.nodup_cons.2 ⟨h2,h.nodup⟩)).2 hm
  rw [hp.length_eq,List.length_cons]
theorem qcV {l:List S49}:∀ (k:Nat) (o:List Int),Chn (l.length:Int) none o→o.length+k≤l.length→∃ t,Chn (l.length:Int) none t∧t.length=o.length+k∧∀ x,x∈o→x∈t
  | 0,o,h,_=>⟨o,h,rfl,fun _ hx=>hx⟩
  | k+1,o,h,hl=>by
    obtain ⟨t,h1,h2,h3⟩:=qd3 h (by omega)
    obtain ⟨u,h4,h5,h6⟩:=qcV k t h1 (by omega)
    exact ⟨u,h4,by omega,fun x hx=>h6 x (h3 x hx)⟩
theorem qdq {l:List S49} {s:List Int} {N:List S96} {W P:List Int} (h:qaq l s N W P=true):(rd_L1 (lst l.length (bad l)) 0).length=s.length:=by
  unfold qaq at h
  by_cases hC:q6 l s N W=true
  · rw [if_pos hC] at h
    obtain ⟨hv,h12,hc,hch,hin⟩:=qcU hC
    by_cases h0:(s.length:Int)=0
    · rw [if_pos h0] at h;cases h
    · rw [if_neg h0] at h
      by_cases hP:(cmb l.length (s.length - 1) 0).length=P.length
      · rw [if_pos hP] at h
        have hmin:=qd1 hin
        have hsl:=qh (n:=l.length) (by omega) hch
        have hhd:rd_L1 (lst l.length (bad l)) 0∈lst l.length (bad l):=qy _ 0 (List.length_pos_of_mem hin)
        obtain ⟨hoc,hob,_⟩:=qeh hv hhd
        by_cases e:(rd_L1 (lst l.length (bad l)) 0).length=s.length
        · exact e
        · exfalso
          obtain ⟨t,h1,h2,h3⟩:=qcV (s.length - 1 - (rd_L1 (lst l.length (bad l)) 0).length) _ hoc (by omega)
          have hb:=qbL hv _ t hoc h1 h3 hob
          have ht:t∈cmb l.length (s.length - 1) 0:=(qk _ _ _ _).2 ⟨by omega,by simpa using h1,fun x hx=>by have:=h1.mem x hx;omega⟩
          obtain ⟨j,hj,hj2⟩:=List.mem_iff_getElem.1 ht
          unfold pok at h
          have h4:=List.all_eq_true.1 h j (by rw [List.mem_range'_1];omega)
          have h5:rd_L1 (cmb l.length (s.length - 1) 0) j=t:=by
            have h6:=qq (cmb l.length (s.length - 1) 0) j hj
            rw [List.drop_eq_getElem_cons hj,hj2] at h6
            exact (List.cons.inj h6).1.symm
          rw [h5] at h4
          have h7:=qcT (qcD hv h1) h4
          unfold bad at hb
          rw [h7] at hb
          cases hb
      · rw [if_neg hP] at h;cases h
  · rw [if_neg hC] at h;cases h
theorem qaO (L:List (List Int)) (x:List Int) (N:List S96) (W:List Int) (hL:L.length≤2000000) (hs:∀ s,s∈L→s.length≤1000):∀ (d i:Nat),i+d=L.length→∃ q:Int,Ev (fun k=>slices_IndexFunc_int_int_ancepslaw42_ConflictChecks_1.l0 k L L.length i x N W) q∧decide (q≥0)=(L.drop i).any fun s=>decide (s=x)
  | 0,i,hd=>by
    rw [List.drop_eq_nil_of_le (by omega)]
    exact ⟨-1,Ev.step (f:=fun _=>some (-1)) (fun k=>by rw [slices_IndexFunc_int_int_ancepslaw42_ConflictChecks_1.l0,if_neg (by omega)]) (Ev.now _),rfl⟩
  | d+1,i,hd=>by
    have hi:i<L.length:=by omega
    have hw:=qc i L.length hi (by omega)
    obtain ⟨q,hq,hq2⟩:=qaO L x N W hL hs d (i+1) (by omega)
    have hc:Ev (fun k=>ancepslaw42_ConflictChecks_1_v1.f k (rd_L1 L i) x N W) (decide (rd_L1 L i=x)):=Ev.bind (qdI _ x (hs _ (qy L i hi))) (Ev.now _)
    rw [qq L i hi,List.any_cons]
    by_cases e:decide (rd_L1 L i=x)=true
    · rw [e] at hc ⊢
      exact ⟨i,Ev.step (fun k=>by rw [slices_IndexFunc_int_int_ancepslaw42_ConflictChecks_1.l0,if_pos (by omega),if_pos (by omega),if_pos (by omega)]) (Ev.bind hc (qa rfl (Ev.now _))),by rw [Bool.true_or];exact decide_eq_true (by omega)⟩
    · rw [Bool.not_eq_true] at e
      rw [e] at hc ⊢
      exact ⟨q,Ev.step (fun k=>by rw [slices_IndexFunc_int_int_ancepslaw42_ConflictChecks_1.l0,if_pos (by omega),if_pos (by omega),if_pos (by omega),hw]) (Ev.bind hc (qb Bool.false_ne_true hq)),by rw [Bool.false_or];exact hq2⟩
theorem qcW (L:List (List Int)) (x:List Int) (N:List S96) (W:List Int) (hL:L.length≤2000000) (hs:∀ s,s∈L→s.length≤1000):Ev (fun k=>slices_ContainsFunc_int_int_ancepslaw42_ConflictChecks_1.f k L x N W) (L.any fun s=>decide (s=x)):=by
  obtain ⟨q,h1,h2⟩:=qaO L x N W hL hs L.length 0 (by omega)
  rw [List.drop_zero] at h2
  exact Ev.bind h1 (qd (Ev.now _) h2)
theorem qaT (l:List S49) (s:List Int) (N:List S96) (W P:List Int):Ev (fun k=>ancepslaw42_ConflictChecks.f k l s N W P) true:=by
  obtain ⟨b,hb,hq⟩:=qeg l
  refine Ev.bind qcN (qa rfl (Ev.bind hb ?_))
  cases b with
  | false=>exact qb (by simp) qap
  | true=>
    obtain ⟨hS,h18⟩:=hq rfl
    have hl:l.length≤1000:=by omega
    refine qa rfl ?_
    have hfew:∃ c,Ev (fun _=>ancepsref42_FewCore.f s N W) c∧(c=true→s.length≤20):=by
      by_cases e1:(s.length:Int)≤20
      · by_cases e2:(N.length:Int)≤200
        · exact ⟨_,qa e1 (qa e2 (Ev.now _)),fun _=>by omega⟩
        · exact ⟨_,qa e1 (qb e2 (Ev.now _)),fun h=>by cases h⟩
      · exact ⟨_,qb e1 (Ev.now _),fun h=>by cases h⟩
    obtain ⟨c,hc1,hc2⟩:=hfew
    refine Ev.bind hc1 ?_
    cases c with
    | false=>exact qb (by simp) qap
    | true=>
      have hs:=hc2 rfl
      refine qa rfl ?_
      by_cases h40:(P.length:Int)>40
      · exact qa h40 qap
      · have cp:=qdG l hS hl
        obtain ⟨a1,a2⟩:=qdH l
        refine qb h40 (Ev.bind cp (Ev.bind (qcQ l hS hl s (by omega) N W) (Ev.bind cp (Ev.bind (qbi P (by omega)) (Ev.bind (qdZ l hS hl s (by omega) N W P) (Ev.bind (qcR l hS hl s (by omega) N W) (qb (by simp) (Ev.bind (qd0 l hS hl s (by omega) N W P) (qb (by simp) (Ev.bind (qdF l hS hl) (Ev.bind (qcW (crs l).1 s N W (by omega) a2) ?_)))))))))))
        by_cases hC:q6 l s N W=true
        · obtain ⟨hv,h12,hc,hch,hin⟩:=qcU hC
          have e1:crs l=(lst l.length (bad l),0):=by unfold crs;rw [if_pos hc]
          rw [e1]
          refine qa hC (qa (List.any_eq_true.2 ⟨s,hin,by simp⟩) ?_)
          by_cases hs2:qaq l s N W P=true
          · have hp:=List.length_pos_of_mem hin
            refine qa hs2 (qa (by show ((lst l.length (bad l)).length:Int)>0;omega) (qa (by show (0:Int)<((lst l.length (bad l)).length:Int);omega) (qd (Ev.now _) ?_)))
            rw [show ((rd_L1 (lst l.length (bad l)) 0).length:Int)=(s.length:Int) by have:=qdq hs2;omega]
            simp
          · exact qb hs2 (Ev.now _)
        · have hs2:¬ qaq l s N W P=true:=by unfold qaq;rw [if_neg hC];decide
          exact qb hC (qb hs2 (Ev.now _))
theorem ConflictChecks (l0:List (S49)) (l1_0:List Int) (l1_1:List (S96)) (l1_2:List Int) (l2:List Int) (w_l0:∀ x,x∈l0→(∀ y,y∈x.f0→(Lit.int .i64 y).wf=true)∧(∀ y,y∈x.f1→(Lit.int .i64 y).wf=true)) (w_l1_0:∀ x,x∈l1_0→(Lit.int .i64 x).wf=true) (w_l1_1:∀ x,x∈l1_1→(Lit.int .i64 x.f0).wf=true∧(Lit.int .i64 x.f1).wf=true∧(Lit.int .i64 x.f2).wf=true∧(Lit.int .i64 x.f3).wf=true) (w_l1_2:∀ x,x∈l1_2→(Lit.int .i64 x).wf=true) (w_l2:∀ x,x∈l2→(Lit.int .i64 x).wf=true):∃ k,B.ancepslaw42_ConflictChecks.f k l0 l1_0 l1_1 l1_2 l2=some true:=qdr (qaT l0 l1_0 l1_1 l1_2 l2)

end Go.Proofs.YtkjghablbeaioaaGreat.Pure
