import Derived.Test.YtkaalbbbpebpdaaT0
import Derived.Test.YtkaalbbbpebpdaaT2
import Derived.Test.YtkaalbbbpebpdaaT3
import Derived.Test.YtkaalbbbpebpdaaT4
import Derived.Test.YtkaalbbbpebpdaaT5
import Derived.Test.YtkaalbbbpebpdaaT6
import Derived.Test.YtkaalbbbpebpdaaT7
import Derived.Test.YtkaalbbbpebpdaaT8
import Derived.Test.YtkaalbbbpebpdaaT9
import Derived.Test.YtkaalbbbpebpdaaT10
import Derived.Test.YtkaalbbbpebpdaaT11
import Derived.Test.YtkaalbbbpebpdaaT12
import Derived.Test.YtkaalbbbpebpdaaT13
namespace Go.Proofs.Ytkaalbbbpebpdaa.Pure
open Go.RowKit Go.Proofs.YtkaalbbbpebpdaaW.PrintWords Go.Proofs.Ytkaalbbbpebpdaa.T
set_option linter.unusedVariables false
set_option linter.unusedSimpArgs false
theorem w64_in (n:Int) (h : -9223372036854775808≤n∧n≤9223372036854775807):wrap64 n=n:=by unfold wrap64;omega
theorem wrap_succ (i n:Nat) (hi:i<n) (hn:(n:Int)≤9223372036854775807):wrap64 ((i:Int)+1)=((i+1:Nat):Int):=by
  rw [w64_in _ (by omega)];omega
theorem getD_drop {α:Type} (l:List α) (i:Nat) (z:α) (hi:i<l.length):l.drop i=l.getD i z :: l.drop (i+1):=by
  rw [List.drop_eq_getElem_cons hi]
  simp [List.getD,List.getElem?_eq_getElem hi]
theorem ev_pos {α:Type} {c:Prop} [Decidable c] {g f:Nat→Option α} {r:α} (h:c) (e:Ev g r):Ev (fun k=>if c then g k else f k) r:=Ev.congr (fun k=>if_pos h) e
theorem ev_neg {α:Type} {c:Prop} [Decidable c] {g f:Nat→Option α} {r:α} (h:¬ c) (e:Ev f r):Ev (fun k=>if c then g k else f k) r:=Ev.congr (fun k=>if_neg h) e
theorem ev_eq {α:Type} {g:Nat→Option α} {r s:α} (e:Ev g r) (h:r=s):Ev g s:=h ▸ e
theorem ev_ite {α:Type} {c:Prop} [Decidable c] {g f:Nat→Option α} {r s:α} (h1:c→Ev g r) (h2:¬ c→Ev f s):Ev (fun k=>if c then g k else f k) (if c then r else s):=by
  by_cases h:c
  · rw [if_pos h];exact ev_pos h (h1 h)
  · rw [if_neg h];exact ev_neg h (h2 h)
theorem ev_rounds {α:Type} {g:Nat→Option α} {r:α} (h:Ev g r):∃ k,g k=some r:=h.elim fun K h=>⟨K,h K (Nat.le_refl _)⟩

def chk (hi:Int):Option Int→List Int→Int
  | _,[]=>0
  | none,x :: xs=>if x<0∨hi≤x then 6 else chk hi (some x) xs
  | some q,x :: xs=>if x<0∨hi≤x then 6 else if x≤q then 18 else chk hi (some x) xs
def Chn (hi:Int):Option Int→List Int→Prop
  | _,[]=>True
  | p,x :: xs=>0≤x∧x<hi∧(∀ q,p=some q→q<x)∧Chn hi (some x) xs
theorem chk_Chn (hi:Int):∀ (xs:List Int) (p:Option Int),chk hi p xs=0↔Chn hi p xs
  | [],p=>by cases p <;> simp [chk,Chn]
  | x :: xs,p=>by
    have ih:=chk_Chn hi xs (some x)
    cases p with
    | none=>
      simp only [chk,Chn]
      by_cases h:x<0∨hi≤x
      · rw [if_pos h];exact ⟨fun h=>by omega,fun h2=>by omega⟩
      · rw [if_neg h,ih];exact ⟨fun h2=>⟨by omega,by omega,(fun q hq=>by cases hq),h2⟩,fun h2=>h2.2.2.2⟩
    | some q=>
      simp only [chk,Chn]
      by_cases h:x<0∨hi≤x
      · rw [if_pos h];exact ⟨fun h=>by omega,fun h2=>by omega⟩
      · rw [if_neg h]
        by_cases h1:x≤q
        · rw [if_pos h1];exact ⟨fun h=>by omega,fun h2=>by have:=h2.2.2.1 q rfl;omega⟩
        · rw [if_neg h1,ih];exact ⟨fun h2=>⟨by omega,by omega,fun q' hq=>by injection hq;omega,h2⟩,fun h2=>h2.2.2.2⟩
def prv (xs:List Int) (i:Nat):Option Int:=if i=0 then none else some (rd xs ((i:Int) - 1))
theorem prv_succ (xs:List Int) (i:Nat):prv xs (i+1)=some (rd xs i):=by
  unfold prv;rw [if_neg (by omega)];congr 2;omega
theorem rd_at (l:List Int) (i:Nat) (hi:i<l.length):l.drop i=rd l i :: l.drop (i+1):=getD_drop l i 0 hi
theorem rd_mem (ps:List Int) (i:Nat) (hi:i<ps.length):rd ps i∈ps:=by
  unfold rd
  simp only [Int.toNat_natCast,List.getD,List.getElem?_eq_getElem hi,Option.getD_some]
  exact List.getElem_mem hi
theorem shl1 (n:Nat) (h:n≤60):shl .i64 1 (n:Int)=((2 ^ n:Nat):Int):=by
  have h2:(2:Nat) ^ n≤2 ^ 60:=Nat.pow_le_pow_right (by decide) h
  unfold shl
  have e:min ((n:Int)).toNat IntKind.i64.bits=n:=by
    have:IntKind.i64.bits=64:=rfl
    rw [this];omega
  rw [e,Int.one_mul,show ((2:Int) ^ n)=((2 ^ n:Nat):Int) by simp]
  have h3:(2:Nat) ^ 60=1152921504606846976:=by decide
  rw [h3] at h2
  generalize (2:Nat) ^ n=z at h2 ⊢
  rw [IntKind.wrap_i64]
  omega
def asc (vs:List Int):Int:=if (vs.length:Int)>10 then 3 else chk 24 none vs
def valid (vs rs:List Int):Int:=if asc vs=0 then chk ((2 ^ vs.length:Nat):Int) none rs else asc vs
theorem asc_loop (vs:List Int) (hl:(vs.length:Int)≤9223372036854775807):∀ (d i:Nat),i+d=vs.length→Ev (fun k=>table_ascending.l0 k vs vs vs.length i) (chk 24 (prv vs i) (vs.drop i))
  | 0,i,h=>by
    rw [List.drop_eq_nil_of_le (by omega)]
    refine Ev.step (f:=fun _=>some 0) (fun k=>by rw [table_ascending.l0,if_neg (by omega)]) ?_
    cases prv vs i <;> exact Ev.now _
  | d+1,i,h=>by
    have hi:i<vs.length:=by omega
    have hw:=wrap_succ i vs.length hi hl
    have ih:=asc_loop vs hl d (i+1) (by omega)
    rw [prv_succ] at ih
    rw [rd_at vs i hi]
    have hj:rd vs i<0∨24≤rd vs i→∀ p,chk 24 p (rd vs i :: vs.drop (i+1))=6:=fun h p=>by cases p <;> simp only [chk] <;> rw [if_pos h]
    by_cases h0:rd vs i<0
    · rw [hj (.inl h0)]
      exact Ev.step (f:=fun _=>some 6) (fun k=>by rw [table_ascending.l0,if_pos (by omega),if_pos (by omega),if_pos (by omega),if_pos h0]) (Ev.now _)
    · by_cases h1:rd vs i≥24
      · rw [hj (.inr h1)]
        exact Ev.step (f:=fun _=>some 6) (fun k=>by rw [table_ascending.l0,if_pos (by omega),if_pos (by omega),if_pos (by omega),if_neg h0,if_pos h1]) (Ev.now _)
      · by_cases e:i=0
        · have ep:prv vs i=none:=by unfold prv;rw [if_pos e]
          rw [ep]
          simp only [chk]
          rw [if_neg (by omega)]
          refine Ev.step (fun k=>by rw [table_ascending.l0,if_pos (by omega),if_pos (by omega),if_pos (by omega),if_neg h0,if_neg h1,if_neg (by omega),hw]) ih
        · have ep:prv vs i=some (rd vs ((i:Int) - 1)):=by unfold prv;rw [if_neg e]
          rw [ep]
          simp only [chk]
          rw [if_neg (by omega)]
          by_cases h2:rd vs i≤rd vs ((i:Int) - 1)
          · rw [if_pos h2]
            exact Ev.step (f:=fun _=>some 18) (fun k=>by rw [table_ascending.l0,if_pos (by omega),if_pos (by omega),if_pos (by omega),if_neg h0,if_neg h1,if_pos (by omega),w64_in ((i:Int) - 1) (by omega),if_pos (by omega),if_pos (by omega),if_pos (by omega)]) (Ev.now _)
          · rw [if_neg h2]
            refine Ev.step (fun k=>by rw [table_ascending.l0,if_pos (by omega),if_pos (by omega),if_pos (by omega),if_neg h0,if_neg h1,if_pos (by omega),w64_in ((i:Int) - 1) (by omega),if_pos (by omega),if_pos (by omega),if_neg (by omega),hw]) ih
theorem asc_ev (vs:List Int) (hl:(vs.length:Int)≤9223372036854775807):Ev (fun k=>table_ascending.f k vs) (asc vs):=by
  unfold asc table_ascending.f
  refine ev_ite (fun _=>Ev.now _) (fun _=>?_)
  simpa [prv] using asc_loop vs hl vs.length 0 (by omega)
theorem valid_loop (vs rs:List Int) (hv:vs.length≤10) (hl:(rs.length:Int)≤9223372036854775807):∀ (d i:Nat),i+d=rs.length→Ev (fun k=>table_Valid.l0 k rs rs.length i vs rs) (chk ((2 ^ vs.length:Nat):Int) (prv rs i) (rs.drop i))
  | 0,i,h=>by
    rw [List.drop_eq_nil_of_le (by omega)]
    refine Ev.step (f:=fun _=>some 0) (fun k=>by rw [table_Valid.l0,if_neg (by omega)]) ?_
    cases prv rs i <;> exact Ev.now _
  | d+1,i,h=>by
    have hi:i<rs.length:=by omega
    have hw:=wrap_succ i rs.length hi hl
    have ih:=valid_loop vs rs hv hl d (i+1) (by omega)
    have hs:=shl1 vs.length (by omega)
    rw [prv_succ] at ih
    rw [rd_at rs i hi]
    have hj:rd rs i<0∨((2 ^ vs.length:Nat):Int)≤rd rs i→∀ p,chk ((2 ^ vs.length:Nat):Int) p (rd rs i :: rs.drop (i+1))=6:=fun h p=>by cases p <;> simp only [chk] <;> rw [if_pos h]
    by_cases h0:rd rs i<0
    · rw [hj (.inl h0)]
      exact Ev.step (f:=fun _=>some 6) (fun k=>by rw [table_Valid.l0,if_pos (by omega),if_pos (by omega),if_pos (by omega),if_pos h0]) (Ev.now _)
    · by_cases h1:rd rs i≥((2 ^ vs.length:Nat):Int)
      · rw [hj (.inr h1)]
        exact Ev.step (f:=fun _=>some 6) (fun k=>by rw [table_Valid.l0,if_pos (by omega),if_pos (by omega),if_pos (by omega),if_neg h0,hs,if_pos h1]) (Ev.now _)
      · by_cases e:i=0
        · have ep:prv rs i=none:=by unfold prv;rw [if_pos e]
          rw [ep]
          simp only [chk]
          rw [if_neg (by omega)]
          refine Ev.step (fun k=>by rw [table_Valid.l0,if_pos (by omega),if_pos (by omega),if_pos (by omega),if_neg h0,hs,if_neg h1,if_neg (by omega),hw]) ih
        · have ep:prv rs i=some (rd rs ((i:Int) - 1)):=by unfold prv;rw [if_neg e]
          rw [ep]
          simp only [chk]
          rw [if_neg (by omega)]
          by_cases h2:rd rs i≤rd rs ((i:Int) - 1)
          · rw [if_pos h2]
            exact Ev.step (f:=fun _=>some 18) (fun k=>by rw [table_Valid.l0,if_pos (by omega),if_pos (by omega),if_pos (by omega),if_neg h0,hs,if_neg h1,if_pos (by omega),w64_in ((i:Int) - 1) (by omega),if_pos (by omega),if_pos (by omega),if_pos (by omega)]) (Ev.now _)
          · rw [if_neg h2]
            refine Ev.step (fun k=>by rw [table_Valid.l0,if_pos (by omega),if_pos (by omega),if_pos (by omega),if_neg h0,hs,if_neg h1,if_pos (by omega),w64_in ((i:Int) - 1) (by omega),if_pos (by omega),if_pos (by omega),if_neg (by omega),hw]) ih
theorem asc_len {vs:List Int} (h:asc vs=0):vs.length≤10:=by
  unfold asc at h
  by_cases h1:(vs.length:Int)>10
  · rw [if_pos h1] at h;omega
  · omega
theorem valid_ev (vs rs:List Int) (hl:(vs.length:Int)≤9223372036854775807) (hr:(rs.length:Int)≤9223372036854775807):Ev (fun k=>table_Valid.f k vs rs) (valid vs rs):=by
  unfold valid
  refine Ev.bind (asc_ev vs hl) ?_
  refine ev_ite (fun h=>?_) (fun _=>Ev.now _)
  simpa [prv] using valid_loop vs rs (asc_len h) hr rs.length 0 (by omega)
structure VT (vs rs:List Int):Prop where
  len:vs.length≤10
  vars:Chn 24 none vs
  rows:Chn ((2 ^ vs.length:Nat):Int) none rs
theorem asc_iff (vs:List Int):asc vs=0↔vs.length≤10∧Chn 24 none vs:=by
  unfold asc
  by_cases h1:(vs.length:Int)>10
  · rw [if_pos h1];exact ⟨fun h=>by omega,fun h=>by omega⟩
  · rw [if_neg h1,chk_Chn];exact ⟨fun h=>⟨by omega,h⟩,fun h=>h.2⟩
theorem valid_VT (vs rs:List Int):valid vs rs=0↔VT vs rs:=by
  unfold valid
  by_cases h:asc vs=0
  · rw [if_pos h,chk_Chn]
    have:=(asc_iff vs).1 h
    exact ⟨fun h=>⟨this.1,this.2,h⟩,fun h=>h.rows⟩
  · rw [if_neg h]
    exact ⟨fun h2=>absurd h2 h,fun h2=>absurd ((asc_iff vs).2 ⟨h2.len,h2.vars⟩) h⟩
theorem Chn.mem {hi:Int}:∀ {ns:List Int} {p:Option Int},Chn hi p ns→∀ n,n∈ns→0≤n∧n<hi∧∀ q,p=some q→q<n
  | [],_,_,n,h=>by simp at h
  | m :: ns,p,⟨h0,h1,h2,h3⟩,n,h=>by
    rcases List.mem_cons.1 h with rfl|h
    · exact ⟨h0,h1,h2⟩
    · have:=Chn.mem h3 n h
      exact ⟨this.1,this.2.1,fun q hq=>by have:=this.2.2 m rfl;have:=h2 q hq;omega⟩
theorem Chn.same {hi hi':Int}:∀ {xs ys:List Int} {p q:Option Int},Chn hi p xs→Chn hi' q ys→(∀ n,n∈xs↔n∈ys)→xs=ys
  | [],[],_,_,_,_,_=>rfl
  | [],y :: ys,_,_,_,_,h=>by have:=(h y).2 List.mem_cons_self;simp at this
  | x :: xs,[],_,_,_,_,h=>by have:=(h x).1 List.mem_cons_self;simp at this
  | x :: xs,y :: ys,p,q,⟨a0,a1,a2,a3⟩,⟨b0,b1,b2,b3⟩,h=>by
    have e:x=y:=by
      rcases List.mem_cons.1 ((h x).1 List.mem_cons_self) with h1|h1
      · exact h1
      · rcases List.mem_cons.1 ((h y).2 List.mem_cons_self) with h2|h2
        · exact h2.symm
        · have:=(b3.mem x h1).2.2 y rfl
          have:=(a3.mem y h2).2.2 x rfl
          omega
    subst e
    refine congrArg (x :: ·) (Chn.same a3 b3 (fun n=>⟨fun hn=>?_,fun hn=>?_⟩))
    · rcases List.mem_cons.1 ((h n).1 (List.mem_cons_of_mem _ hn)) with h1|h1
      · have:=(a3.mem n hn).2.2 x rfl;omega
      · exact h1
    · rcases List.mem_cons.1 ((h n).2 (List.mem_cons_of_mem _ hn)) with h1|h1
      · have:=(b3.mem n hn).2.2 x rfl;omega
      · exact h1
theorem bit_add (b:Bool) (out i:Nat) (h:out<2 ^ i) (j:Nat):(out+b.toNat * 2 ^ i).testBit j=(out.testBit j||(b&&decide (j=i))):=by
  rw [show out+b.toNat * 2 ^ i=2 ^ i * b.toNat+out by rw [Nat.mul_comm,Nat.add_comm],Nat.testBit_two_pow_mul_add _ h]
  by_cases hj:j<i
  · rw [if_pos hj]
    have:decide (j=i)=false:=decide_eq_false (by omega)
    rw [this,Bool.and_false,Bool.or_false]
  · rw [if_neg hj]
    have h1:out.testBit j=false:=Nat.testBit_lt_two_pow (Nat.lt_of_lt_of_le h (Nat.pow_le_pow_right (by decide) (by omega)))
    rw [h1,Bool.false_or]
    by_cases e:j=i
    · subst e;rw [Nat.sub_self];cases b <;> simp
    · have:decide (j=i)=false:=decide_eq_false e
      rw [this,Bool.and_false]
      refine Nat.testBit_lt_two_pow ?_
      have h2:b.toNat<2:=by cases b <;> simp
      have h3:2 ^ 1≤2 ^ (j - i):=Nat.pow_le_pow_right (by decide) (by omega)
      omega
theorem add_lt (b:Bool) (out i:Nat) (h:out<2 ^ i):out+b.toNat * 2 ^ i<2 ^ (i+1):=by
  rw [Nat.pow_succ]
  cases b
  · simp;omega
  · simp;omega
theorem or_bit (x n i:Nat) (out:Nat) (hx:x<2 ^ 60) (hn:n≤60) (hi:i≤60) (ho:out<2 ^ i) :
    Go.bits .or .i64 (out:Int) (shl .i64 (Go.bits .and .i64 (shr .i64 (x:Int) (n:Int)) 1) (i:Int))=((out+(x.testBit n).toNat * 2 ^ i:Nat):Int):=by
  have hw:∀ z:Int,0≤z→z<2 ^ 62→IntKind.i64.wrap z=z:=fun z h0 h1=>by
    rw [IntKind.wrap_i64]
    have:(2:Int) ^ 62=4611686018427387904:=by decide
    omega
  have hb:IntKind.i64.bits=64:=rfl
  have h1:shr .i64 (x:Int) (n:Int)=((x / 2 ^ n:Nat):Int):=by
    unfold shr
    rw [hb,show min ((n:Int)).toNat 64=n by omega]
    simp
  have hxd:x / 2 ^ n<2 ^ 62:=Nat.lt_of_le_of_lt (Nat.div_le_self _ _) (Nat.lt_of_lt_of_le hx (by decide))
  have h2:Go.bits .and .i64 ((x / 2 ^ n:Nat):Int) 1=(((x.testBit n).toNat:Nat):Int):=by
    have:=(bits_nat .i64 62 (by decide) hw (x / 2 ^ n) 1 hxd (by decide)).1
    rw [Nat.and_one_is_mod,← Nat.toNat_testBit] at this
    exact this
  have hip:(2:Nat) ^ i≤2 ^ 60:=Nat.pow_le_pow_right (by decide) hi
  have h60:(2:Nat) ^ 60=1152921504606846976:=by decide
  have hbl:(x.testBit n).toNat * 2 ^ i≤2 ^ i:=by cases x.testBit n <;> simp
  have h3:shl .i64 (((x.testBit n).toNat:Nat):Int) (i:Int)=(((x.testBit n).toNat * 2 ^ i:Nat):Int):=by
    unfold shl
    rw [hb,show min ((i:Int)).toNat 64=i by omega]
    have e:(((x.testBit n).toNat:Nat):Int) * 2 ^ i=(((x.testBit n).toNat * 2 ^ i:Nat):Int):=by simp
    rw [e]
    exact hw _ (by omega) (by have:(2:Int) ^ 62=4611686018427387904:=by decide
                              omega)
  rw [h1,h2,h3]
  have h62:(2:Nat) ^ 62=4611686018427387904:=by decide
  rw [(bits_nat .i64 62 (by decide) hw out _ (by omega) (by omega)).2]
  congr 1
  rw [Nat.or_comm,Nat.mul_comm,← Nat.two_pow_add_eq_or_of_lt ho,Nat.add_comm]
def rowF (a:Nat):List Int→Nat→Nat→Nat
  | [],_,out=>out
  | v :: vs,i,out=>rowF a vs (i+1) (out+(a.testBit v.toNat).toNat * 2 ^ i)
def asgF (r:Nat):List Int→Nat→Nat→Nat
  | [],_,out=>out
  | v :: vs,i,out=>asgF r vs (i+1) (out+(r.testBit i).toNat * 2 ^ v.toNat)
theorem rowF_lt (a:Nat):∀ (vs:List Int) (i out:Nat),out<2 ^ i→rowF a vs i out<2 ^ (i+vs.length)
  | [],_,_,h=>h
  | v :: vs,i,out,h=>by
    have:=rowF_lt a vs (i+1) _ (add_lt (a.testBit v.toNat) out i h)
    rw [rowF,List.length_cons,show i+(vs.length+1)=i+1+vs.length by omega]
    exact this
theorem rowF_bit (a:Nat):∀ (vs:List Int) (i out:Nat),out<2 ^ i→∀ j,((rowF a vs i out).testBit j=true↔out.testBit j=true∨∃ m v,vs[m]?=some v∧j=i+m∧a.testBit v.toNat=true)
  | [],_,_,_,j=>by simp [rowF]
  | v :: vs,i,out,h,j=>by
    rw [rowF,rowF_bit a vs (i+1) _ (add_lt (a.testBit v.toNat) out i h) j,bit_add _ _ _ h]
    constructor
    · rintro (h1|⟨m,u,h1,h2,h3⟩)
      · rcases Bool.or_eq_true_iff.1 h1 with h1|h1
        · exact .inl h1
        · rw [Bool.and_eq_true,decide_eq_true_eq] at h1
          exact .inr ⟨0,v,rfl,by omega,h1.1⟩
      · exact .inr ⟨m+1,u,by simpa using h1,by omega,h3⟩
    · rintro (h1|⟨m,u,h1,h2,h3⟩)
      · exact .inl (by rw [h1];rfl)
      · cases m with
        | zero=>
          obtain rfl:v=u:=by simpa using h1
          exact .inl (by rw [h3,decide_eq_true (show j=i by omega)];simp)
        | succ m=>exact .inr ⟨m,u,by simpa using h1,by omega,h3⟩
def Under (out:Nat):List Int→Prop
  | []=>True
  | v :: _=>out<2 ^ v.toNat
theorem under_next {hi:Int} {v:Int} {vs:List Int} (h:Chn hi (some v) vs) (h0:0≤v) {out:Nat} (ho:out<2 ^ (v.toNat+1)):Under out vs:=by
  cases vs with
  | nil=>trivial
  | cons u us=>
    have:=h.2.2.1 v rfl
    exact Nat.lt_of_lt_of_le ho (Nat.pow_le_pow_right (by decide) (by omega))
theorem asgF_bit (r:Nat) {hi:Int}:∀ (vs:List Int) (p:Option Int) (i out:Nat),Chn hi p vs→Under out vs→∀ j,((asgF r vs i out).testBit j=true↔out.testBit j=true∨∃ m v,vs[m]?=some v∧j=v.toNat∧r.testBit (i+m)=true)
  | [],_,_,_,_,_,j=>by simp [asgF]
  | v :: vs,p,i,out,⟨h0,h1,h2,h3⟩,hu,j=>by
    have hl:=add_lt (r.testBit i) out v.toNat hu
    rw [asgF,asgF_bit r vs (some v) (i+1) _ h3 (under_next h3 h0 hl) j,bit_add _ _ _ hu]
    constructor
    · rintro (h1|⟨m,u,h1,h2,h3⟩)
      · rcases Bool.or_eq_true_iff.1 h1 with h1|h1
        · exact .inl h1
        · rw [Bool.and_eq_true,decide_eq_true_eq] at h1
          exact .inr ⟨0,v,rfl,h1.2,h1.1⟩
      · exact .inr ⟨m+1,u,by simpa using h1,h2,by rw [show i+(m+1)=i+1+m by omega];exact h3⟩
    · rintro (h1|⟨m,u,h1,h2,h3⟩)
      · exact .inl (by rw [h1];rfl)
      · cases m with
        | zero=>
          obtain rfl:v=u:=by simpa using h1
          rw [Nat.add_zero] at h3
          exact .inl (by rw [h3,decide_eq_true h2];simp)
        | succ m=>exact .inr ⟨m,u,by simpa using h1,h2,by rw [show i+1+m=i+(m+1) by omega];exact h3⟩
theorem asgF_lt (r:Nat) {hi:Int} (hhi:0≤hi):∀ (vs:List Int) (p:Option Int) (i out:Nat),Chn hi p vs→Under out vs→out<2 ^ hi.toNat→asgF r vs i out<2 ^ hi.toNat
  | [],_,_,_,_,_,ho=>ho
  | v :: vs,p,i,out,⟨h0,h1,h2,h3⟩,hu,_=>by
    have hl:=add_lt (r.testBit i) out v.toNat hu
    rw [asgF]
    refine asgF_lt r hhi vs (some v) (i+1) _ h3 (under_next h3 h0 hl) (Nat.lt_of_lt_of_le hl (Nat.pow_le_pow_right (by decide) (by omega)))
def row (vs:List Int) (a:Nat):Nat:=rowF a vs 0 0
def asg (vs:List Int) (r:Nat):Nat:=asgF r vs 0 0
theorem row_lt (vs:List Int) (a:Nat):row vs a<2 ^ vs.length:=by
  have:=rowF_lt a vs 0 0 (by decide)
  rw [Nat.zero_add] at this
  exact this
theorem row_bit (vs:List Int) (a j:Nat):(row vs a).testBit j=true↔∃ v,vs[j]?=some v∧a.testBit v.toNat=true:=by
  unfold row
  rw [rowF_bit a vs 0 0 (by decide)]
  constructor
  · rintro (h|⟨m,v,h1,h2,h3⟩)
    · simp at h
    · obtain rfl:j=m:=by omega
      exact ⟨v,h1,h3⟩
  · rintro ⟨v,h1,h2⟩
    exact .inr ⟨j,v,h1,by omega,h2⟩
theorem under_zero (vs:List Int):Under 0 vs:=by cases vs <;> simp [Under,Nat.two_pow_pos]
theorem asg_bit {hi:Int} {vs:List Int} (h:Chn hi none vs) (r j:Nat):(asg vs r).testBit j=true↔∃ m v,vs[m]?=some v∧j=v.toNat∧r.testBit m=true:=by
  unfold asg
  rw [asgF_bit r vs none 0 0 h (under_zero vs)]
  simp
theorem asg_lt {vs:List Int} (h:Chn 24 none vs) (r:Nat):asg vs r<2 ^ 24:=asgF_lt r (by decide) vs none 0 0 h (under_zero vs) (Nat.two_pow_pos _)
theorem Chn.inj {hi:Int}:∀ {vs:List Int} {p:Option Int},Chn hi p vs→∀ (i j:Nat) (u v:Int),vs[i]?=some u→vs[j]?=some v→u.toNat=v.toNat→i=j
  | [],_,_,i,j,u,v,h,_,_=>by simp at h
  | x :: xs,p,⟨h0,h1,h2,h3⟩,i,j,u,v,hi,hj,e=>by
    cases i with
    | zero=>
      obtain rfl:x=u:=by simpa using hi
      cases j with
      | zero=>rfl
      | succ j=>
        have hj':xs[j]?=some v:=by simpa using hj
        have:=h3.mem v (List.mem_of_getElem? hj')
        have:=this.2.2 x rfl
        omega
    | succ i=>
      have hi':xs[i]?=some u:=by simpa using hi
      cases j with
      | zero=>
        obtain rfl:x=v:=by simpa using hj
        have:=h3.mem u (List.mem_of_getElem? hi')
        have:=this.2.2 x rfl
        omega
      | succ j=>rw [Chn.inj h3 i j u v hi' (by simpa using hj) e]
theorem row_asg {hi:Int} {vs:List Int} (h:Chn hi none vs) {r:Nat} (hr:r<2 ^ vs.length):row vs (asg vs r)=r:=by
  apply Nat.eq_of_testBit_eq
  intro j
  rw [Bool.eq_iff_iff,row_bit]
  constructor
  · rintro ⟨v,hv,hb⟩
    obtain ⟨m,u,hm,e,hr⟩:=(asg_bit h r _).1 hb
    rw [h.inj j m v u hv hm e];exact hr
  · intro hb
    have hj:j<vs.length:=by
      rcases Nat.lt_or_ge j vs.length with h1|h1
      · exact h1
      · rw [Nat.testBit_lt_two_pow (Nat.lt_of_lt_of_le hr (Nat.pow_le_pow_right (by decide) h1))] at hb;exact absurd hb (by simp)
    exact ⟨vs[j],List.getElem?_eq_getElem hj,(asg_bit h r _).2 ⟨j,vs[j],List.getElem?_eq_getElem hj,rfl,hb⟩⟩

theorem nat_of {v:Int} (h:0≤v):v=((v.toNat:Nat):Int):=by omega
theorem Chn.below {hi:Int}:∀ {xs:List Int} {p:Option Int},Chn hi p xs→∀ (i j:Nat) (x y:Int),i<j→xs[i]?=some x→xs[j]?=some y→x<y
  | [],_,_,i,j,x,y,_,h,_=>by simp at h
  | z :: zs,p,⟨_,_,_,h3⟩,i,j,x,y,hij,hx,hy=>by
    cases j with
    | zero=>omega
    | succ j=>
      have hy':zs[j]?=some y:=by simpa using hy
      cases i with
      | zero=>
        obtain rfl:z=x:=by simpa using hx
        exact (h3.mem y (List.mem_of_getElem? hy')).2.2 z rfl
      | succ i=>exact Chn.below h3 i j x y (by omega) (by simpa using hx) hy'
def hs (vs rs:List Int) (a:Nat):Bool:=decide (((row vs a:Nat):Int)∈rs)
theorem VT.vars' {vs rs:List Int} (h:VT vs rs):∀ v,v∈vs→0≤v∧v<24:=fun v hv=>by have:=h.vars.mem v hv;omega
theorem Chn.len1 {hi:Int}:∀ {xs:List Int} {q:Int},Chn hi (some q) xs→0≤q→q<hi→(xs.length:Int)≤hi - 1 - q
  | [],_,_,_,_=>by simp;omega
  | x :: xs,q,⟨h0,h1,h2,h3⟩,_,_=>by
    have:=Chn.len1 h3 h0 h1
    have:=h2 q rfl
    simp only [List.length_cons]
    omega
theorem Chn.len {hi:Int} {xs:List Int} (h:Chn hi none xs) (h0:0≤hi):(xs.length:Int)≤hi:=by
  cases xs with
  | nil=>simpa using h0
  | cons x xs=>
    have:=Chn.len1 h.2.2.2 h.1 h.2.1
    have:=h.1
    simp only [List.length_cons]
    omega
theorem pow10 {n:Nat} (h:n≤10):2 ^ n≤1024:=by
  have:(2:Nat) ^ n≤2 ^ 10:=Nat.pow_le_pow_right (by decide) h
  omega
theorem VT.rows_len {vs rs:List Int} (h:VT vs rs):(rs.length:Int)≤1024:=by
  have h1:=h.rows.len (Int.natCast_nonneg _)
  have h2:=pow10 h.len
  generalize (2:Nat) ^ vs.length=z at h1 h2
  omega
theorem chn_snoc {hi:Int} {x:Int} (h0:0≤x) (h1:x<hi):∀ {l:List Int} {p:Option Int},Chn hi p l→(∀ y,y∈l→y<x)→(∀ q,p=some q→q<x)→Chn hi p (l++[x])
  | [],_,_,_,hp=>⟨h0,h1,hp,trivial⟩
  | y :: l,p,⟨a0,a1,a2,a3⟩,hl,hp=>⟨a0,a1,a2,chn_snoc h0 h1 a3 (fun z hz=>hl z (List.mem_cons_of_mem _ hz)) (fun q hq=>by injection hq with hq;rw [← hq];exact hl y List.mem_cons_self)⟩
theorem compact_spec {hi:Int} (d:Array Int) (hd:∀ i j,i≤j→j<d.size→d[i]!≤d[j]!) (hr:∀ i,i<d.size→0≤d[i]!∧d[i]!<hi):∀ m,m≤d.size→Chn hi none (Lib.compactUpTo d m)∧∀ n,n∈Lib.compactUpTo d m↔∃ j,j<m∧d[j]! = n
  | 0,_=>⟨by simp [Lib.compactUpTo,Chn],fun n=>by simp [Lib.compactUpTo]⟩
  | m+1,hm=>by
    obtain ⟨h1,h2⟩:=compact_spec d hd hr m (by omega)
    have hrm:=hr m (by omega)
    rw [Lib.compactUpTo_succ]
    by_cases hk:Lib.keeps d m=true
    · rw [if_pos hk]
      have hk2:m=0∨d[m]!≠d[m - 1]!:=by simpa [Lib.keeps] using hk
      refine ⟨chn_snoc hrm.1 hrm.2 h1 (fun y hy=>?_) (fun q hq=>by cases hq),fun n=>?_⟩
      · obtain ⟨j,hj,rfl⟩:=(h2 y).1 hy
        have a1:=hd j (m - 1) (by omega) (by omega)
        have a2:=hd (m - 1) m (by omega) (by omega)
        rcases hk2 with h|h
        · omega
        · omega
      · rw [List.mem_append,h2]
        constructor
        · rintro (⟨j,hj,e⟩|h)
          · exact ⟨j,by omega,e⟩
          · exact ⟨m,by omega,by simpa using Eq.symm (List.mem_singleton.1 h)⟩
        · rintro ⟨j,hj,e⟩
          by_cases ej:j=m
          · subst ej;exact .inr (by simp [e])
          · exact .inl ⟨j,by omega,e⟩
    · rw [if_neg hk,List.append_nil]
      have hk2:¬ (m=0∨d[m]!≠d[m - 1]!):=by simpa [Lib.keeps] using hk
      refine ⟨h1,fun n=>?_⟩
      rw [h2]
      constructor
      · rintro ⟨j,hj,e⟩;exact ⟨j,by omega,e⟩
      · rintro ⟨j,hj,e⟩
        by_cases ej:j=m
        · subst ej
          exact ⟨j - 1,by omega,by rw [← e];exact (Classical.byContradiction fun hne=>hk2 (.inr (fun h=>hne h.symm)))⟩
        · exact ⟨j,by omega,e⟩
theorem sorted_compact {hi:Int} (l:List Int) (hr:∀ x,x∈l→0≤x∧x<hi):Chn hi none (Lib.compact (l.mergeSort fun x y=>decide (x≤y)))∧∀ n,n∈Lib.compact (l.mergeSort fun x y=>decide (x≤y))↔n∈l:=by
  have hp:=List.pairwise_mergeSort (le:=fun x y:Int=>decide (x≤y)) (fun a b c h1 h2=>by simp at *;omega) (fun a b=>by simp;omega) l
  have hperm:=List.mergeSort_perm l (fun x y:Int=>decide (x≤y))
  generalize hs:l.mergeSort (fun x y=>decide (x≤y))=s at hp hperm
  have hget:∀ i,i<s.length→s.toArray[i]! = s[i]!:=fun i hi=>by simp
  have key:=compact_spec (hi:=hi) s.toArray (fun i j hij hj=>by
    have hj':j<s.length:=by simpa using hj
    rw [hget i (by omega),hget j hj',List.getElem!_eq_getElem?_getD,List.getElem!_eq_getElem?_getD,List.getElem?_eq_getElem hj',List.getElem?_eq_getElem (show i<s.length by omega)]
    by_cases e:i=j
    · subst e;exact Int.le_refl _
    · have:=List.pairwise_iff_getElem.1 hp i j (by omega) hj' (by omega)
      simpa using this) (fun i hi2=>by
    have hi':i<s.length:=by simpa using hi2
    rw [hget i hi',List.getElem!_eq_getElem?_getD,List.getElem?_eq_getElem hi']
    exact hr _ (hperm.mem_iff.1 (List.getElem_mem hi'))) s.length (by simp)
  refine ⟨key.1,fun n=>?_⟩
  have h2:=key.2 n
  unfold Lib.compact
  rw [h2,← hperm.mem_iff]
  constructor
  · rintro ⟨j,hj,e⟩
    rw [hget j hj,List.getElem!_eq_getElem?_getD,List.getElem?_eq_getElem hj] at e
    exact e ▸ List.getElem_mem hj
  · intro hn
    obtain ⟨j,hj,e⟩:=List.getElem_of_mem hn
    exact ⟨j,hj,by rw [hget j hj,List.getElem!_eq_getElem?_getD,List.getElem?_eq_getElem hj];exact e⟩
theorem VT.row_of {vs rs:List Int} (h:VT vs rs) {r:Int} (hr:r∈rs):0≤r∧r.toNat<2 ^ vs.length∧row vs (asg vs r.toNat)=r.toNat:=by
  have h1:=h.rows.mem r hr
  have h2:r.toNat<2 ^ vs.length:=by
    have:=h1.2.1
    generalize 2 ^ vs.length=z at *
    omega
  exact ⟨h1.1,h2,row_asg h.vars h2⟩
theorem rasc_loop (vs:List Int) (hl:(vs.length:Int)≤9223372036854775807):∀ (d i:Nat),i+d=vs.length→Ev (fun k=>ancepsref38_Variables.l0 k vs i) (chk 24 (prv vs i) (vs.drop i))
  | 0,i,h=>by
    rw [List.drop_eq_nil_of_le (by omega)]
    refine Ev.step (f:=fun _=>some 0) (fun k=>by rw [ancepsref38_Variables.l0,if_neg (by omega)]) ?_
    cases prv vs i <;> exact Ev.now _
  | d+1,i,h=>by
    have hi:i<vs.length:=by omega
    have hw:=wrap_succ i vs.length hi hl
    have ih:=rasc_loop vs hl d (i+1) (by omega)
    rw [prv_succ] at ih
    rw [rd_at vs i hi]
    have hj:rd vs i<0∨24≤rd vs i→∀ p,chk 24 p (rd vs i :: vs.drop (i+1))=6:=fun h p=>by cases p <;> simp only [chk] <;> rw [if_pos h]
    by_cases h0:rd vs i<0
    · rw [hj (.inl h0)]
      exact Ev.step (f:=fun _=>some 6) (fun k=>by rw [ancepsref38_Variables.l0,if_pos (by omega),if_pos (by omega),if_pos h0]) (Ev.now _)
    · by_cases h1:rd vs i>23
      · rw [hj (.inr (by omega))]
        exact Ev.step (f:=fun _=>some 6) (fun k=>by rw [ancepsref38_Variables.l0,if_pos (by omega),if_pos (by omega),if_neg h0,if_pos h1]) (Ev.now _)
      · by_cases e:i=0
        · have ep:prv vs i=none:=by unfold prv;rw [if_pos e]
          rw [ep]
          simp only [chk]
          rw [if_neg (by omega)]
          refine Ev.step (fun k=>by rw [ancepsref38_Variables.l0,if_pos (by omega),if_pos (by omega),if_neg h0,if_neg h1,if_neg (by omega),hw]) ih
        · have ep:prv vs i=some (rd vs ((i:Int) - 1)):=by unfold prv;rw [if_neg e]
          rw [ep]
          simp only [chk]
          rw [if_neg (by omega)]
          by_cases h2:rd vs i≤rd vs ((i:Int) - 1)
          · rw [if_pos h2]
            exact Ev.step (f:=fun _=>some 18) (fun k=>by rw [ancepsref38_Variables.l0,if_pos (by omega),if_pos (by omega),if_neg h0,if_neg h1,if_pos (by omega),w64_in ((i:Int) - 1) (by omega),if_pos (by omega),if_pos (by omega),if_pos h2]) (Ev.now _)
          · rw [if_neg h2]
            refine Ev.step (fun k=>by rw [ancepsref38_Variables.l0,if_pos (by omega),if_pos (by omega),if_neg h0,if_neg h1,if_pos (by omega),w64_in ((i:Int) - 1) (by omega),if_pos (by omega),if_pos (by omega),if_neg h2,hw]) ih
theorem rasc_ev (vs:List Int) (hl:(vs.length:Int)≤9223372036854775807):Ev (fun k=>ancepsref38_Variables.f k vs) (asc vs):=by
  unfold asc ancepsref38_Variables.f
  refine ev_ite (fun _=>Ev.now _) (fun _=>?_)
  simpa [prv] using rasc_loop vs hl vs.length 0 (by omega)
theorem rvalid_loop (vs rs:List Int) (hv:vs.length≤10) (hl:(rs.length:Int)≤9223372036854775807):∀ (d i:Nat),i+d=rs.length→Ev (fun k=>ancepsref38_Valid.l0 k i vs rs) (chk ((2 ^ vs.length:Nat):Int) (prv rs i) (rs.drop i))
  | 0,i,h=>by
    rw [List.drop_eq_nil_of_le (by omega)]
    refine Ev.step (f:=fun _=>some 0) (fun k=>by rw [ancepsref38_Valid.l0,if_neg (by omega)]) ?_
    cases prv rs i <;> exact Ev.now _
  | d+1,i,h=>by
    have hi:i<rs.length:=by omega
    have hw:=wrap_succ i rs.length hi hl
    have ih:=rvalid_loop vs rs hv hl d (i+1) (by omega)
    have hs:=shl1 vs.length (by omega)
    rw [prv_succ] at ih
    rw [rd_at rs i hi]
    have hj:rd rs i<0∨((2 ^ vs.length:Nat):Int)≤rd rs i→∀ p,chk ((2 ^ vs.length:Nat):Int) p (rd rs i :: rs.drop (i+1))=6:=fun h p=>by cases p <;> simp only [chk] <;> rw [if_pos h]
    by_cases h0:rd rs i<0
    · rw [hj (.inl h0)]
      exact Ev.step (f:=fun _=>some 6) (fun k=>by rw [ancepsref38_Valid.l0,if_pos (by omega),if_pos (by omega),if_pos h0]) (Ev.now _)
    · by_cases h1:rd rs i≥((2 ^ vs.length:Nat):Int)
      · rw [hj (.inr h1)]
        exact Ev.step (f:=fun _=>some 6) (fun k=>by rw [ancepsref38_Valid.l0,if_pos (by omega),if_pos (by omega),if_neg h0,hs,if_pos h1]) (Ev.now _)
      · by_cases e:i=0
        · have ep:prv rs i=none:=by unfold prv;rw [if_pos e]
          rw [ep]
          simp only [chk]
          rw [if_neg (by omega)]
          refine Ev.step (fun k=>by rw [ancepsref38_Valid.l0,if_pos (by omega),if_pos (by omega),if_neg h0,hs,if_neg h1,if_neg (by omega),hw]) ih
        · have ep:prv rs i=some (rd rs ((i:Int) - 1)):=by unfold prv;rw [if_neg e]
          rw [ep]
          simp only [chk]
          rw [if_neg (by omega)]
          by_cases h2:rd rs i≤rd rs ((i:Int) - 1)
          · rw [if_pos h2]
            exact Ev.step (f:=fun _=>some 18) (fun k=>by rw [ancepsref38_Valid.l0,if_pos (by omega),if_pos (by omega),if_neg h0,hs,if_neg h1,if_pos (by omega),w64_in ((i:Int) - 1) (by omega),if_pos (by omega),if_pos (by omega),if_pos h2]) (Ev.now _)
          · rw [if_neg h2]
            refine Ev.step (fun k=>by rw [ancepsref38_Valid.l0,if_pos (by omega),if_pos (by omega),if_neg h0,hs,if_neg h1,if_pos (by omega),w64_in ((i:Int) - 1) (by omega),if_pos (by omega),if_pos (by omega),if_neg h2,hw]) ih
theorem rvalid_ev (vs rs:List Int) (hl:(vs.length:Int)≤9223372036854775807) (hr:(rs.length:Int)≤9223372036854775807):Ev (fun k=>ancepsref38_Valid.f k vs rs) (valid vs rs):=by
  unfold valid
  refine Ev.bind (rasc_ev vs hl) ?_
  refine ev_ite (fun h=>?_) (fun _=>Ev.now _)
  simpa [prv] using rvalid_loop vs rs (asc_len h) hr rs.length 0 (by omega)
theorem plus_bit (x n i out:Nat) (hn:n≤60) (hi:i≤30) (ho:out<2 ^ i):wrap64 ((out:Int)+shl .i64 (Int.tmod (shr .i64 (x:Int) (n:Int)) 2) (i:Int))=((out+(x.testBit n).toNat * 2 ^ i:Nat):Int):=by
  have hb:IntKind.i64.bits=64:=rfl
  have h1:shr .i64 (x:Int) (n:Int)=((x / 2 ^ n:Nat):Int):=by
    unfold shr
    rw [hb,show min ((n:Int)).toNat 64=n by omega]
    simp
  have h2:Int.tmod ((x / 2 ^ n:Nat):Int) 2=(((x.testBit n).toNat:Nat):Int):=by
    rw [Nat.toNat_testBit,Int.tmod_eq_emod_of_nonneg (Int.natCast_nonneg _)]
    simp
  have hip:(2:Nat) ^ i≤2 ^ 30:=Nat.pow_le_pow_right (by decide) hi
  have h30:(2:Nat) ^ 30=1073741824:=by decide
  have hbl:(x.testBit n).toNat * 2 ^ i≤2 ^ i:=by cases x.testBit n <;> simp
  have h3:shl .i64 (((x.testBit n).toNat:Nat):Int) (i:Int)=(((x.testBit n).toNat * 2 ^ i:Nat):Int):=by
    unfold shl
    rw [hb,show min ((i:Int)).toNat 64=i by omega]
    have e:(((x.testBit n).toNat:Nat):Int) * 2 ^ i=(((x.testBit n).toNat * 2 ^ i:Nat):Int):=by simp
    rw [e,IntKind.wrap_i64]
    omega
  rw [h1,h2,h3,w64_in _ (by omega)]
  omega
theorem rasg_loop {vs:List Int} (r:Nat) (hl:vs.length≤24):∀ (d i out:Nat) (p:Option Int),i+d=vs.length→Chn 24 p (vs.drop i)→Under out (vs.drop i)→
    Ev (fun k=>ancepsref38_Assignment.l0 k vs (r:Int) (out:Int) i) ((asgF r (vs.drop i) i out:Nat):Int)
  | 0,i,out,p,h,hc,ho=>by
    rw [List.drop_eq_nil_of_le (by omega)]
    exact Ev.step (f:=fun _=>some (out:Int)) (fun k=>by rw [ancepsref38_Assignment.l0,if_neg (by omega)]) (Ev.now _)
  | d+1,i,out,p,h,hc,ho=>by
    have hi:i<vs.length:=by omega
    have hw:=wrap_succ i vs.length hi (by omega)
    rw [rd_at vs i hi] at hc ho ⊢
    have hx:=add_lt (r.testBit i) out (rd vs i).toNat ho
    have ih:=rasg_loop r hl d (i+1) _ (some (rd vs i)) (by omega) hc.2.2.2 (under_next hc.2.2.2 hc.1 hx)
    rw [asgF]
    refine Ev.step (fun k=>?_) ih
    have h0:=hc.1
    have h1:=hc.2.1
    rw [ancepsref38_Assignment.l0,if_pos (by omega),if_pos (by omega),if_pos (by omega),hw]
    have hb:=plus_bit r i (rd vs i).toNat out (by omega) (by omega) ho
    rw [← nat_of h0] at hb
    rw [hb]
theorem rasg_ev {vs:List Int} (hc:Chn 24 none vs) (hl:vs.length≤24) (r:Nat):Ev (fun k=>ancepsref38_Assignment.f k vs (r:Int)) ((asg vs r:Nat):Int):=by
  have:=rasg_loop r hl vs.length 0 0 none (by omega) hc (under_zero _)
  exact this
theorem few_some (vs rs:List Int):∃ b,ancepsref38_Few.f vs rs=some b∧(b=true→vs.length≤12∧rs.length≤1030):=by
  unfold ancepsref38_Few.f
  by_cases h1:(vs.length:Int)≤12
  · rw [if_pos h1];exact ⟨_,rfl,fun h=>by have:=of_decide_eq_true h;omega⟩
  · rw [if_neg h1];exact ⟨_,rfl,fun h=>by simp at h⟩
theorem rdb_set (o:List Bool) (m n:Nat) (v:Bool) (hl:m<o.length):rdOf false (o.set m v) (n:Int)=if m=n then v else rdOf false o (n:Int):=by
  unfold rdOf
  rw [Int.toNat_natCast]
  by_cases h:m=n
  · subst h;rw [if_pos rfl,List.getD,List.getElem?_set_self hl];rfl
  · rw [if_neg h];simp [List.getD,List.getElem?_set_ne h]
theorem srow_loop (vs rs:List Int) (hv:∀ v,v∈vs→0≤v∧v<24) (hl:vs.length≤24) (a:Nat) (ha:a<2 ^ 60):∀ (d i out:Nat),i+d=vs.length→out<2 ^ i→
    Ev (fun k=>solve_row.l0 k (a:Int) (out:Int) vs vs.length i) ((rowF a (vs.drop i) i out:Nat):Int)
  | 0,i,out,h,ho=>by
    rw [List.drop_eq_nil_of_le (by omega)]
    exact Ev.step (f:=fun _=>some (out:Int)) (fun k=>by rw [solve_row.l0,if_neg (by omega)]) (Ev.now _)
  | d+1,i,out,h,ho=>by
    have hi:i<vs.length:=by omega
    have hw:=wrap_succ i vs.length hi (by omega)
    have hm:=hv _ (rd_mem vs i hi)
    have ih:=srow_loop vs rs hv hl a ha d (i+1) _ (by omega) (add_lt (a.testBit (rd vs i).toNat) out i ho)
    rw [rd_at vs i hi,rowF]
    refine Ev.step (fun k=>?_) ih
    rw [solve_row.l0,if_pos (by omega),if_pos (by omega),if_pos (by omega),if_pos (by omega),hw]
    have hb:=or_bit a (rd vs i).toNat i out ha (by omega) (by omega) ho
    rw [← nat_of hm.1] at hb
    rw [hb]
theorem srow_ev (vs rs:List Int) (hv:∀ v,v∈vs→0≤v∧v<24) (hl:vs.length≤24) (a:Nat) (ha:a<2 ^ 60):Ev (fun k=>solve_row.f k vs rs (a:Int)) ((row vs a:Nat):Int):=by
  have:=srow_loop vs rs hv hl a ha vs.length 0 0 (by omega) (by decide)
  exact this
theorem rdT_at (l:List S35) (i:Nat) (hi:i<l.length):l.drop i=rd_T35 l i :: l.drop (i+1):=getD_drop l i z35 hi
theorem rdT_mem (l:List S35) (i:Nat) (hi:i<l.length):rd_T35 l i∈l:=by
  unfold rd_T35
  simp only [Int.toNat_natCast,List.getD,List.getElem?_eq_getElem hi,Option.getD_some]
  exact List.getElem_mem hi
def fstErr:List S35→Int
  | []=>0
  | t :: ts=>if valid t.f0 t.f1=0 then fstErr ts else valid t.f0 t.f1
def sysv (l:List S35):Int:=if (l.length:Int)>16 then 3 else fstErr l
def Sm (l:List S35):Prop:=∀ t,t∈l→t.f0.length≤1030∧t.f1.length≤1030
structure VS (l:List S35):Prop where
  len:l.length≤16
  tab:∀ t,t∈l→VT t.f0 t.f1
theorem fstErr_VT:∀ l:List S35,fstErr l=0↔∀ t,t∈l→VT t.f0 t.f1
  | []=>by simp [fstErr]
  | t :: ts=>by
    have ih:=fstErr_VT ts
    unfold fstErr
    by_cases h:valid t.f0 t.f1=0
    · rw [if_pos h,ih]
      exact ⟨fun h2 x hx=>by rcases List.mem_cons.1 hx with rfl|hx;exact (valid_VT _ _).1 h;exact h2 x hx,fun h2 x hx=>h2 x (List.mem_cons_of_mem _ hx)⟩
    · rw [if_neg h]
      exact ⟨fun h2=>absurd h2 h,fun h2=>absurd ((valid_VT _ _).2 (h2 t List.mem_cons_self)) h⟩
theorem sysv_VS (l:List S35):sysv l=0↔VS l:=by
  unfold sysv
  by_cases h:(l.length:Int)>16
  · rw [if_pos h];exact ⟨fun h2=>by omega,fun h2=>by have:=h2.len;omega⟩
  · rw [if_neg h,fstErr_VT];exact ⟨fun h2=>⟨by omega,h2⟩,fun h2=>h2.tab⟩
theorem svalid_loop (l:List S35) (hs:Sm l) (hl:l.length≤1000):∀ (d i:Nat),i+d=l.length→Ev (fun k=>solve_valid.l0 k l l.length i) (fstErr (l.drop i))
  | 0,i,h=>by
    rw [List.drop_eq_nil_of_le (by omega)]
    exact Ev.step (f:=fun _=>some 0) (fun k=>by rw [solve_valid.l0,if_neg (by omega)]) (Ev.now _)
  | d+1,i,h=>by
    have hi:i<l.length:=by omega
    have hw:=wrap_succ i l.length hi (by omega)
    have hm:=hs _ (rdT_mem l i hi)
    rw [rdT_at l i hi,fstErr]
    refine Ev.step (fun k=>by rw [solve_valid.l0,if_pos (by omega),if_pos (by omega),if_pos (by omega),hw]) (Ev.bind (valid_ev _ _ (by omega) (by omega)) ?_)
    exact ev_ite (fun _=>svalid_loop l hs hl d (i+1) (by omega)) (fun _=>Ev.now _)
theorem svalid_ev (l:List S35) (hs:Sm l) (hl:l.length≤1000):Ev (fun k=>solve_valid.f k l) (sysv l):=by
  unfold sysv solve_valid.f
  exact ev_ite (fun _=>Ev.now _) (fun _=>by simpa using svalid_loop l hs hl l.length 0 (by omega))
theorem rsvalid_loop (l:List S35) (hs:Sm l) (hl:l.length≤1000):∀ (d i:Nat),i+d=l.length→Ev (fun k=>ancepsref40_Valid.l0 k l i) (fstErr (l.drop i))
  | 0,i,h=>by
    rw [List.drop_eq_nil_of_le (by omega)]
    exact Ev.step (f:=fun _=>some 0) (fun k=>by rw [ancepsref40_Valid.l0,if_neg (by omega)]) (Ev.now _)
  | d+1,i,h=>by
    have hi:i<l.length:=by omega
    have hw:=wrap_succ i l.length hi (by omega)
    have hm:=hs _ (rdT_mem l i hi)
    rw [rdT_at l i hi,fstErr]
    refine Ev.step (fun k=>by rw [ancepsref40_Valid.l0,if_pos (by omega),if_pos (by omega),hw]) (Ev.bind (rvalid_ev _ _ (by omega) (by omega)) ?_)
    exact ev_ite (fun _=>rsvalid_loop l hs hl d (i+1) (by omega)) (fun _=>Ev.now _)
theorem rsvalid_ev (l:List S35) (hs:Sm l) (hl:l.length≤1000):Ev (fun k=>ancepsref40_Valid.f k l) (sysv l):=by
  unfold sysv ancepsref40_Valid.f
  exact ev_ite (fun _=>Ev.now _) (fun _=>by simpa using rsvalid_loop l hs hl l.length 0 (by omega))
theorem few_in (l:List S35) (Q:Prop) (rows:Int) (i:Nat) (hi:i<l.length) (hl:l.length≤18) (hv:(rd_T35 l i).f0.length≤1030)
    (H:∀ (seen:List Bool) (n:Int),seen.length=24→∃ b,Ev (fun k=>ancepsref40_Few.l0 k l seen n rows ((i+1:Nat):Int)) b∧(b=true→Q)) :
    ∀ (d j:Nat) (seen:List Bool) (n:Int),j+d=(rd_T35 l i).f0.length→seen.length=24→∃ b,Ev (fun k=>ancepsref40_Few.l1 k l seen n rows i j) b∧(b=true→Q)
  | 0,j,seen,n,h,hs=>by
    obtain ⟨b,hb,hq⟩:=H seen n hs
    have hw:=wrap_succ i l.length hi (by omega)
    exact ⟨b,Ev.step (fun k=>by rw [ancepsref40_Few.l1,if_pos (by omega),if_pos (by omega),if_neg (by omega),hw]) hb,hq⟩
  | d+1,j,seen,n,h,hs=>by
    have hj:j<(rd_T35 l i).f0.length:=by omega
    have hw:=wrap_succ j _ hj (by omega)
    by_cases h0:rd (rd_T35 l i).f0 j≥0
    · by_cases h1:rd (rd_T35 l i).f0 j<24
      · by_cases hb:rdOf false seen (rd (rd_T35 l i).f0 j)=true
        · obtain ⟨b,e,hq⟩:=few_in l Q rows i hi hl hv H d (j+1) seen n (by omega) hs
          exact ⟨b,Ev.step (fun k=>by rw [ancepsref40_Few.l1,if_pos (by omega),if_pos (by omega),if_pos (by omega),if_pos (by omega),if_pos h0,if_pos h1,if_pos (by omega),if_pos (by omega),if_pos hb,hw]) e,hq⟩
        · obtain ⟨b,e,hq⟩:=few_in l Q rows i hi hl hv H d (j+1) (seen.set (rd (rd_T35 l i).f0 j).toNat true) (wrap64 (n+1)) (by omega) (by rw [List.length_set];exact hs)
          exact ⟨b,Ev.step (fun k=>by rw [ancepsref40_Few.l1,if_pos (by omega),if_pos (by omega),if_pos (by omega),if_pos (by omega),if_pos h0,if_pos h1,if_pos (by omega),if_pos (by omega),if_neg hb,hw]) e,hq⟩
      · obtain ⟨b,e,hq⟩:=few_in l Q rows i hi hl hv H d (j+1) seen n (by omega) hs
        exact ⟨b,Ev.step (fun k=>by rw [ancepsref40_Few.l1,if_pos (by omega),if_pos (by omega),if_pos (by omega),if_pos (by omega),if_pos h0,if_neg h1,hw]) e,hq⟩
    · obtain ⟨b,e,hq⟩:=few_in l Q rows i hi hl hv H d (j+1) seen n (by omega) hs
      exact ⟨b,Ev.step (fun k=>by rw [ancepsref40_Few.l1,if_pos (by omega),if_pos (by omega),if_pos (by omega),if_pos (by omega),if_neg h0,hw]) e,hq⟩
theorem few_out (l:List S35) (hl:l.length≤18):∀ (d i:Nat) (seen:List Bool) (n rows:Int),i+d=l.length→seen.length=24→∃ b,Ev (fun k=>ancepsref40_Few.l0 k l seen n rows i) b∧(b=true→Sm (l.drop i))
  | 0,i,seen,n,rows,h,hs=>by
    rw [List.drop_eq_nil_of_le (by omega)]
    have hq:Sm []:=fun t ht=>by simp at ht
    by_cases hn:n≤10
    · exact ⟨_,Ev.step (f:=fun _=>some (decide (rows≤2000))) (fun k=>by rw [ancepsref40_Few.l0,if_neg (by omega),if_pos hn]) (Ev.now _),fun _=>hq⟩
    · exact ⟨false,Ev.step (f:=fun _=>some false) (fun k=>by rw [ancepsref40_Few.l0,if_neg (by omega),if_neg hn]) (Ev.now _),fun h=>by cases h⟩
  | d+1,i,seen,n,rows,h,hs=>by
    have hi:i<l.length:=by omega
    obtain ⟨b,hb,hf⟩:=few_some (rd_T35 l i).f0 (rd_T35 l i).f1
    cases b with
    | false=>exact ⟨false,Ev.step (f:=fun _=>some false) (fun k=>by rw [ancepsref40_Few.l0,if_pos (by omega),if_pos (by omega),hb];rfl) (Ev.now _),fun h=>by cases h⟩
    | true=>
      obtain ⟨f1,f2⟩:=hf rfl
      obtain ⟨b,e,hq⟩:=few_in l (Sm (l.drop (i+1))) (wrap64 (rows+((rd_T35 l i).f1.length:Int))) i hi hl (by omega)
        (fun seen n hs=>few_out l hl d (i+1) seen n _ (by omega) hs) (rd_T35 l i).f0.length 0 seen n (by omega) hs
      refine ⟨b,Ev.step (fun k=>by rw [ancepsref40_Few.l0,if_pos (by omega),if_pos (by omega),hb];rfl) e,fun h=>?_⟩
      rw [rdT_at l i hi]
      intro t ht
      rcases List.mem_cons.1 ht with rfl|ht
      · omega
      · exact hq h t ht
theorem sfew_ev (l:List S35):∃ b,Ev (fun k=>ancepsref40_Few.f k l) b∧(b=true→Sm l∧l.length≤18):=by
  unfold ancepsref40_Few.f
  by_cases h:(l.length:Int)>18
  · exact ⟨false,ev_pos h (Ev.now _),fun h=>by cases h⟩
  · obtain ⟨b,e,hq⟩:=few_out l (by omega) l.length 0 (List.replicate 24 false) 0 0 (by omega) (by simp)
    exact ⟨b,ev_neg h (ev_pos (by decide) (by simpa using e)),fun h2=>⟨by simpa using hq h2,by omega⟩⟩
def flat (l:List S35):List Int:=l.flatMap (·.f0)
def occ (l:List S35):List Int:=Lib.compact ((flat l).mergeSort fun x y=>decide (x≤y))
theorem VS.flat {l:List S35} (h:VS l):∀ v,v∈flat l→0≤v∧v<24:=fun v hv=>by
  obtain ⟨t,ht,hv⟩:=List.mem_flatMap.1 hv
  exact (h.tab t ht).vars' v hv
theorem VS.occ {l:List S35} (h:VS l):Chn 24 none (occ l)∧∀ v,v∈occ l↔v∈Pure.flat l:=sorted_compact (Pure.flat l) h.flat
theorem flat_cons (t:S35) (l:List S35):flat (t :: l)=t.f0++flat l:=by simp [flat]
theorem occ_loop (l:List S35) (hs:Sm l) (hl:l.length≤1000):∀ (d i:Nat) (acc:List Int),i+d=l.length→acc.length≤1030 * i→Ev (fun k=>solve_occurring.l0 k acc l l.length i) (Lib.compact ((acc++flat (l.drop i)).mergeSort fun x y=>decide (x≤y)))
  | 0,i,acc,h,ha=>by
    rw [List.drop_eq_nil_of_le (by omega),show flat []=[] from rfl,List.append_nil]
    refine Ev.step (fun k=>by rw [solve_occurring.l0,if_neg (by omega)]) ?_
    have hs:slices_Sort_int_int.f acc=some (acc.mergeSort fun x y=>decide (x≤y)):=by
      unfold slices_Sort_int_int.f
      rw [if_pos (by omega)]
    simp only [hs,Option.bind_some]
    exact Ev.now _
  | d+1,i,acc,h,ha=>by
    have hi:i<l.length:=by omega
    have hw:=wrap_succ i l.length hi (by omega)
    have hm:=hs _ (rdT_mem l i hi)
    have ih:=occ_loop l hs hl d (i+1) (acc++(rd_T35 l i).f0) (by omega) (by rw [List.length_append];omega)
    rw [rdT_at l i hi,flat_cons,← List.append_assoc]
    exact Ev.step (fun k=>by rw [solve_occurring.l0,if_pos (by omega),if_pos (by omega),if_pos (by omega),if_pos (by omega),hw]) ih
theorem occ_ev (l:List S35) (hs:Sm l) (hl:l.length≤1000):Ev (fun k=>solve_occurring.f k l) (occ l):=by
  have:=occ_loop l hs hl l.length 0 [] (by omega) (by simp)
  rw [List.nil_append,List.drop_zero] at this
  exact this
theorem equal2_loop (a b:List Int) (hl:a.length≤1000) (he:a.length=b.length):∀ (d i:Nat),i+d=a.length→Ev (fun k=>slices_Equal_int_int.l0 k a b a.length i) (decide (a.drop i=b.drop i))
  | 0,i,h=>by
    rw [List.drop_eq_nil_of_le (by omega),List.drop_eq_nil_of_le (by omega)]
    exact Ev.step (f:=fun _=>some true) (fun k=>by rw [slices_Equal_int_int.l0,if_neg (by omega)]) (Ev.now _)
  | d+1,i,h=>by
    have hi:i<a.length:=by omega
    have hw:=wrap_succ i a.length hi (by omega)
    rw [rd_at a i hi,rd_at b i (by omega)]
    by_cases e:rd a i=rd b i
    · have ih:=equal2_loop a b hl he d (i+1) (by omega)
      rw [show decide (rd a i :: a.drop (i+1)=rd b i :: b.drop (i+1))=decide (a.drop (i+1)=b.drop (i+1)) from decide_eq_decide.2 ⟨fun h=>(List.cons.inj h).2,fun h=>by rw [e,h]⟩]
      exact Ev.step (fun k=>by rw [slices_Equal_int_int.l0,if_pos (by omega),if_pos (by omega),if_pos (by omega),if_pos (by omega),if_pos e,hw]) ih
    · rw [decide_eq_false (fun h=>e (List.cons.inj h).1)]
      exact Ev.step (f:=fun _=>some false) (fun k=>by rw [slices_Equal_int_int.l0,if_pos (by omega),if_pos (by omega),if_pos (by omega),if_pos (by omega),if_neg e]) (Ev.now _)
theorem equal2_ev (a b:List Int) (hl:a.length≤1000):Ev (fun k=>slices_Equal_int_int.f k a b) (decide (a=b)):=by
  by_cases he:a.length=b.length
  · have:=equal2_loop a b hl he a.length 0 (by omega)
    rw [List.drop_zero,List.drop_zero] at this
    exact ev_pos (by omega) this
  · rw [decide_eq_false (fun h=>he (by rw [h]))]
    exact ev_neg (by omega) (Ev.now _)

def L3:List S35:=[⟨[0,1],[1,2]⟩,⟨[1,2],[0,3]⟩,⟨[0,2],[0,3]⟩]
def L2:List S35:=[⟨[0,1],[1,2]⟩,⟨[1,2],[0,3]⟩]
theorem L3_vs:VS L3:=(sysv_VS _).1 (by decide)
theorem L2_vs:VS L2:=(sysv_VS _).1 (by decide)
theorem L3_sm:Sm L3:=by
  intro t ht
  simp only [L3,List.mem_cons,List.not_mem_nil,or_false] at ht
  rcases ht with rfl|rfl|rfl <;> exact ⟨by decide,by decide⟩
theorem L2_sm:Sm L2:=by
  intro t ht
  simp only [L2,List.mem_cons,List.not_mem_nil,or_false] at ht
  rcases ht with rfl|rfl <;> exact ⟨by decide,by decide⟩
theorem occ_of {l:List S35} (h:VS l) {vs:List Int} (hc:Chn 24 none vs) (hm:∀ v,v∈vs↔v∈flat l):occ l=vs:=Chn.same h.occ.1 hc (fun n=>by rw [h.occ.2,hm])
theorem v012:Chn 24 none [0,1,2]:=by simp [Chn]
theorem L3_occ:occ L3=[0,1,2]:=occ_of L3_vs v012 (fun v=>by simp [flat,L3] <;> omega)
theorem L2_occ:occ L2=[0,1,2]:=occ_of L2_vs v012 (fun v=>by simp [flat,L2] <;> omega)
def R3:List S55:=((solve_split.f 60 L3 [0,1,2] 0 0 []).getD ([],false)).1
theorem awake_ev:Ev (fun k=>ancepslaw40_awake.f k) true:=by
  have v3:Ev (fun k=>solve_valid.f k L3) 0:=ev_eq (svalid_ev L3 L3_sm (by decide)) ((sysv_VS _).2 L3_vs)
  have v2:Ev (fun k=>solve_valid.f k L2) 0:=ev_eq (svalid_ev L2 L2_sm (by decide)) ((sysv_VS _).2 L2_vs)
  have o3:Ev (fun k=>solve_occurring.f k L3) [0,1,2]:=ev_eq (occ_ev L3 L3_sm (by decide)) L3_occ
  have o2:Ev (fun k=>solve_occurring.f k L2) [0,1,2]:=ev_eq (occ_ev L2 L2_sm (by decide)) L2_occ
  have s3:Ev (fun k=>solve_search.f k L3 [0,1,2] 0 0) []:=Ev.of (fun k=>solve_search.mono _ _ _ _ k) (k:=60) (by kernel_rfl)
  have s2:Ev (fun k=>solve_search.f k L2 [0,1,2] 0 0) [1,6]:=Ev.of (fun k=>solve_search.mono _ _ _ _ k) (k:=60) (by kernel_rfl)
  have p3:Ev (fun k=>solve_split.f k L3 [0,1,2] 0 0 []) (R3,true):=Ev.of (fun k=>solve_split.mono _ _ _ _ _ k) (k:=60) (by kernel_rfl)
  have h3:Ev (fun k=>solve_shape.f k L3 R3) true:=Ev.of (fun k=>solve_shape.mono _ _ k) (k:=200) (by kernel_rfl)
  have r3:Ev (fun k=>solve_right.f k L3 R3 0 0 0) true:=Ev.of (fun k=>solve_right.mono _ _ _ _ _ k) (k:=200) (by kernel_rfl)
  have hR:Ev (fun k=>solve_Refute.f k L3) (R3,0):=by
    refine Ev.bind v3 (ev_pos rfl (Ev.bind o3 (Ev.bind s3 (ev_pos rfl (Ev.bind p3 ?_)))))
    exact Ev.now _
  have hF:Ev (fun k=>solve_First.f k L3) (0,10):=Ev.bind v3 (ev_pos rfl (Ev.bind o3 (Ev.bind s3 (Ev.now _))))
  have hA:Ev (fun k=>solve_All.f k L2) ([1,6],0):=Ev.bind v2 (ev_pos rfl (Ev.bind o2 (Ev.bind s2 (Ev.now _))))
  have hC:Ev (fun k=>solve_Check.f k L3 R3) true:=Ev.bind v3 (ev_pos rfl (Ev.bind h3 (ev_pos rfl (Ev.bind r3 (Ev.now _)))))
  have hE:Ev (fun k=>slices_Equal_int_int.f k [1,6] [1,6]) true:=equal2_ev [1,6] [1,6] (by decide)
  unfold ancepslaw40_awake.f
  refine Ev.bind (Ev.now L3) (Ev.bind hR (Ev.bind hF (ev_pos (by decide) ?_)))
  exact Ev.bind (show Ev (fun k=>solve_All.f k (L3.take 2)) ([1,6],0) from hA) (ev_pos rfl (ev_pos (by kernel_rfl) (Ev.bind hC (ev_pos rfl (ev_pos rfl (ev_pos rfl (Ev.bind hE (Ev.now _))))))))
theorem awake_bind:Ev (fun k=>(ancepslaw40_awake.f k).bind fun t=>some t) true:=Ev.bind awake_ev (Ev.now _)
theorem bits_andNot (a b:Nat) (ha:a<2 ^ 62) (hb:b<2 ^ 62):Go.bits .andNot .i64 (a:Int) (b:Int)=((a&&& (a ^^^ b):Nat):Int):=by
  have h62:(2:Nat) ^ 62=4611686018427387904:=by decide
  have h64:(2:Nat) ^ IntKind.i64.bits=18446744073709551616:=by decide
  have hx:a&&& (a ^^^ b)≤a:=Nat.and_le_left
  have ha':a % 2 ^ IntKind.i64.bits=a:=Nat.mod_eq_of_lt (by omega)
  have hb':b % 2 ^ IntKind.i64.bits=b:=Nat.mod_eq_of_lt (by omega)
  have e:∀ x y:BitVec IntKind.i64.bits,x&&& ~~~y=x&&& (x ^^^ y):=by
    intro x y
    ext i hi
    simp only [BitVec.getElem_and,BitVec.getElem_not,BitVec.getElem_xor]
    cases x[i] <;> cases y[i] <;> rfl
  simp only [Go.bits,BitVec.ofInt_natCast,e,BitVec.toNat_and,BitVec.toNat_xor,BitVec.toNat_ofNat,ha',hb']
  rw [IntKind.wrap_i64]
  omega
def fl (t:S35) (C V:Nat):Bool:=!(t.f1.any fun r=>r.toNat&&& row t.f0 C == row t.f0 V)
theorem w62:∀ z:Int,0≤z→z<2 ^ 62→IntKind.i64.wrap z=z:=fun z h0 h1=>by
  rw [IntKind.wrap_i64]
  have:(2:Int) ^ 62=4611686018427387904:=by decide
  omega
theorem ifun_loop (rs:List Int) (hl:(rs.length:Int)≤9223372036854775807) (hr:∀ r,r∈rs→0≤r∧r.toNat<2 ^ 62) (m w:Nat) (hm:m<2 ^ 62):∀ (d i:Nat),i+d=rs.length→
    ∃ q:Int,Ev (fun k=>slices_IndexFunc_int_int_solve_choices_fails_1.l0 k rs rs.length i (m:Int) (w:Int)) q∧decide (q≥0)=(rs.drop i).any fun r=>r.toNat&&& m == w
  | 0,i,h=>by
    rw [List.drop_eq_nil_of_le (by omega)]
    exact ⟨-1,Ev.step (f:=fun _=>some (-1)) (fun k=>by rw [slices_IndexFunc_int_int_solve_choices_fails_1.l0,if_neg (by omega)]) (Ev.now _),rfl⟩
  | d+1,i,h=>by
    have hi:i<rs.length:=by omega
    have hw:=wrap_succ i rs.length hi hl
    obtain ⟨q,hq,hq2⟩:=ifun_loop rs hl hr m w hm d (i+1) (by omega)
    have h1:=hr _ (rd_mem rs i hi)
    have hb:=(bits_nat .i64 62 (by decide) w62 (rd rs i).toNat m h1.2 hm).1
    rw [← nat_of h1.1] at hb
    have hf:solve_choices_fails_1_v1.f (rd rs i) (m:Int) (w:Int)=some ((rd rs i).toNat&&& m == w):=by
      unfold solve_choices_fails_1_v1.f
      rw [hb]
      congr 1
      rw [Bool.eq_iff_iff,beq_iff_eq,beq_iff_eq]
      omega
    rw [rd_at rs i hi,List.any_cons]
    by_cases e:((rd rs i).toNat&&& m == w)=true
    · rw [e] at hf ⊢
      exact ⟨i,Ev.step (fun k=>by rw [slices_IndexFunc_int_int_solve_choices_fails_1.l0,if_pos (by omega),if_pos (by omega),if_pos (by omega),hf];rfl) (Ev.now (i:Int)),by rw [Bool.true_or];exact decide_eq_true (by omega)⟩
    · rw [Bool.not_eq_true] at e
      rw [e] at hf ⊢
      exact ⟨q,Ev.step (fun k=>by rw [slices_IndexFunc_int_int_solve_choices_fails_1.l0,if_pos (by omega),if_pos (by omega),if_pos (by omega),hf,hw];rfl) hq,by rw [Bool.false_or];exact hq2⟩
theorem p62 {a n:Nat} (h:a<2 ^ n) (hn:n≤62):a<2 ^ 62:=Nat.lt_of_lt_of_le h (Nat.pow_le_pow_right (by decide) hn)
theorem fails_ev {t:S35} (h:VT t.f0 t.f1) (C V:Nat) (hC:C<2 ^ 24) (hV:V<2 ^ 24):Ev (fun k=>solve_choices_fails.f k (C:Int) (V:Int) t.f0 t.f1) (fl t C V):=by
  have hl:=h.len
  have hr:=h.rows_len
  refine Ev.bind (srow_ev _ _ h.vars' (by omega) C (p62 hC (by decide) |> fun _=>Nat.lt_of_lt_of_le hC (by decide))) (Ev.bind (srow_ev _ _ h.vars' (by omega) V (Nat.lt_of_lt_of_le hV (by decide))) ?_)
  obtain ⟨q,hq,hq2⟩:=ifun_loop t.f1 (by omega) (fun r hr=>⟨(h.row_of hr).1,p62 (h.row_of hr).2.1 (by omega)⟩) (row t.f0 C) (row t.f0 V) (p62 (row_lt _ _) (by omega)) t.f1.length 0 (by omega)
  rw [List.drop_zero] at hq2
  refine Ev.bind (show Ev (fun k=>slices_ContainsFunc_int_int_solve_choices_fails_1.f k t.f1 ((row t.f0 C:Nat):Int) ((row t.f0 V:Nat):Int)) (decide (q≥0)) from Ev.bind hq (Ev.now _)) ?_
  rw [hq2]
  exact Ev.now _
def wC (C:Nat) (v:Int):Nat:=C||| 2 ^ v.toNat
def wV (V:Nat) (v:Int) (b:Bool):Nat:=(V&&& (V ^^^ 2 ^ v.toNat))||| b.toNat * 2 ^ v.toNat
theorem wC_lt {C:Nat} {v:Int} (h:C<2 ^ 24) (h0:0≤v) (h1:v<24):wC C v<2 ^ 24:=Nat.or_lt_two_pow h (Nat.pow_lt_pow_right (by decide) (by omega))
theorem wV_lt {V:Nat} {v:Int} (b:Bool) (h:V<2 ^ 24) (h0:0≤v) (h1:v<24):wV V v b<2 ^ 24:=by
  have hp:2 ^ v.toNat<2 ^ 24:=Nat.pow_lt_pow_right (by decide) (by omega)
  refine Nat.or_lt_two_pow (Nat.lt_of_le_of_lt Nat.and_le_left h) ?_
  cases b
  · simp
  · simpa using hp
theorem wC_bit (C:Nat) (v:Int) (j:Nat):(wC C v).testBit j=(C.testBit j||v.toNat == j):=by
  unfold wC
  rw [Nat.testBit_or,Nat.testBit_two_pow]
  congr 1
theorem wV_bit (V:Nat) (v:Int) (b:Bool) (j:Nat):(wV V v b).testBit j=((V.testBit j&&!(v.toNat == j))||(b&&v.toNat == j)):=by
  unfold wV
  rw [Nat.testBit_or,Nat.testBit_and,Nat.testBit_xor,Nat.testBit_two_pow]
  have h1:(b.toNat * 2 ^ v.toNat).testBit j=(b&&v.toNat == j):=by
    cases b
    · simp
    · simp only [Bool.toNat_true,Nat.one_mul,Nat.testBit_two_pow,Bool.true_and]
      rfl
  rw [h1]
  congr 1
  have e:decide (v.toNat=j)=(v.toNat == j):=rfl
  rw [e]
  cases V.testBit j <;> cases (v.toNat == j) <;> rfl
theorem with_eq {C V:Nat} {v:Int} (b:Bool) (hC:C<2 ^ 24) (hV:V<2 ^ 24) (h0:0≤v) (h1:v<24):solve_choices_with.f (C:Int) (V:Int) v ((b.toNat:Nat):Int)=some (((wC C v:Nat):Int),((wV V v b:Nat):Int)):=by
  unfold solve_choices_with.f
  rw [if_pos h0]
  have hp:2 ^ v.toNat<2 ^ 24:=Nat.pow_lt_pow_right (by decide) (by omega)
  have e1:=shl1 v.toNat (by omega)
  rw [← nat_of h0] at e1
  have e2:shl .i64 ((b.toNat:Nat):Int) v=((b.toNat * 2 ^ v.toNat:Nat):Int):=by
    cases b
    · simp only [Bool.toNat_false,Nat.zero_mul]
      unfold shl
      rw [show ((0:Nat):Int)=0 from rfl,Int.zero_mul]
      rfl
    · simp only [Bool.toNat_true,Nat.one_mul]
      exact e1
  have hbp:b.toNat * 2 ^ v.toNat<2 ^ 24:=by
    cases b
    · simp
    · simpa using hp
  have k1:=(bits_nat .i64 62 (by decide) w62 C (2 ^ v.toNat) (p62 hC (by decide)) (p62 hp (by decide))).2
  have k2:=bits_andNot V (2 ^ v.toNat) (p62 hV (by decide)) (p62 hp (by decide))
  have k3:=(bits_nat .i64 62 (by decide) w62 (V&&& (V ^^^ 2 ^ v.toNat)) (b.toNat * 2 ^ v.toNat) (p62 (Nat.lt_of_le_of_lt Nat.and_le_left hV) (by decide)) (p62 hbp (by decide))).2
  rw [e1,e2,k1,k2,k3]
  rfl
def Free (C V:Nat) (vs:List Int):Prop:=(∀ j,V.testBit j=true→C.testBit j=true)∧∀ v,v∈vs→C.testBit v.toNat=false
theorem Free.step {C V:Nat} {v:Int} {vs:List Int} {hi:Int} {p:Option Int} (h:Free C V (v :: vs)) (hc:Chn hi p (v :: vs)) (h0:∀ w,w∈v :: vs→0≤w) (b:Bool):Free (wC C v) (wV V v b) vs:=by
  refine ⟨fun j hj=>?_,fun w hw=>?_⟩
  · rw [wV_bit] at hj
    rw [wC_bit]
    by_cases e:v.toNat=j
    · simp [e]
    · simp [e] at hj
      rw [h.1 j hj];rfl
  · have hlt:v<w:=by
      obtain ⟨i,hi',e⟩:=List.getElem_of_mem hw
      exact hc.below 0 (i+1) v w (by omega) rfl (by simp [List.getElem?_eq_getElem hi',e])
    have h1:=h0 v (.head _)
    rw [wC_bit,h.2 w (.tail _ hw)]
    simp;omega
theorem wV_or {C V:Nat} {v:Int} {vs:List Int} (h:Free C V (v :: vs)) (b:Bool):wV V v b=V||| b.toNat * 2 ^ v.toNat:=by
  apply Nat.eq_of_testBit_eq
  intro j
  have hv:V.testBit v.toNat=false:=by
    cases e:V.testBit v.toNat
    · rfl
    · exact absurd (h.2 v (.head _)) (by rw [h.1 _ e];decide)
  have e2:(b.toNat * 2 ^ v.toNat).testBit j=(b&&v.toNat == j):=by
    cases b
    · simp
    · rw [Bool.eq_iff_iff];simp [Nat.testBit_two_pow]
  rw [wV_bit,Nat.testBit_or,e2]
  by_cases e:v.toNat=j
  · subst e;simp [hv]
  · rw [show (v.toNat == j)=false by simpa using e];simp
theorem rinner_loop {t:S35} (h:VT t.f0 t.f1) {C V:Nat} (hC:C<2 ^ 24) (hV:V<2 ^ 24) (x5:Int) (a:Nat) (ha:a<2 ^ 24) (r:Bool):∀ (d i:Nat) (b:Bool),i+d=t.f0.length→
    ((b&&(t.f0.drop i).all fun v=>!C.testBit v.toNat||a.testBit v.toNat == V.testBit v.toNat)=true→r=false)→
    ((b&&(t.f0.drop i).all fun v=>!C.testBit v.toNat||a.testBit v.toNat == V.testBit v.toNat)=false→Ev (fun k=>ancepsref40_fails.l0 k (wrap64 (x5+1)) t.f0 t.f1 (C:Int) (V:Int)) r)→
    Ev (fun k=>ancepsref40_fails.l1 k x5 (a:Int) b i t.f0 t.f1 (C:Int) (V:Int)) r
  | 0,i,b,hi,h1,h2=>by
    rw [List.drop_eq_nil_of_le (by omega)] at h1 h2
    refine Ev.step (fun k=>by rw [ancepsref40_fails.l1,if_neg (by omega)]) ?_
    cases b
    · exact ev_neg (by decide) (h2 rfl)
    · refine ev_pos rfl ?_
      rw [h1 rfl]
      exact Ev.now _
  | d+1,i,b,hi,h1,h2=>by
    have hl:=h.len
    have hi':i<t.f0.length:=by omega
    have hv:=h.vars' _ (rd_mem t.f0 i hi')
    have hw:=wrap_succ i t.f0.length hi' (by omega)
    have hs:shl .i64 1 (rd t.f0 i)=((2 ^ (rd t.f0 i).toNat:Nat):Int):=by
      have:=shl1 (rd t.f0 i).toNat (by omega)
      rw [← nat_of hv.1] at this
      exact this
    have hp:2 ^ (rd t.f0 i).toNat<2 ^ 62:=Nat.pow_lt_pow_right (by decide) (by omega)
    have ba:=fun x (hx:x<2 ^ 24)=>(bits_nat .i64 62 (by decide) w62 x (2 ^ (rd t.f0 i).toNat) (p62 hx (by decide)) hp).1
    have hb:∀ x y:Nat,(x&&& 2 ^ (rd t.f0 i).toNat=y&&& 2 ^ (rd t.f0 i).toNat)↔x.testBit (rd t.f0 i).toNat=y.testBit (rd t.f0 i).toNat:=fun x y=>by
      constructor
      · intro e
        have:=congrArg (fun z=>z.testBit (rd t.f0 i).toNat) e
        simpa [Nat.testBit_and,Nat.testBit_two_pow] using this
      · intro e
        apply Nat.eq_of_testBit_eq
        intro j
        rw [Nat.testBit_and,Nat.testBit_and,Nat.testBit_two_pow]
        by_cases e':(rd t.f0 i).toNat=j
        · rw [← e',e]
        · simp [e']
    rw [rd_at t.f0 i hi',List.all_cons] at h1 h2
    refine Ev.step (fun k=>by rw [ancepsref40_fails.l1,if_pos (by omega)]) ?_
    refine ev_pos (by omega) ?_
    refine ev_pos hv.1 ?_
    rw [hs,ba C hC,ba a ha,ba V hV,hw]
    cases b
    · refine ev_neg (by decide) ?_
      exact rinner_loop h hC hV x5 a ha r d (i+1) false (by omega) (fun e=>by simp at e) (fun _=>h2 rfl)
    · refine ev_pos rfl ?_
      have hc:=hb C 0
      rw [Nat.zero_and,Nat.zero_testBit] at hc
      by_cases e:C.testBit (rd t.f0 i).toNat=true
      · refine ev_neg (fun e'=>by have:=hc.1 (by omega);rw [e] at this;cases this) ?_
        have hav:=hb a V
        refine ev_eq (rinner_loop h hC hV x5 a ha r d (i+1) _ (by omega) (fun e2=>h1 ?_) (fun e2=>h2 ?_)) rfl
        · refine Eq.trans ?_ e2;rw [e,Bool.not_true,Bool.false_or,Bool.true_and];congr 1;rw [Bool.eq_iff_iff,beq_iff_eq,beq_iff_eq,← hav];omega
        · refine Eq.trans ?_ e2;rw [e,Bool.not_true,Bool.false_or,Bool.true_and];congr 1;rw [Bool.eq_iff_iff,beq_iff_eq,beq_iff_eq,← hav];omega
      · rw [Bool.not_eq_true] at e
        refine ev_pos (by have:=hc.2 e;omega) ?_
        rw [e] at h1 h2
        exact rinner_loop h hC hV x5 a ha r d (i+1) true (by omega) (fun e2=>h1 (by simpa using e2)) (fun e2=>h2 (by simpa using e2))
theorem fl_all {t:S35} (h:VT t.f0 t.f1) {C V:Nat} (hs:∀ j,V.testBit j=true→C.testBit j=true) {x:Int} (hx:x∈t.f1):(x.toNat&&& row t.f0 C == row t.f0 V)=t.f0.all fun v=>!C.testBit v.toNat||(asg t.f0 x.toNat).testBit v.toNat == V.testBit v.toNat:=by
  have hx':=h.row_of hx
  rw [Bool.eq_iff_iff,beq_iff_eq,List.all_eq_true]
  have key:∀ m v,t.f0[m]?=some v→((x.toNat&&& row t.f0 C).testBit m=(row t.f0 V).testBit m↔(!C.testBit v.toNat||(asg t.f0 x.toNat).testBit v.toNat == V.testBit v.toNat)=true):=fun m v hm=>by
    have r1:∀ y:Nat,(row t.f0 y).testBit m=y.testBit v.toNat:=fun y=>by
      rw [Bool.eq_iff_iff,row_bit]
      constructor
      · rintro ⟨w,hw,hb⟩
        rw [hm] at hw;cases hw;exact hb
      · exact fun hb=>⟨v,hm,hb⟩
    have r2:(asg t.f0 x.toNat).testBit v.toNat=x.toNat.testBit m:=by
      rw [Bool.eq_iff_iff,asg_bit h.vars]
      constructor
      · rintro ⟨m',v',hm',e,hb⟩
        have:=h.vars.inj m m' v v' hm hm' e
        subst this;exact hb
      · exact fun hb=>⟨m,v,hm,rfl,hb⟩
    rw [Nat.testBit_and,r1,r1,r2]
    have:=hs v.toNat
    revert this
    cases C.testBit v.toNat <;> cases V.testBit v.toNat <;> cases x.toNat.testBit m <;> simp
  constructor
  · intro e v hv
    obtain ⟨m,hm,e'⟩:=List.getElem_of_mem hv
    exact (key m v (by rw [List.getElem?_eq_getElem hm,e'])).1 (by rw [e])
  · intro ha
    apply Nat.eq_of_testBit_eq
    intro m
    by_cases hm:m<t.f0.length
    · exact (key m _ (List.getElem?_eq_getElem hm)).2 (ha _ (List.getElem_mem hm))
    · have r:∀ y:Nat,(row t.f0 y).testBit m=false:=fun y=>Nat.testBit_lt_two_pow (Nat.lt_of_lt_of_le (row_lt _ _) (Nat.pow_le_pow_right (by decide) (by omega)))
      rw [Nat.testBit_and,r,r,Bool.and_false]
theorem rfails_loop {t:S35} (h:VT t.f0 t.f1) {C V:Nat} (hC:C<2 ^ 24) (hV:V<2 ^ 24) (hs:∀ j,V.testBit j=true→C.testBit j=true):∀ (d i:Nat),i+d=t.f1.length→
    Ev (fun k=>ancepsref40_fails.l0 k i t.f0 t.f1 (C:Int) (V:Int)) (!((t.f1.drop i).any fun r=>r.toNat&&& row t.f0 C == row t.f0 V))
  | 0,i,hi=>by
    rw [List.drop_eq_nil_of_le (by omega)]
    refine Ev.step (fun k=>by rw [ancepsref40_fails.l0,if_neg (by omega)]) ?_
    exact Ev.now _
  | d+1,i,hi=>by
    have hr:=h.rows_len
    have hl:=h.len
    have hi':i<t.f1.length:=by omega
    have hx:=rd_mem t.f1 i hi'
    have hw:=wrap_succ i t.f1.length hi' (by omega)
    have ih:=rfails_loop h hC hV hs d (i+1) (by omega)
    refine Ev.step (fun k=>by rw [ancepsref40_fails.l0,if_pos (by omega)]) ?_
    refine ev_pos (by omega) ?_
    have ea:=rasg_ev h.vars (by omega) (rd t.f1 i).toNat
    rw [← nat_of (h.row_of hx).1] at ea
    refine Ev.bind ea ?_
    rw [rd_at t.f1 i hi',List.any_cons,fl_all h hs hx]
    refine rinner_loop h hC hV i _ (asg_lt h.vars _) _ t.f0.length 0 true (by omega) (fun e=>?_) (fun e=>?_)
    · rw [List.drop_zero,Bool.true_and] at e
      rw [e,Bool.true_or,Bool.not_true]
    · rw [List.drop_zero,Bool.true_and] at e
      rw [e,Bool.false_or,hw]
      exact ih
theorem rfails_ev {t:S35} (h:VT t.f0 t.f1) {C V:Nat} (hC:C<2 ^ 24) (hV:V<2 ^ 24) (hs:∀ j,V.testBit j=true→C.testBit j=true):Ev (fun k=>ancepsref40_fails.f k t.f0 t.f1 (C:Int) (V:Int)) (fl t C V):=
  rfails_loop h hC hV hs t.f1.length 0 (by omega)

theorem rwith_ev {C V:Nat} {v:Int} {vs:List Int} (b:Bool) (hC:C<2 ^ 24) (hV:V<2 ^ 24) (h:0≤v∧v<24) (hf:Free C V (v :: vs)):Ev (fun _=>ancepsref40_choices_with.f (C:Int) (V:Int) (rd (v :: vs) 0) ((b.toNat:Nat):Int)) (((wC C v:Nat):Int),((wV V v b:Nat):Int)):=by
  have e:=with_eq b hC hV h.1 h.2
  rw [show rd (v :: vs) 0=v from rfl]
  have hs:shl .i64 1 v=((2 ^ v.toNat:Nat):Int):=by
    have:=shl1 v.toNat (by omega)
    rw [← nat_of h.1] at this
    exact this
  have hp:2 ^ v.toNat<2 ^ 62:=Nat.pow_lt_pow_right (by decide) (by omega)
  have hb:shl .i64 ((b.toNat:Nat):Int) v=((b.toNat * 2 ^ v.toNat:Nat):Int):=by
    cases b
    · show shl .i64 0 v=_
      have hz:shl .i64 0 v=0:=by
        have:v=((v.toNat:Nat):Int):=nat_of h.1
        rw [this]
        simp [shl];rfl
      rw [hz];simp
    · rw [Bool.toNat_true,Nat.one_mul];exact hs
  have hp2:b.toNat * 2 ^ v.toNat<2 ^ 62:=by
    cases b
    · simp
    · simpa using hp
  unfold ancepsref40_choices_with.f
  rw [if_pos h.1,hs,hb,(bits_nat .i64 62 (by decide) w62 C _ (p62 hC (by decide)) hp).2,(bits_nat .i64 62 (by decide) w62 V _ (p62 hV (by decide)) hp2).2,wV_or hf b]
  exact Ev.now _
def lf (L:Nat) (b:S55):Bool:=decide (b.f1=0)&&decide (b.f2=0)&&decide (0≤b.f3)&&decide (b.f3<(L:Int))
def nd (b:S55):Bool:=decide (0≤b.f0)&&decide (b.f0<24)&&decide (b.f3=0)
def mrk (n i:Nat):List Int→List Bool→Option (List Bool)
  | [],M=>some M
  | k :: ks,M=>if (i:Int)<k∧k<(n:Int)∧rdOf false M k=false then mrk n i ks (M.set k.toNat true) else none
def shp (L n:Nat):List S55→Nat→List Bool→Option (List Bool)
  | [],_,M=>some M
  | b :: bs,i,M=>if b.f0=-1 then (if lf L b=true then shp L n bs (i+1) M else none) else if nd b=true then (mrk n i [b.f1,b.f2] M).bind (shp L n bs (i+1)) else none
theorem mrk_len (n i:Nat):∀ (ks:List Int) (M M':List Bool),mrk n i ks M=some M'→M'.length=M.length
  | [],M,M',h=>by simp only [mrk,Option.some.injEq] at h;rw [h]
  | k :: ks,M,M',h=>by
    rw [mrk] at h
    split at h
    · rw [mrk_len n i ks _ M' h,List.length_set]
    · cases h
def fin:Option (List Bool)→Bool
  | none=>false
  | some M=>(M.drop 1).all id
theorem rdN_at (l:List S55) (i:Nat) (hi:i<l.length):l.drop i=rd_T55 l i :: l.drop (i+1):=getD_drop l i z55 hi
theorem bidx_loop (M:List Bool) (hl:(M.length:Int)≤9223372036854775807):∀ (d i:Nat),i+d=M.length→∃ q:Int,Ev (fun k=>slices_Index_bool_bool.l0 k M false M.length i) q∧decide (q≥0)=!(M.drop i).all id
  | 0,i,h=>by
    refine ⟨-1,?_,by rw [List.drop_eq_nil_of_le (by omega)];rfl⟩
    refine Ev.step (fun k=>by rw [slices_Index_bool_bool.l0,if_neg (by omega)]) ?_
    exact Ev.now _
  | d+1,i,h=>by
    have hi:i<M.length:=by omega
    have hw:=wrap_succ i M.length hi hl
    obtain ⟨q,hq,hq2⟩:=bidx_loop M hl d (i+1) (by omega)
    have hd:M.drop i=rdOf false M (i:Int) :: M.drop (i+1):=getD_drop M i false hi
    rw [hd,List.all_cons]
    cases e:rdOf false M (i:Int)
    · refine ⟨i,?_,by simp⟩
      refine Ev.step (fun k=>by rw [slices_Index_bool_bool.l0,if_pos (by omega),if_pos (by omega),if_pos (by omega),e]) ?_
      refine ev_pos rfl ?_
      exact Ev.now _
    · refine ⟨q,?_,by rw [hq2];simp⟩
      refine Ev.step (fun k=>by rw [slices_Index_bool_bool.l0,if_pos (by omega),if_pos (by omega),if_pos (by omega),e,hw]) ?_
      refine ev_neg (by decide) ?_
      exact hq
theorem inner_loop (l:List S35) (N:List S55) (hn:N.length≤2000) (i:Nat) (ks:List Int) (hk:ks.length≤2) (R:List Bool→Bool)
    (hR:∀ M,M.length=N.length→Ev (fun k=>solve_shape.l0 k l N.length M N N.length (wrap64 ((i:Int)+1))) (R M)) :
    ∀ (d j:Nat) (M:List Bool),j+d=ks.length→M.length=N.length→
    Ev (fun k=>solve_shape.l1 k l N.length M i N N.length i ks ks.length j) (match mrk N.length i (ks.drop j) M with|none=>false|some M'=>R M')
  | 0,j,M,h,hM=>by
    rw [List.drop_eq_nil_of_le (by omega)]
    refine Ev.step (fun k=>by rw [solve_shape.l1,if_neg (by omega)]) ?_
    exact hR M hM
  | d+1,j,M,h,hM=>by
    have hj:j<ks.length:=by omega
    have hw:=wrap_succ j ks.length hj (by omega)
    rw [rd_at ks j hj,mrk]
    refine Ev.step (fun k=>by rw [solve_shape.l1,if_pos (by omega),if_pos (by omega),if_pos (by omega)]) ?_
    by_cases h1:rd ks j≤(i:Int)
    · rw [if_neg (by omega)]
      refine ev_pos h1 ?_
      exact Ev.now _
    refine ev_neg h1 ?_
    by_cases h2:rd ks j≥(N.length:Int)
    · rw [if_neg (by omega)]
      refine ev_pos h2 ?_
      exact Ev.now _
    refine ev_neg h2 ?_
    refine ev_pos (by omega) ?_
    refine ev_pos (by omega) ?_
    cases h3:rdOf false M (rd ks j)
    · rw [if_pos ⟨by omega,by omega,rfl⟩]
      refine ev_neg (by decide) ?_
      rw [hw]
      exact inner_loop l N hn i ks hk R hR d (j+1) _ (by omega) (by rw [List.length_set];exact hM)
    · rw [if_neg (by rintro ⟨_,_,h⟩;cases h)]
      refine ev_pos rfl ?_
      exact Ev.now _
theorem shape_loop (l:List S35) (hL:l.length≤1000) (N:List S55) (hn:N.length≤2000) (h0:1≤N.length):∀ (d i:Nat) (M:List Bool),i+d=N.length→M.length=N.length→
    Ev (fun k=>solve_shape.l0 k l N.length M N N.length i) (fin (shp l.length N.length (N.drop i) i M))
  | 0,i,M,h,hM=>by
    rw [List.drop_eq_nil_of_le (by omega)]
    refine Ev.step (fun k=>by rw [solve_shape.l0,if_neg (by omega)]) ?_
    refine ev_pos (by omega) ?_
    obtain ⟨q,hq,hq2⟩:=bidx_loop (M.drop 1) (by rw [List.length_drop];omega) (M.drop 1).length 0 (by omega)
    refine Ev.bind (show Ev (fun k=>slices_Contains_bool_bool.f k (M.drop 1) false) (decide (q≥0)) from Ev.bind hq (Ev.now _)) ?_
    rw [hq2,List.drop_zero,Bool.not_not]
    exact Ev.now _
  | d+1,i,M,h,hM=>by
    have hi:i<N.length:=by omega
    have hw:=wrap_succ i N.length hi (by omega)
    have ih:=fun M' hM'=>shape_loop l hL N hn h0 d (i+1) M' (by omega) hM'
    rw [rdN_at N i hi,shp]
    refine Ev.step (fun k=>by rw [solve_shape.l0,if_pos (by omega),if_pos (by omega),if_pos (by omega)]) ?_
    by_cases c0:(rd_T55 N i).f0=-1
    · rw [if_pos c0]
      refine ev_pos c0 ?_
      unfold lf
      by_cases c1:(rd_T55 N i).f1=0
      · refine ev_pos c1 ?_
        by_cases c2:(rd_T55 N i).f2=0
        · refine ev_pos c2 ?_
          by_cases c3:(rd_T55 N i).f3<0
          · refine ev_pos c3 ?_
            rw [if_neg (by simp;omega)]
            exact Ev.now _
          · refine ev_neg c3 ?_
            by_cases c4:(rd_T55 N i).f3≥(l.length:Int)
            · refine ev_pos c4 ?_
              rw [if_neg (by simp;omega)]
              exact Ev.now _
            · refine ev_neg c4 ?_
              rw [if_pos (by simp;omega),hw]
              exact ih M hM
        · refine ev_neg c2 ?_
          rw [if_neg (by simp;omega)]
          exact Ev.now _
      · refine ev_neg c1 ?_
        rw [if_neg (by simp;omega)]
        exact Ev.now _
    · rw [if_neg c0]
      refine ev_neg c0 ?_
      have hfin:∀ o:Option (List Bool),fin (o.bind (shp l.length N.length (N.drop (i+1)) (i+1)))=match o with|none=>false|some M'=>fin (shp l.length N.length (N.drop (i+1)) (i+1) M'):=fun o=>by cases o <;> rfl
      unfold nd
      by_cases c1:(rd_T55 N i).f0<0
      · refine ev_pos c1 ?_
        rw [if_neg (by simp;omega)]
        exact Ev.now _
      · refine ev_neg c1 ?_
        by_cases c2:(rd_T55 N i).f0≥24
        · refine ev_pos c2 ?_
          rw [if_neg (by simp;omega)]
          exact Ev.now _
        · refine ev_neg c2 ?_
          by_cases c3:(rd_T55 N i).f3=0
          · rw [if_pos (by simp;omega),hfin]
            refine ev_pos c3 (Ev.bind (Ev.now [(rd_T55 N i).f1,(rd_T55 N i).f2]) ?_)
            exact inner_loop l N hn i [(rd_T55 N i).f1,(rd_T55 N i).f2] (by simp) _ (fun M' hM'=>by rw [hw];exact ih M' hM') 2 0 M rfl hM
          · rw [if_neg (by simp;omega)]
            exact ev_neg c3 (Ev.now _)
def shpB (L:Nat) (N:List S55):Bool:=decide (1≤N.length)&&decide (N.length≤2000)&&fin (shp L N.length N 0 (List.replicate N.length false))
theorem shape_ev (l:List S35) (hL:l.length≤1000) (N:List S55):Ev (fun k=>solve_shape.f k l N) (shpB l.length N):=by
  unfold shpB
  by_cases h0:(N.length:Int)=0
  · refine ev_pos h0 ?_
    rw [decide_eq_false (show ¬ 1≤N.length by omega),Bool.false_and,Bool.false_and]
    exact Ev.now _
  · refine ev_neg h0 ?_
    by_cases h1:(N.length:Int)>2000
    · refine ev_pos h1 ?_
      rw [decide_eq_false (show ¬ N.length≤2000 by omega),Bool.and_false,Bool.false_and]
      exact Ev.now _
    · refine ev_neg h1 (ev_pos (by omega) (ev_pos (by omega) ?_))
      rw [decide_eq_true (show 1≤N.length by omega),decide_eq_true (show N.length≤2000 by omega),Bool.true_and,Bool.true_and,Int.toNat_natCast]
      have h:=shape_loop l hL N (by omega) (by omega) N.length 0 (List.replicate N.length false) (by omega) (by simp)
      rwa [List.drop_zero] at h
def vis (l:List S35) (N:List S55):Nat→Nat→Nat→Nat→Option (List Nat)
  | 0,_,_,_=>none
  | k+1,p,C,V=>if p<N.length then (if (rd_T55 N p).f0=-1 then (if lf l.length (rd_T55 N p)=true∧fl (rd_T35 l (rd_T55 N p).f3) C V=true then some [p] else none)
    else if nd (rd_T55 N p)=true∧(p:Int)<(rd_T55 N p).f1∧(p:Int)<(rd_T55 N p).f2∧C.testBit (rd_T55 N p).f0.toNat=false then
      (vis l N k (rd_T55 N p).f1.toNat (wC C (rd_T55 N p).f0) (wV V (rd_T55 N p).f0 false)).bind fun a=>(vis l N k (rd_T55 N p).f2.toNat (wC C (rd_T55 N p).f0) (wV V (rd_T55 N p).f0 true)).bind fun b=>some (p :: (a++b)) else none) else none
theorem bit_of (C:Nat) (hC:C<2 ^ 24) (v:Int) (h0:0≤v) (h1:v<24):Go.bits .and .i64 (shr .i64 (C:Int) v) 1=(((C.testBit v.toNat).toNat:Nat):Int):=by
  have e1:shr .i64 (C:Int) v=((C / 2 ^ v.toNat:Nat):Int):=by
    obtain ⟨n,rfl⟩:∃ n:Nat,v=n:=⟨v.toNat,nat_of h0⟩
    unfold shr
    rw [show IntKind.i64.bits=64 from rfl,show min ((n:Int)).toNat 64=n by omega]
    simp
  rw [e1]
  have hd:C / 2 ^ v.toNat<2 ^ 62:=Nat.lt_of_le_of_lt (Nat.div_le_self _ _) (p62 hC (by decide))
  have:=(bits_nat .i64 62 (by decide) w62 (C / 2 ^ v.toNat) 1 hd (by decide)).1
  rw [Nat.and_one_is_mod,← Nat.toNat_testBit] at this
  exact this
theorem ov_rd {l:List S35} (h:VS l) {i:Int} (h0:0≤i) (h1:i<(l.length:Int)):VT (rd_T35 l i).f0 (rd_T35 l i).f1:=by
  have:=rdT_mem l i.toNat (by omega)
  rw [← nat_of h0] at this
  exact h.tab _ this
def Flds (L:Nat) (N:List S55):Prop:=∀ i:Nat,i<N.length→((rd_T55 N i).f0=-1→lf L (rd_T55 N i)=true)∧((rd_T55 N i).f0≠-1→nd (rd_T55 N i)=true∧(i:Int)<(rd_T55 N i).f1∧(rd_T55 N i).f1<(N.length:Int)∧(i:Int)<(rd_T55 N i).f2∧(rd_T55 N i).f2<(N.length:Int))
theorem lf_iff (L:Nat) (b:S55):lf L b=true↔b.f1=0∧b.f2=0∧0≤b.f3∧b.f3<(L:Int):=by unfold lf;simp [and_assoc]
theorem nd_iff (b:S55):nd b=true↔0≤b.f0∧b.f0<24∧b.f3=0:=by unfold nd;simp [and_assoc]
theorem right_ev {l:List S35} (h:VS l) {N:List S55} (hF:Flds l.length N):∀ (d p C V:Nat),p<N.length→N.length≤p+d→C<2 ^ 24→V<2 ^ 24→
    Ev (fun k=>solve_right.f k l N p (C:Int) (V:Int)) (vis l N d p C V).isSome
  | 0,p,C,V,hp,hd,hC,hV=>by omega
  | d+1,p,C,V,hp,hd,hC,hV=>by
    have hf:=hF p hp
    rw [vis,if_pos hp]
    refine Ev.step (fun k=>by rw [solve_right.f,if_pos (by omega),if_pos (by omega)]) ?_
    by_cases c0:(rd_T55 N p).f0=-1
    · have h1:=(lf_iff _ _).1 (hf.1 c0)
      rw [if_pos c0]
      refine ev_pos (by omega) ?_
      refine ev_pos h1.2.2.1 ?_
      refine ev_pos h1.2.2.2 ?_
      refine Ev.bind (fails_ev (ov_rd h h1.2.2.1 h1.2.2.2) C V hC hV) ?_
      refine ev_eq (Ev.now _) ?_
      by_cases e:fl (rd_T35 l (rd_T55 N p).f3) C V=true
      · rw [if_pos ⟨hf.1 c0,e⟩,e];rfl
      · rw [if_neg (fun e'=>e e'.2),(Bool.not_eq_true _).mp e];rfl
    · obtain ⟨h1,h2,h3,h4,h5⟩:=hf.2 c0
      have h1':=(nd_iff _).1 h1
      have wl:=wC_lt hC h1'.1 h1'.2.1
      have wv:=fun b=>wV_lt b hV h1'.1 h1'.2.1
      rw [if_neg c0]
      refine ev_neg (by omega) ?_
      refine ev_pos h1'.1 ?_
      rw [bit_of C hC _ h1'.1 h1'.2.1]
      cases e:C.testBit (rd_T55 N p).f0.toNat
      · rw [if_pos ⟨h1,h2,h4,rfl⟩]
        refine ev_pos rfl ?_
        have w:=fun b=>with_eq b hC hV h1'.1 h1'.2.1
        refine Ev.bind (show Ev (fun _=>solve_choices_with.f (C:Int) (V:Int) (rd_T55 N p).f0 0) _ from (w false) ▸ Ev.now _) ?_
        have i1:=right_ev h hF d (rd_T55 N p).f1.toNat _ _ (by omega) (by omega) wl (wv false)
        rw [← nat_of (by omega:0≤(rd_T55 N p).f1)] at i1
        refine Ev.bind i1 ?_
        cases v1:vis l N d (rd_T55 N p).f1.toNat (wC C (rd_T55 N p).f0) (wV V (rd_T55 N p).f0 false) with
        | none=>
          refine ev_neg (by decide) ?_
          exact Ev.now _
        | some a=>
          refine ev_pos rfl ?_
          refine Ev.bind (show Ev (fun _=>solve_choices_with.f (C:Int) (V:Int) (rd_T55 N p).f0 1) _ from (w true) ▸ Ev.now _) ?_
          have i2:=right_ev h hF d (rd_T55 N p).f2.toNat _ _ (by omega) (by omega) wl (wv true)
          rw [← nat_of (by omega:0≤(rd_T55 N p).f2)] at i2
          refine Ev.bind i2 ?_
          refine ev_eq (Ev.now _) ?_
          cases v2:vis l N d (rd_T55 N p).f2.toNat (wC C (rd_T55 N p).f0) (wV V (rd_T55 N p).f0 true) <;> simp [v2]
      · rw [if_neg (by rintro ⟨_,_,_,h⟩;cases h)]
        refine ev_neg (by decide) ?_
        exact Ev.now _
theorem mrk_bounds (n i:Nat):∀ (ks:List Int) (M M':List Bool),mrk n i ks M=some M'→∀ k,k∈ks→(i:Int)<k∧k<(n:Int)
  | [],_,_,_=>fun _ hk=>by cases hk
  | x :: ks,M,M',h=>fun k hk=>by
    rw [mrk] at h
    split at h
    · next hc=>
      rcases List.mem_cons.1 hk with rfl|hk
      · exact ⟨hc.1,hc.2.1⟩
      · exact mrk_bounds n i ks _ _ h k hk
    · cases h
theorem shp_flds (L:Nat) (N:List S55):∀ (d i:Nat) (M M':List Bool),i+d=N.length→shp L N.length (N.drop i) i M=some M'→∀ j:Nat,i≤j→j<N.length→((rd_T55 N j).f0=-1→lf L (rd_T55 N j)=true)∧((rd_T55 N j).f0≠-1→nd (rd_T55 N j)=true∧(j:Int)<(rd_T55 N j).f1∧(rd_T55 N j).f1<(N.length:Int)∧(j:Int)<(rd_T55 N j).f2∧(rd_T55 N j).f2<(N.length:Int))
  | 0,i,M,M',h,hs=>fun j h1 h2=>by omega
  | d+1,i,M,M',h,hs=>fun j h1 h2=>by
    have hi:i<N.length:=by omega
    rw [rdN_at N i hi,shp] at hs
    by_cases c0:(rd_T55 N i).f0=-1
    · rw [if_pos c0] at hs
      by_cases c1:lf L (rd_T55 N i)=true
      · rw [if_pos c1] at hs
        by_cases e:j=i
        · subst e;exact ⟨fun _=>c1,fun c=>absurd c0 c⟩
        · exact shp_flds L N d (i+1) M M' (by omega) hs j (by omega) h2
      · rw [if_neg c1] at hs;cases hs
    · rw [if_neg c0] at hs
      by_cases c1:nd (rd_T55 N i)=true
      · rw [if_pos c1] at hs
        cases e2:mrk N.length i [(rd_T55 N i).f1,(rd_T55 N i).f2] M with
        | none=>rw [e2] at hs;cases hs
        | some M1=>
          rw [e2] at hs
          by_cases e:j=i
          · subst e
            have b:=mrk_bounds _ _ _ _ _ e2
            have b1:=b _ (.head _)
            have b2:=b _ (.tail _ (.head _))
            exact ⟨fun c=>absurd c c0,fun _=>⟨c1,b1.1,b1.2,b2.1,b2.2⟩⟩
          · exact shp_flds L N d (i+1) M1 M' (by omega) hs j (by omega) h2
      · rw [if_neg c1] at hs;cases hs
def chk1 (l:List S35) (N:List S55):Bool:=if sysv l=0 then shpB l.length N&&(vis l N N.length 0 0 0).isSome else false
theorem scheck_ev (l:List S35) (hs:Sm l) (hl:l.length≤1000) (N:List S55):Ev (fun k=>solve_Check.f k l N) (chk1 l N):=by
  refine Ev.bind (svalid_ev l hs hl) ?_
  unfold chk1
  refine ev_ite (fun h=>?_) (fun h=>Ev.now _)
  have hv:=(sysv_VS l).1 h
  refine Ev.bind (shape_ev l hl N) ?_
  cases e:shpB l.length N
  · refine ev_neg (by decide) ?_
    exact Ev.now _
  · refine ev_pos rfl ?_
    unfold shpB at e
    simp only [Bool.and_eq_true,decide_eq_true_iff] at e
    cases e2:shp l.length N.length N 0 (List.replicate N.length false) with
    | none=>rw [e2] at e;simp [fin] at e
    | some M=>
      have hF:Flds l.length N:=fun j hj=>shp_flds l.length N N.length 0 _ M (by omega) (by rw [List.drop_zero];exact e2) j (by omega) hj
      refine Ev.bind (right_ev hv hF N.length 0 0 0 (by omega) (by omega) (by decide) (by decide)) ?_
      rw [Bool.true_and]
      exact Ev.now _

theorem same_loop (N:List S55) (hn:N.length≤3000):∀ (d i:Nat),i+d=N.length→Ev (fun k=>ancepsref40_Same.l0 k i N N) true
  | 0,i,h=>by
    refine Ev.step (fun k=>by rw [ancepsref40_Same.l0,if_neg (by omega)]) ?_
    exact Ev.now _
  | d+1,i,h=>by
    have hi:i<N.length:=by omega
    have hw:=wrap_succ i N.length hi (by omega)
    refine Ev.step (fun k=>by rw [ancepsref40_Same.l0,if_pos (by omega),if_pos (by omega),if_pos (by omega),hw]) ?_
    refine ev_neg (by simp) ?_
    exact same_loop N hn d (i+1) (by omega)
def chN (b:S55):List Nat:=if b.f0=-1 then [] else [b.f1.toNat,b.f2.toNat]
def chA (N:List S55) (i:Nat):List Nat:=chN (rd_T55 N i)
def Fld (L:Nat) (N:List S55) (i:Nat):Prop:=((rd_T55 N i).f0=-1→lf L (rd_T55 N i)=true)∧((rd_T55 N i).f0≠-1→nd (rd_T55 N i)=true∧(i:Int)<(rd_T55 N i).f1∧(rd_T55 N i).f1<(N.length:Int)∧(i:Int)<(rd_T55 N i).f2∧(rd_T55 N i).f2<(N.length:Int))
theorem Fld.ch {L:Nat} {N:List S55} {i:Nat} (h:Fld L N i):∀ c,c∈chA N i→i<c∧c<N.length:=by
  intro c hc
  unfold chA chN at hc
  by_cases e:(rd_T55 N i).f0=-1
  · rw [if_pos e] at hc;cases hc
  · rw [if_neg e] at hc
    have:=h.2 e
    rcases List.mem_cons.1 hc with rfl|hc
    · omega
    · rw [List.mem_singleton] at hc
      subst hc
      omega
theorem vis_spec (l:List S35) (N:List S55):∀ (k p C V:Nat) (Q:List Nat),vis l N k p C V=some Q→
    p<N.length∧(∀ j,j∈Q→p≤j∧j<N.length∧Fld l.length N j)∧Q.Perm (p :: Q.flatMap (chA N))
  | 0,_,_,_,_,h=>by simp [vis] at h
  | k+1,p,C,V,Q,h=>by
    rw [vis] at h
    by_cases hp:p<N.length
    · rw [if_pos hp] at h
      by_cases c0:(rd_T55 N p).f0=-1
      · rw [if_pos c0] at h
        by_cases c1:lf l.length (rd_T55 N p)=true∧fl (rd_T35 l (rd_T55 N p).f3) C V=true
        · rw [if_pos c1] at h
          obtain rfl:=(Option.some.inj h).symm
          refine ⟨hp,fun j hj=>?_,?_⟩
          · rw [List.mem_singleton] at hj
            subst hj
            exact ⟨Nat.le_refl _,hp,fun _=>c1.1,fun c=>absurd c0 c⟩
          · rw [List.flatMap_singleton]
            unfold chA chN
            rw [if_pos c0]
        · rw [if_neg c1] at h;cases h
      · rw [if_neg c0] at h
        by_cases c1:nd (rd_T55 N p)=true∧(p:Int)<(rd_T55 N p).f1∧(p:Int)<(rd_T55 N p).f2∧C.testBit (rd_T55 N p).f0.toNat=false
        · rw [if_pos c1] at h
          cases e1:vis l N k (rd_T55 N p).f1.toNat (wC C (rd_T55 N p).f0) (wV V (rd_T55 N p).f0 false) with
          | none=>rw [e1] at h;cases h
          | some a=>
            rw [e1,Option.bind_some] at h
            cases e2:vis l N k (rd_T55 N p).f2.toNat (wC C (rd_T55 N p).f0) (wV V (rd_T55 N p).f0 true) with
            | none=>rw [e2] at h;cases h
            | some b=>
              rw [e2,Option.bind_some] at h
              obtain rfl:=(Option.some.inj h).symm
              obtain ⟨a1,a2,a3⟩:=vis_spec l N k _ _ _ a e1
              obtain ⟨b1,b2,b3⟩:=vis_spec l N k _ _ _ b e2
              refine ⟨hp,fun j hj=>?_,?_⟩
              · rcases List.mem_cons.1 hj with rfl|hj
                · exact ⟨Nat.le_refl _,hp,fun c=>absurd c c0,fun _=>⟨c1.1,c1.2.1,by omega,c1.2.2.1,by omega⟩⟩
                · rcases List.mem_append.1 hj with hj|hj
                  · have:=a2 j hj
                    exact ⟨by omega,this.2⟩
                  · have:=b2 j hj
                    exact ⟨by omega,this.2⟩
              · refine List.Perm.cons _ ?_
                rw [List.flatMap_cons,List.flatMap_append]
                have hc:chA N p=[(rd_T55 N p).f1.toNat,(rd_T55 N p).f2.toNat]:=by unfold chA chN;rw [if_neg c0]
                rw [hc]
                refine (a3.append b3).trans ?_
                show ((rd_T55 N p).f1.toNat :: (a.flatMap (chA N)++(rd_T55 N p).f2.toNat :: b.flatMap (chA N))).Perm ((rd_T55 N p).f1.toNat :: (rd_T55 N p).f2.toNat :: (a.flatMap (chA N)++b.flatMap (chA N)))
                exact List.Perm.cons _ List.perm_middle
        · rw [if_neg c1] at h;cases h
    · rw [if_neg hp] at h;cases h
theorem mrk_some (n i:Nat):∀ (ks:List Int) (M M':List Bool),M.length=n→mrk n i ks M=some M'→(ks.map Int.toNat).Nodup∧(∀ k,k∈ks→rdOf false M k=false)∧∀ j:Nat,rdOf false M' (j:Int)=(rdOf false M (j:Int)||decide (j∈ks.map Int.toNat))
  | [],M,M',hM,h=>by
    simp only [mrk,Option.some.injEq] at h
    subst h
    exact ⟨List.nodup_nil,(fun _ hk=>by cases hk),(fun j=>by rw [List.map_nil];simp)⟩
  | x :: ks,M,M',hM,h=>by
    rw [mrk] at h
    split at h
    · next hc=>
      obtain ⟨h1,h2,h3⟩:=mrk_some n i ks _ M' (by rw [List.length_set];exact hM) h
      have hx:x=((x.toNat:Nat):Int):=nat_of (by omega)
      have hb:=mrk_bounds n i ks _ _ h
      have hset:∀ j:Nat,rdOf false (M.set x.toNat true) (j:Int)=if x.toNat=j then true else rdOf false M (j:Int):=fun j=>rdb_set _ _ _ _ (by omega)
      refine ⟨?_,?_,?_⟩
      · rw [List.map_cons,List.nodup_cons]
        refine ⟨fun hm=>?_,h1⟩
        obtain ⟨y,hy,e⟩:=List.mem_map.1 hm
        have:=h2 y hy
        have hy0:=hb y hy
        rw [nat_of (by omega:0≤y),hset,if_pos e.symm] at this
        cases this
      · intro k hk
        rcases List.mem_cons.1 hk with rfl|hk
        · exact hc.2.2
        · have:=h2 k hk
          have hk0:=hb k hk
          rw [nat_of (by omega:0≤k),hset] at this
          rw [nat_of (by omega:0≤k)]
          split at this
          · cases this
          · exact this
      · intro j
        rw [h3 j,hset,List.map_cons]
        by_cases e:x.toNat=j
        · rw [if_pos e];simp [e]
        · rw [if_neg e]
          congr 1
          rw [Bool.eq_iff_iff]
          simp
          omega
    · cases h
theorem mrk_ex (n i:Nat):∀ (ks:List Int) (M:List Bool),M.length=n→(∀ k,k∈ks→(i:Int)<k∧k<(n:Int))→(ks.map Int.toNat).Nodup→(∀ k,k∈ks→rdOf false M k=false)→∃ M',mrk n i ks M=some M'
  | [],M,_,_,_,_=>⟨M,rfl⟩
  | x :: ks,M,hM,hb,hn,hu=>by
    have hx:=hb x (.head _)
    rw [List.map_cons,List.nodup_cons] at hn
    rw [mrk,if_pos ⟨hx.1,hx.2,hu x (.head _)⟩]
    refine mrk_ex n i ks _ (by rw [List.length_set];exact hM) (fun k hk=>hb k (.tail _ hk)) hn.2 (fun k hk=>?_)
    have hk0:=hb k (.tail _ hk)
    rw [nat_of (by omega:0≤k),rdb_set _ _ _ _ (by omega)]
    split
    · next e=>exact absurd (List.mem_map.2 ⟨k,hk,e.symm⟩) hn.1
    · rw [← nat_of (by omega:0≤k)];exact hu k (.tail _ hk)
theorem shp_some (L:Nat) (N:List S55):∀ (d i:Nat) (M M':List Bool),i+d=N.length→M.length=N.length→shp L N.length (N.drop i) i M=some M'→
    M'.length=N.length∧((List.range' i d).flatMap (chA N)).Nodup∧(∀ j,j∈(List.range' i d).flatMap (chA N)→rdOf false M (j:Int)=false)∧∀ j:Nat,rdOf false M' (j:Int)=(rdOf false M (j:Int)||decide (j∈(List.range' i d).flatMap (chA N)))
  | 0,i,M,M',h,hM,hs=>by
    rw [List.drop_eq_nil_of_le (by omega)] at hs
    simp only [shp,Option.some.injEq] at hs
    subst hs
    exact ⟨hM,by simp,by simp,by simp⟩
  | d+1,i,M,M',h,hM,hs=>by
    have hi:i<N.length:=by omega
    rw [rdN_at N i hi,shp] at hs
    rw [List.range'_succ,List.flatMap_cons]
    by_cases c0:(rd_T55 N i).f0=-1
    · rw [if_pos c0] at hs
      split at hs
      · have hc:chA N i=[]:=by unfold chA chN;rw [if_pos c0]
        rw [hc,List.nil_append]
        exact shp_some L N d (i+1) M M' (by omega) hM hs
      · cases hs
    · rw [if_neg c0] at hs
      split at hs
      · have hc:chA N i=[(rd_T55 N i).f1,(rd_T55 N i).f2].map Int.toNat:=by unfold chA chN;rw [if_neg c0];rfl
        cases e2:mrk N.length i [(rd_T55 N i).f1,(rd_T55 N i).f2] M with
        | none=>rw [e2] at hs;cases hs
        | some M1=>
          rw [e2,Option.bind_some] at hs
          have hM1:M1.length=N.length:=by rw [mrk_len _ _ _ _ _ e2];exact hM
          obtain ⟨m1,m2,m3⟩:=mrk_some _ _ _ _ _ hM e2
          have mb:=mrk_bounds _ _ _ _ _ e2
          obtain ⟨s0,s1,s2,s3⟩:=shp_some L N d (i+1) M1 M' (by omega) hM1 hs
          rw [← hc] at m1 m3
          refine ⟨s0,?_,?_,?_⟩
          · rw [List.nodup_append]
            refine ⟨m1,s1,fun a ha b hb e=>?_⟩
            subst e
            have:=s2 a hb
            rw [m3,decide_eq_true ha,Bool.or_true] at this
            cases this
          · intro j hj
            rcases List.mem_append.1 hj with hj|hj
            · rw [hc] at hj
              obtain ⟨x,hx,rfl⟩:=List.mem_map.1 hj
              have:=mb x hx
              rw [← nat_of (by omega:0≤x)]
              exact m2 x hx
            · have:=s2 j hj
              rw [m3] at this
              simp at this
              exact this.1
          · intro j
            rw [s3 j,m3 j,Bool.or_assoc]
            congr 1
            rw [Bool.eq_iff_iff]
            simp [List.mem_append]
      · cases hs
theorem shp_ex (L:Nat) (N:List S55) (hF:∀ i,i<N.length→Fld L N i):∀ (d i:Nat) (M:List Bool),i+d=N.length→M.length=N.length→((List.range' i d).flatMap (chA N)).Nodup→(∀ j,j∈(List.range' i d).flatMap (chA N)→rdOf false M (j:Int)=false)→∃ M',shp L N.length (N.drop i) i M=some M'
  | 0,i,M,h,hM,_,_=>⟨M,by rw [List.drop_eq_nil_of_le (by omega)];rfl⟩
  | d+1,i,M,h,hM,hn,hu=>by
    have hi:i<N.length:=by omega
    rw [rdN_at N i hi,shp]
    rw [List.range'_succ,List.flatMap_cons] at hn hu
    rw [List.nodup_append] at hn
    by_cases c0:(rd_T55 N i).f0=-1
    · rw [if_pos c0,if_pos ((hF i hi).1 c0)]
      exact shp_ex L N hF d (i+1) M (by omega) hM hn.2.1 (fun j hj=>hu j (List.mem_append_right _ hj))
    · have hf:=(hF i hi).2 c0
      have hc:chA N i=[(rd_T55 N i).f1,(rd_T55 N i).f2].map Int.toNat:=by unfold chA chN;rw [if_neg c0];rfl
      rw [if_neg c0,if_pos hf.1]
      have hb:∀ k,k∈[(rd_T55 N i).f1,(rd_T55 N i).f2]→(i:Int)<k∧k<(N.length:Int):=fun k hk=>by
        rcases List.mem_cons.1 hk with rfl|hk
        · omega
        · rw [List.mem_singleton] at hk;subst hk;omega
      obtain ⟨M1,e1⟩:=mrk_ex N.length i [(rd_T55 N i).f1,(rd_T55 N i).f2] M hM hb (by rw [← hc];exact hn.1) (fun k hk=>by
        have:=hb k hk
        rw [nat_of (by omega:0≤k)]
        exact hu _ (List.mem_append_left _ (by rw [hc];exact List.mem_map.2 ⟨k,hk,rfl⟩)))
      obtain ⟨_,_,m3⟩:=mrk_some _ _ _ _ _ hM e1
      rw [e1,Option.bind_some]
      refine shp_ex L N hF d (i+1) M1 (by omega) (by rw [mrk_len _ _ _ _ _ e1];exact hM) hn.2.1 (fun j hj=>?_)
      rw [m3,hu j (List.mem_append_right _ hj),Bool.false_or,decide_eq_false_iff_not,← hc]
      exact fun hm=>hn.2.2 j hm j hj rfl
def slots (N:List S55):List Nat:=(List.range N.length).flatMap (chA N)
theorem shpB_iff (L:Nat) (N:List S55):shpB L N=true↔1≤N.length∧N.length≤2000∧(∀ i,i<N.length→Fld L N i)∧(slots N).Nodup∧∀ j,1≤j→j<N.length→j∈slots N:=by
  unfold shpB slots
  rw [List.range_eq_range']
  have h0:∀ j:Nat,rdOf false (List.replicate N.length false) (j:Int)=false:=fun j=>by rw [rdOf,List.getD,Int.toNat_natCast,List.getElem?_replicate];split <;> rfl
  have hfin:∀ M:List Bool,M.length=N.length→(fin (some M)=true↔∀ j,1≤j→j<N.length→rdOf false M (j:Int)=true):=fun M hM=>by
    have hg:∀ j (hj:j<M.length),rdOf false M (j:Int)=M[j]:=fun j hj=>by rw [rdOf,List.getD,Int.toNat_natCast,List.getElem?_eq_getElem hj,Option.getD_some]
    simp only [fin]
    rw [List.all_eq_true]
    constructor
    · intro h j h1 h2
      rw [hg j (by omega)]
      have:=h M[j] (List.mem_iff_getElem.2 ⟨j - 1,by rw [List.length_drop];omega,by rw [List.getElem_drop];congr 1;omega⟩)
      simpa using this
    · intro h x hx
      obtain ⟨j,hj,e⟩:=List.getElem_of_mem hx
      rw [List.length_drop] at hj
      rw [List.getElem_drop] at e
      have:=h (1+j) (by omega) (by omega)
      rw [hg (1+j) (by omega),e] at this
      simpa using this
  simp only [Bool.and_eq_true,decide_eq_true_iff]
  constructor
  · rintro ⟨⟨h1,h2⟩,h3⟩
    cases e:shp L N.length N 0 (List.replicate N.length false) with
    | none=>rw [e] at h3;cases h3
    | some M=>
      rw [e] at h3
      obtain ⟨s0,s1,s2,s3⟩:=shp_some L N N.length 0 _ M (by omega) List.length_replicate (by rw [List.drop_zero];exact e)
      refine ⟨h1,h2,fun i hi=>shp_flds L N N.length 0 _ M (by omega) (by rw [List.drop_zero];exact e) i (by omega) hi,s1,fun j k1 k2=>?_⟩
      have:=(hfin M s0).1 h3 j k1 k2
      rw [s3,h0,Bool.false_or,decide_eq_true_iff] at this
      exact this
  · rintro ⟨h1,h2,hF,hn,hc⟩
    obtain ⟨M,e⟩:=shp_ex L N hF N.length 0 (List.replicate N.length false) (by omega) (by simp) hn (fun j _=>h0 j)
    obtain ⟨s0,s1,s2,s3⟩:=shp_some L N N.length 0 _ M (by omega) (by simp) e
    rw [List.drop_zero] at e
    rw [e]
    refine ⟨⟨h1,h2⟩,(hfin M s0).2 (fun j k1 k2=>?_)⟩
    rw [s3,h0,Bool.false_or,decide_eq_true_iff]
    exact hc j k1 k2
theorem fm_uniq {f:Nat→List Nat}:∀ {l:List Nat},(l.flatMap f).Nodup→∀ i i' j,i∈l→i'∈l→j∈f i→j∈f i'→i=i'
  | [],_,_,_,_,h,_,_,_=>by cases h
  | x :: l,hn,i,i',j,h,h',e,e'=>by
    rw [List.flatMap_cons,List.nodup_append] at hn
    rcases List.mem_cons.1 h with h1|h1
    · rcases List.mem_cons.1 h' with h2|h2
      · rw [h1,h2]
      · rw [h1] at e
        exact absurd rfl (hn.2.2 j e j (List.mem_flatMap.2 ⟨i',h2,e'⟩))
    · rcases List.mem_cons.1 h' with h2|h2
      · rw [h2] at e'
        exact absurd rfl (hn.2.2 j e' j (List.mem_flatMap.2 ⟨i,h1,e⟩))
      · exact fm_uniq hn.2.1 i i' j h1 h2 e e'
theorem fm_nodup {f:Nat→List Nat}:∀ {l:List Nat},(l.flatMap f).Nodup→∀ i,i∈l→(f i).Nodup
  | [],_,_,h=>by cases h
  | x :: l,hn,i,h=>by
    rw [List.flatMap_cons,List.nodup_append] at hn
    rcases List.mem_cons.1 h with rfl|h
    · exact hn.1
    · exact fm_nodup hn.2.1 i h
theorem fm_count {f:Nat→List Nat} {i j:Nat} (h1:(f i).count j≤1):∀ {l:List Nat},(∀ x,x∈l→x≠i→j∉f x)→(l.flatMap f).count j≤l.count i
  | [],_=>by simp
  | x :: l,h=>by
    rw [List.flatMap_cons,List.count_append,List.count_cons]
    have ih:=fm_count h1 (l:=l) (fun y hy=>h y (.tail _ hy))
    by_cases e:x=i
    · subst e
      simp
      omega
    · have:=List.count_eq_zero.2 (h x (.head _) e)
      omega
theorem walk_iff (l:List S35) (N:List S55):(shpB l.length N&&(vis l N N.length 0 0 0).isSome)=true↔1≤N.length∧N.length≤2000∧∃ Q,vis l N N.length 0 0 0=some Q∧Q.Nodup∧∀ j,j<N.length→j∈Q:=by
  rw [Bool.and_eq_true,shpB_iff]
  constructor
  · rintro ⟨⟨h1,h2,hF,hn,hc⟩,hv⟩
    obtain ⟨Q,e⟩:=Option.isSome_iff_exists.1 hv
    obtain ⟨q0,q1,q2⟩:=vis_spec _ _ _ _ _ _ _ e
    refine ⟨h1,h2,Q,e,?_,?_⟩
    · rw [List.nodup_iff_count]
      intro a
      induction a using Nat.strongRecOn with
      | _ a ih=>
        rw [q2.count_eq a,List.count_cons]
        by_cases ha:a=0
        · subst ha
          have:(Q.flatMap (chA N)).count 0=0:=List.count_eq_zero.2 (fun hm=>by
            obtain ⟨x,hx,hm⟩:=List.mem_flatMap.1 hm
            have:=(q1 x hx).2.2.ch 0 hm
            omega)
          rw [this]
          simp
        · have e0:(if (0 == a)=true then 1 else 0)=0:=by simp;omega
          rw [e0,Nat.add_zero]
          by_cases hm:a∈Q.flatMap (chA N)
          · obtain ⟨i,hi,hm⟩:=List.mem_flatMap.1 hm
            have hi':=q1 i hi
            have hlt:=hi'.2.2.ch a hm
            have hin:i∈List.range N.length:=List.mem_range.2 hi'.2.1
            have hc1:(chA N i).count a≤1:=List.nodup_iff_count.1 (fm_nodup hn i hin) a
            refine Nat.le_trans (fm_count hc1 (fun x hx hne hm'=>?_)) (ih i hlt.1)
            exact hne (fm_uniq hn x i a (List.mem_range.2 (q1 x hx).2.1) hin hm' hm)
          · rw [List.count_eq_zero.2 hm];omega
    · intro j
      induction j using Nat.strongRecOn with
      | _ j ih=>
        intro hj
        rw [q2.mem_iff]
        by_cases e0:j=0
        · subst e0;exact .head _
        · obtain ⟨i,hi,hm⟩:=List.mem_flatMap.1 (hc j (by omega) hj)
          have hi':=List.mem_range.1 hi
          have:=(hF i hi').ch j hm
          exact .tail _ (List.mem_flatMap.2 ⟨i,ih i this.1 hi',hm⟩)
  · rintro ⟨h1,h2,Q,e,hn,hc⟩
    obtain ⟨q0,q1,q2⟩:=vis_spec _ _ _ _ _ _ _ e
    have hp:Q.Perm (List.range N.length):=(List.perm_ext_iff_of_nodup hn List.nodup_range).2 (fun a=>⟨fun ha=>List.mem_range.2 (q1 a ha).2.1,fun ha=>hc a (List.mem_range.1 ha)⟩)
    have hq:Q.Perm (0 :: slots N):=q2.trans (List.Perm.cons _ (List.Perm.flatMap_right _ hp))
    have hn':=(hq.nodup_iff).1 hn
    refine ⟨⟨h1,h2,fun i hi=>(q1 i (hc i hi)).2.2,(List.nodup_cons.1 hn').2,fun j k1 k2=>?_⟩,by rw [e];rfl⟩
    have:=hq.mem_iff.1 (hc j k2)
    rcases List.mem_cons.1 this with h|h
    · omega
    · exact h

theorem sub_step {C V:Nat} (hs:∀ j,V.testBit j=true→C.testBit j=true) (v:Int) (b:Bool):∀ j,(wV V v b).testBit j=true→(wC C v).testBit j=true:=fun j hj=>by
  rw [wV_bit] at hj
  rw [wC_bit]
  by_cases e:v.toNat=j
  · simp [e]
  · simp [e] at hj
    rw [hs j hj];rfl
theorem below_ev {l:List S35} (h:VS l) (N:List S55) (hn:N.length≤2000):∀ (d p C V:Nat) (M:List Bool),N.length≤p+d→M.length=N.length→C<2 ^ 24→V<2 ^ 24→(∀ j,V.testBit j=true→C.testBit j=true)→
    ∃ r:Bool×List Bool,Ev (fun k=>ancepsref40_below.f k l N p (C:Int) (V:Int) M) r∧r.2.length=N.length∧(r.1=true→∃ Q,vis l N d p C V=some Q∧Q.Nodup∧(∀ j,j∈Q→rdOf false M (j:Int)=false)∧∀ j:Nat,rdOf false r.2 (j:Int)=(rdOf false M (j:Int)||decide (j∈Q)))∧
      (r.1=false→∀ Q,vis l N d p C V=some Q→Q.Nodup→¬ ∀ j,j∈Q→rdOf false M (j:Int)=false)
  | d,p,C,V,M,hd,hM,hC,hV,hs=>by
    by_cases hp:p<N.length
    case neg=>
      refine ⟨(false,M),?_,hM,by simp,fun _ Q hQ=>absurd (vis_spec _ _ _ _ _ _ _ hQ).1 hp⟩
      refine Ev.step (fun k=>by rw [ancepsref40_below.f]) ?_
      refine ev_neg (by omega) ?_
      refine ev_pos (by omega) ?_
      exact Ev.now _
    obtain ⟨d,rfl⟩:∃ d',d=d'+1:=⟨d - 1,by omega⟩
    cases hm:rdOf false M (p:Int)
    case true=>
      refine ⟨(false,M),?_,hM,by simp,fun _ Q hQ _ hu=>?_⟩
      · refine Ev.step (fun k=>by rw [ancepsref40_below.f,hm]) ?_
        refine ev_neg (by omega) ?_
        refine ev_neg (by omega) ?_
        refine ev_pos (by omega) ?_
        refine ev_pos (by omega) ?_
        exact ev_pos rfl (Ev.now _)
      · have:=hu p ((vis_spec _ _ _ _ _ _ _ hQ).2.2.mem_iff.2 (.head _))
        rw [hm] at this;cases this
    have hset:∀ j:Nat,rdOf false (M.set p true) (j:Int)=if p=j then true else rdOf false M (j:Int):=fun j=>rdb_set _ _ _ _ (by omega)
    have hin:∀ r,Ev (fun k=>if (rd_T55 N p).f0=(-1) then (if (rd_T55 N p).f1=0 then (if (rd_T55 N p).f2=0 then (if (rd_T55 N p).f3≥0 then (if (rd_T55 N p).f3<(l.length:Int) then (if 0≤(rd_T55 N p).f3 then ((ancepsref40_fails.f k ((rd_T35 l ((rd_T55 N p).f3)).f0) ((rd_T35 l ((rd_T55 N p).f3)).f1) C V).bind fun t586=>(some (t586,M.set p true))) else (none)) else (some (false,M.set p true))) else (some (false,M.set p true))) else (some (false,M.set p true))) else (some (false,M.set p true))) else (if ((rd_T55 N p).f0)<0 then (some (false,M.set p true)) else (if ((rd_T55 N p).f0)>23 then (some (false,M.set p true)) else (if ((rd_T55 N p).f3)=0 then (if ((rd_T55 N p).f1)≤(p:Int) then (some (false,M.set p true)) else (if ((rd_T55 N p).f2)≤(p:Int) then (some (false,M.set p true)) else (if 0≤((rd_T55 N p).f0) then (if (Go.bits .and .i64 (shr .i64 C ((rd_T55 N p).f0)) 1)=1 then (some (false,M.set p true)) else ((ancepsref40_choices_with.f C V ((rd_T55 N p).f0) 0).bind fun bt90=>((ancepsref40_below.f k l N ((rd_T55 N p).f1) bt90.1 bt90.2 (M.set p true)).bind fun bt92=>(if bt92.1=true then ((ancepsref40_choices_with.f C V ((rd_T55 N p).f0) 1).bind fun bt91=>((ancepsref40_below.f k l N ((rd_T55 N p).f2) bt91.1 bt91.2 bt92.2).bind fun bt93=>(some (bt93.1,bt93.2)))) else (some (false,bt92.2)))))) else (none)))) else (some (false,M.set p true)))))) r→
        Ev (fun k=>ancepsref40_below.f k l N p (C:Int) (V:Int) M) r:=fun r hr=>by
      refine Ev.step (fun k=>by rw [ancepsref40_below.f,hm]) ?_
      refine ev_neg (by omega) ?_
      refine ev_neg (by omega) ?_
      refine ev_pos (by omega) ?_
      refine ev_pos (by omega) ?_
      refine ev_neg (by decide) ?_
      rw [Int.toNat_natCast]
      refine Ev.bind (Ev.now (M.set p true)) ?_
      refine ev_pos (by omega) ?_
      exact hr
    have hno:vis l N (d+1) p C V=none→Ev (fun k=>ancepsref40_below.f k l N p (C:Int) (V:Int) M) (false,M.set p true)→∃ r:Bool×List Bool,Ev (fun k=>ancepsref40_below.f k l N p (C:Int) (V:Int) M) r∧r.2.length=N.length∧(r.1=true→∃ Q,vis l N (d+1) p C V=some Q∧Q.Nodup∧(∀ j,j∈Q→rdOf false M (j:Int)=false)∧∀ j:Nat,rdOf false r.2 (j:Int)=(rdOf false M (j:Int)||decide (j∈Q)))∧
      (r.1=false→∀ Q,vis l N (d+1) p C V=some Q→Q.Nodup→¬ ∀ j,j∈Q→rdOf false M (j:Int)=false):=fun hv he=>
      ⟨_,he,by rw [List.length_set];exact hM,by simp,fun _ Q hQ=>by rw [hv] at hQ;cases hQ⟩
    by_cases c0:(rd_T55 N p).f0=-1
    · by_cases c1:lf l.length (rd_T55 N p)=true
      · have c1':=(lf_iff _ _).1 c1
        have he:Ev (fun k=>ancepsref40_below.f k l N p (C:Int) (V:Int) M) (fl (rd_T35 l (rd_T55 N p).f3) C V,M.set p true):=by
          refine hin _ ?_
          refine ev_pos c0 ?_
          refine ev_pos c1'.1 ?_
          refine ev_pos c1'.2.1 ?_
          refine ev_pos c1'.2.2.1 ?_
          refine ev_pos c1'.2.2.2 ?_
          refine ev_pos c1'.2.2.1 ?_
          refine Ev.bind (rfails_ev (ov_rd h c1'.2.2.1 c1'.2.2.2) hC hV hs) ?_
          exact Ev.now _
        cases e:fl (rd_T35 l (rd_T55 N p).f3) C V
        · rw [e] at he
          exact hno (by rw [vis,if_pos hp,if_pos c0,if_neg (by rw [e];simp)]) he
        · rw [e] at he
          have hv:vis l N (d+1) p C V=some [p]:=by rw [vis,if_pos hp,if_pos c0,if_pos ⟨c1,e⟩]
          refine ⟨_,he,by rw [List.length_set];exact hM,fun _=>⟨[p],hv,by simp,fun j hj=>?_,fun j=>?_⟩,fun hc=>by cases hc⟩
          · rw [List.mem_singleton] at hj
            subst hj;exact hm
          · rw [hset j]
            by_cases e:p=j
            · rw [if_pos e];simp [e]
            · rw [if_neg e];simp;omega
      · refine hno (by rw [vis,if_pos hp,if_pos c0,if_neg (fun c=>c1 c.1)]) (hin _ ?_)
        refine ev_pos c0 ?_
        rw [lf_iff] at c1
        by_cases k1:(rd_T55 N p).f1=0
        · refine ev_pos k1 ?_
          by_cases k2:(rd_T55 N p).f2=0
          · refine ev_pos k2 ?_
            by_cases k3:(rd_T55 N p).f3≥0
            · refine ev_pos k3 ?_
              refine ev_neg (fun k4=>c1 ⟨k1,k2,k3,k4⟩) ?_
              exact Ev.now _
            · refine ev_neg k3 ?_
              exact Ev.now _
          · refine ev_neg k2 ?_
            exact Ev.now _
        · refine ev_neg k1 ?_
          exact Ev.now _
    · by_cases c1:nd (rd_T55 N p)=true∧(p:Int)<(rd_T55 N p).f1∧(p:Int)<(rd_T55 N p).f2
      case neg=>
        refine hno (by rw [vis,if_pos hp,if_neg c0,if_neg (fun c=>c1 ⟨c.1,c.2.1,c.2.2.1⟩)]) (hin _ ?_)
        refine ev_neg c0 ?_
        rw [nd_iff] at c1
        by_cases k1:(rd_T55 N p).f0<0
        · refine ev_pos k1 ?_
          exact Ev.now _
        refine ev_neg k1 ?_
        by_cases k2:(rd_T55 N p).f0>23
        · refine ev_pos k2 ?_
          exact Ev.now _
        refine ev_neg k2 ?_
        by_cases k3:(rd_T55 N p).f3=0
        · refine ev_pos k3 ?_
          by_cases k4:(rd_T55 N p).f1≤(p:Int)
          · refine ev_pos k4 ?_
            exact Ev.now _
          refine ev_neg k4 ?_
          by_cases k5:(rd_T55 N p).f2≤(p:Int)
          · refine ev_pos k5 ?_
            exact Ev.now _
          exact absurd ⟨⟨by omega,by omega,k3⟩,by omega,by omega⟩ c1
        · refine ev_neg k3 ?_
          exact Ev.now _
      have c1':=(nd_iff _).1 c1.1
      have hin2:∀ r,Ev (fun k=>if (((C.testBit (rd_T55 N p).f0.toNat).toNat:Nat):Int)=1 then (some (false,M.set p true)) else ((ancepsref40_choices_with.f C V ((rd_T55 N p).f0) 0).bind fun bt90=>((ancepsref40_below.f k l N ((rd_T55 N p).f1) bt90.1 bt90.2 (M.set p true)).bind fun bt92=>(if bt92.1=true then ((ancepsref40_choices_with.f C V ((rd_T55 N p).f0) 1).bind fun bt91=>((ancepsref40_below.f k l N ((rd_T55 N p).f2) bt91.1 bt91.2 bt92.2).bind fun bt93=>(some (bt93.1,bt93.2)))) else (some (false,bt92.2)))))) r→Ev (fun k=>ancepsref40_below.f k l N p (C:Int) (V:Int) M) r:=fun r hr=>by
        refine hin r ?_
        refine ev_neg c0 ?_
        refine ev_neg (by omega) ?_
        refine ev_neg (by omega) ?_
        refine ev_pos c1'.2.2 ?_
        refine ev_neg (by omega) ?_
        refine ev_neg (by omega) ?_
        refine ev_pos c1'.1 ?_
        rw [bit_of C hC _ c1'.1 c1'.2.1]
        exact hr
      cases hb:C.testBit (rd_T55 N p).f0.toNat
      case true=>
        refine hno (by rw [vis,if_pos hp,if_neg c0,if_neg (by rw [hb];simp)]) (hin2 _ ?_)
        rw [hb]
        exact ev_pos (by decide) (Ev.now _)
      have hv:vis l N (d+1) p C V=(vis l N d (rd_T55 N p).f1.toNat (wC C (rd_T55 N p).f0) (wV V (rd_T55 N p).f0 false)).bind fun a=>(vis l N d (rd_T55 N p).f2.toNat (wC C (rd_T55 N p).f0) (wV V (rd_T55 N p).f0 true)).bind fun b=>some (p :: (a++b)):=by
        rw [vis,if_pos hp,if_neg c0,if_pos ⟨c1.1,c1.2.1,c1.2.2,hb⟩]
      have hfr:Free C V ((rd_T55 N p).f0 :: []):=⟨hs,fun w hw=>by rw [List.mem_singleton] at hw;rw [hw];exact hb⟩
      have wl:=wC_lt hC c1'.1 c1'.2.1
      have wv:=fun b=>wV_lt b hV c1'.1 c1'.2.1
      have hw:=fun b=>rwith_ev (vs:=[]) b hC hV ⟨c1'.1,c1'.2.1⟩ hfr
      obtain ⟨r1,e1,l1,t1,f1⟩:=below_ev h N hn d (rd_T55 N p).f1.toNat _ _ (M.set p true) (by omega) (by rw [List.length_set];exact hM) wl (wv false) (sub_step hs _ _)
      rw [← nat_of (by omega:0≤(rd_T55 N p).f1)] at e1
      rw [hv]
      have hstep:∀ r,Ev (fun k=>if r1.1=true then ((ancepsref40_choices_with.f C V (rd_T55 N p).f0 1).bind fun bt591=>((ancepsref40_below.f k l N (rd_T55 N p).f2 bt591.1 bt591.2 r1.2).bind fun bt593=>(some (bt593.1,bt593.2)))) else (some (false,r1.2))) r→Ev (fun k=>ancepsref40_below.f k l N p (C:Int) (V:Int) M) r:=fun r hr=>by
        refine hin2 r ?_
        rw [hb]
        refine ev_neg (by decide) ?_
        refine Ev.bind (hw false) ?_
        refine Ev.bind e1 ?_
        exact hr
      cases h1:r1.1
      case false=>
        refine ⟨(false,r1.2),hstep _ (by rw [h1];exact ev_neg (by decide) (Ev.now _)),l1,by simp,fun _ Q hQ hnd hu=>?_⟩
        cases v1:vis l N d (rd_T55 N p).f1.toNat (wC C (rd_T55 N p).f0) (wV V (rd_T55 N p).f0 false) with
        | none=>rw [v1] at hQ;cases hQ
        | some a=>
          rw [v1,Option.bind_some] at hQ
          cases v2:vis l N d (rd_T55 N p).f2.toNat (wC C (rd_T55 N p).f0) (wV V (rd_T55 N p).f0 true) with
          | none=>rw [v2] at hQ;cases hQ
          | some b=>
            rw [v2,Option.bind_some] at hQ
            obtain rfl:=(Option.some.inj hQ).symm
            rw [List.nodup_cons,List.nodup_append] at hnd
            refine f1 h1 a v1 hnd.2.1 (fun j hj=>?_)
            rw [hset,if_neg (fun e=>hnd.1 (by rw [e];exact List.mem_append_left _ hj))]
            exact hu j (.tail _ (List.mem_append_left _ hj))
      obtain ⟨a,v1,n1,u1,m1⟩:=t1 h1
      obtain ⟨r2,e2,l2,t2,f2⟩:=below_ev h N hn d (rd_T55 N p).f2.toNat _ _ r1.2 (by omega) l1 wl (wv true) (sub_step hs _ _)
      rw [← nat_of (by omega:0≤(rd_T55 N p).f2)] at e2
      rw [v1,Option.bind_some]
      refine ⟨r2,hstep _ (by rw [h1];exact ev_pos rfl (Ev.bind (hw true) (Ev.bind e2 (Ev.now _)))),l2,fun h2=>?_,fun h2 Q hQ hnd hu=>?_⟩
      · obtain ⟨b,v2,n2,u2,m2⟩:=t2 h2
        refine ⟨p :: (a++b),by rw [v2];rfl,?_,fun j hj=>?_,fun j=>?_⟩
        · have sa:=(vis_spec _ _ _ _ _ _ _ v1).2.1
          have sb:=(vis_spec _ _ _ _ _ _ _ v2).2.1
          rw [List.nodup_cons,List.nodup_append]
          refine ⟨fun hc=>?_,n1,n2,fun x hx y hy e=>?_⟩
          · rcases List.mem_append.1 hc with hc|hc
            · have:=(sa p hc).1;omega
            · have:=(sb p hc).1;omega
          · subst e
            have:=u2 x hy
            rw [m1,decide_eq_true hx,Bool.or_true] at this
            cases this
        · rcases List.mem_cons.1 hj with rfl|hj
          · exact hm
          · have hu1:∀ x,rdOf false (M.set p true) ((x:Nat):Int)=false→rdOf false M (x:Int)=false:=fun x hx=>by
              rw [hset] at hx
              split at hx
              · cases hx
              · exact hx
            rcases List.mem_append.1 hj with hj|hj
            · exact hu1 j (u1 j hj)
            · have:=u2 j hj
              rw [m1,Bool.or_eq_false_iff] at this
              exact hu1 j this.1
        · rw [m2,m1,hset]
          by_cases e:p=j
          · rw [if_pos e];simp [e]
          · rw [if_neg e,Bool.or_assoc]
            congr 1
            rw [Bool.eq_iff_iff]
            simp [List.mem_append]
            omega
      · cases v2:vis l N d (rd_T55 N p).f2.toNat (wC C (rd_T55 N p).f0) (wV V (rd_T55 N p).f0 true) with
        | none=>rw [v2] at hQ;cases hQ
        | some b=>
          rw [v2,Option.bind_some] at hQ
          obtain rfl:=(Option.some.inj hQ).symm
          rw [List.nodup_cons,List.nodup_append] at hnd
          refine f2 h2 b v2 hnd.2.2.1 (fun j hj=>?_)
          rw [m1,hset,if_neg (fun e=>hnd.1 (by rw [e];exact List.mem_append_right _ hj)),hu j (.tail _ (List.mem_append_right _ hj)),Bool.false_or,decide_eq_false_iff_not]
          exact fun hc=>hnd.2.2.2 j hc j hj rfl
theorem marked_loop (M:List Bool) (hn:M.length≤2000):∀ (d i:Nat),i+d=M.length→Ev (fun k=>ancepsref40_Check.l0 k M i) ((M.drop i).all id)
  | 0,i,h=>by
    rw [List.drop_eq_nil_of_le (by omega)]
    refine Ev.step (fun k=>by rw [ancepsref40_Check.l0,if_neg (by omega)]) ?_
    exact Ev.now _
  | d+1,i,h=>by
    have hi:i<M.length:=by omega
    have hw:=wrap_succ i M.length hi (by omega)
    have hd:M.drop i=rdOf false M (i:Int) :: M.drop (i+1):=getD_drop M i false hi
    rw [hd,List.all_cons]
    refine Ev.step (fun k=>by rw [ancepsref40_Check.l0,if_pos (by omega),if_pos (by omega),hw]) ?_
    cases rdOf false M (i:Int)
    · refine ev_neg (by decide) ?_
      exact Ev.now _
    · refine ev_pos rfl ?_
      exact marked_loop M hn d (i+1) (by omega)
theorem rcheck_ev (l:List S35) (hs:Sm l) (hl:l.length≤1000) (N:List S55):Ev (fun k=>ancepsref40_Check.f k l N) (chk1 l N):=by
  refine Ev.bind (rsvalid_ev l hs hl) ?_
  unfold chk1
  refine ev_ite (fun h=>?_) (fun h=>Ev.now _)
  have hv:=(sysv_VS l).1 h
  have hr:=walk_iff l N
  by_cases h0:(N.length:Int)=0
  · refine ev_pos h0 ?_
    refine ev_eq (Ev.now _) ?_
    cases e:(shpB l.length N&&(vis l N N.length 0 0 0).isSome)
    · rfl
    · have:=(hr.1 e).1;omega
  refine ev_neg h0 ?_
  by_cases h2:(N.length:Int)>2000
  · refine ev_pos h2 ?_
    refine ev_eq (Ev.now _) ?_
    cases e:(shpB l.length N&&(vis l N N.length 0 0 0).isSome)
    · rfl
    · have:=(hr.1 e).2.1;omega
  refine ev_neg h2 ?_
  refine ev_pos (by omega) ?_
  refine ev_pos (by omega) ?_
  rw [Int.toNat_natCast]
  have hz:∀ j:Nat,rdOf false (List.replicate N.length false) (j:Int)=false:=fun j=>by rw [rdOf,List.getD,Int.toNat_natCast,List.getElem?_replicate];split <;> rfl
  obtain ⟨r,e1,l1,t1,f1⟩:=below_ev hv N (by omega) N.length 0 0 0 (List.replicate N.length false) (by omega) List.length_replicate (by decide) (by decide) (fun j hj=>by simp at hj)
  refine Ev.bind e1 ?_
  cases hr1:r.1
  · refine ev_neg (by decide) ?_
    refine ev_eq (Ev.now _) ?_
    cases e:(shpB l.length N&&(vis l N N.length 0 0 0).isSome)
    · rfl
    · obtain ⟨_,_,Q,hQ,hn,_⟩:=hr.1 e
      exact absurd (fun j _=>hz j) (f1 hr1 Q hQ hn)
  · refine ev_pos rfl ?_
    obtain ⟨Q,hQ,hn,_,hm⟩:=t1 hr1
    have e2:=marked_loop r.2 (by omega) r.2.length 0 (by omega)
    rw [List.drop_zero] at e2
    refine ev_eq e2 ?_
    rw [Bool.eq_iff_iff,hr,List.all_eq_true]
    have hg:∀ j (hj:j<r.2.length),r.2[j]=decide (j∈Q):=fun j hj=>by
      have:=hm j
      rw [hz,Bool.false_or] at this
      rw [← this,rdOf,List.getD,Int.toNat_natCast,List.getElem?_eq_getElem hj,Option.getD_some]
    constructor
    · intro ha
      refine ⟨by omega,by omega,Q,hQ,hn,fun j hj=>?_⟩
      have:=ha r.2[j] (List.getElem_mem _)
      rw [hg] at this
      simpa using this
    · rintro ⟨_,_,Q',hQ',_,hc⟩ x hx
      rw [hQ] at hQ'
      obtain rfl:=(Option.some.inj hQ').symm
      obtain ⟨j,hj,e⟩:=List.getElem_of_mem hx
      rw [← e,hg]
      simpa using hc j (by omega)
def tsz:PT→Nat
  | .lf _=>1
  | .nd _ z o=>(tsz z)+(tsz o)+1
theorem tsz_pos:∀ T:PT,1≤(tsz T)
  | .lf _=>Nat.le_refl _
  | .nd _ _ _=>Nat.le_add_left _ _
def pre:PT→Nat→List S55
  | .lf b,_=>[b]
  | .nd b z o,s=>⟨b.f0,(s:Int)+1,(s:Int)+1+(tsz z),b.f3⟩ :: (pre z (s+1)++pre o (s+1+(tsz z)))
theorem pre_len:∀ (T:PT) (s:Nat),(pre T s).length=(tsz T)
  | .lf _,_=>rfl
  | .nd _ z o,s=>by rw [pre,List.length_cons,List.length_append,pre_len z,pre_len o,tsz]
def hd (l:List S35):PT→Nat→Nat→Bool
  | .lf b,C,V=>fl (rd_T35 l b.f3) C V
  | .nd b z o,C,V=>hd l z (wC C b.f0) (wV V b.f0 false)&&hd l o (wC C b.f0) (wV V b.f0 true)
def tm (l:List S35):PT→Nat→Nat→PT
  | .lf b,_,_=>.lf b
  | .nd b z o,C,V=>if hd l (tm l z (wC C b.f0) (wV V b.f0 false)) C V=true then tm l z (wC C b.f0) (wV V b.f0 false)
    else if hd l (tm l o (wC C b.f0) (wV V b.f0 true)) C V=true then tm l o (wC C b.f0) (wV V b.f0 true)
    else .nd b (tm l z (wC C b.f0) (wV V b.f0 false)) (tm l o (wC C b.f0) (wV V b.f0 true))
def wt (L:Nat):PT→Prop
  | .lf b=>b.f0=-1∧lf L b=true
  | .nd b z o=>b.f0≠-1∧nd b=true∧wt L z∧wt L o
def nf:PT→Nat→Prop
  | .lf _,_=>True
  | .nd b z o,C=>C.testBit b.f0.toNat=false∧nf z (wC C b.f0)∧nf o (wC C b.f0)
def trd (l:List S35):PT→Nat→Nat→Prop
  | .lf _,_,_=>True
  | .nd b z o,C,V=>hd l z C V=false∧hd l o C V=false∧trd l z (wC C b.f0) (wV V b.f0 false)∧trd l o (wC C b.f0) (wV V b.f0 true)
def sbs (C V:Nat):Prop:=∀ j,V.testBit j=true→C.testBit j=true
def Lc (C V C' V':Nat):Prop:=∀ j,C.testBit j=true→C'.testBit j=true∧V'.testBit j=V.testBit j
theorem Lc.step {C V C' V':Nat} (h:Lc C V C' V') (v:Int) (b:Bool):Lc (wC C v) (wV V v b) (wC C' v) (wV V' v b):=fun j hj=>by
  rw [wC_bit] at hj ⊢
  rw [wV_bit,wV_bit]
  by_cases e:v.toNat=j
  · rw [show (v.toNat == j)=true by simpa using e];simp
  · rw [show (v.toNat == j)=false by simpa using e,Bool.or_false] at hj ⊢
    have:=h j hj
    rw [this.1,this.2];simp
theorem Lc.base {C:Nat} (V:Nat) {v:Int} (b:Bool) (h:C.testBit v.toNat=false):Lc C V (wC C v) (wV V v b):=fun j hj=>by
  rw [wC_bit,wV_bit]
  have e:(v.toNat == j)=false:=by
    rw [beq_eq_false_iff_ne]
    intro e
    rw [e,hj] at h;cases h
  rw [e,hj];simp
theorem fl_le {t:S35} (h:VT t.f0 t.f1) {C V C' V':Nat} (s:sbs C V) (s':sbs C' V') (hl:Lc C V C' V') (hf:fl t C V=true):fl t C' V'=true:=by
  unfold fl at hf ⊢
  rw [Bool.not_eq_true',List.any_eq_false] at hf ⊢
  intro x hx hc
  refine hf x hx ?_
  rw [fl_all h s' hx,List.all_eq_true] at hc
  rw [fl_all h s hx,List.all_eq_true]
  intro v hv
  cases e:C.testBit v.toNat
  · rfl
  · have h2:=hc v hv
    rw [(hl _ e).1,(hl _ e).2] at h2
    exact h2
theorem hd_le {l:List S35} (h:VS l):∀ (T:PT) (C V C' V':Nat),wt l.length T→sbs C V→sbs C' V'→Lc C V C' V'→hd l T C V=true→hd l T C' V'=true
  | .lf b,C,V,C',V',w,s,s',hl,hf=>by
    have:=(lf_iff _ _).1 w.2
    exact fl_le (ov_rd h this.2.2.1 this.2.2.2) s s' hl hf
  | .nd b z o,C,V,C',V',w,s,s',hl,hf=>by
    rw [hd,Bool.and_eq_true] at hf ⊢
    exact ⟨hd_le h z _ _ _ _ w.2.2.1 (sub_step s _ _) (sub_step s' _ _) (hl.step _ _) hf.1,hd_le h o _ _ _ _ w.2.2.2 (sub_step s _ _) (sub_step s' _ _) (hl.step _ _) hf.2⟩
theorem nf_le:∀ (T:PT) (C C':Nat),(∀ j,C.testBit j=true→C'.testBit j=true)→nf T C'→nf T C
  | .lf _,_,_,_,_=>trivial
  | .nd b z o,C,C',hl,h=>by
    have hs:∀ j,(wC C b.f0).testBit j=true→(wC C' b.f0).testBit j=true:=fun j hj=>by
      rw [wC_bit] at hj ⊢
      rcases Bool.or_eq_true_iff.1 hj with hj|hj
      · rw [hl j hj,Bool.true_or]
      · rw [hj,Bool.or_true]
    refine ⟨?_,nf_le z _ _ hs h.2.1,nf_le o _ _ hs h.2.2⟩
    cases e:C.testBit b.f0.toNat
    · rfl
    · have:=h.1;rw [hl _ e] at this;cases this
theorem trd_le {l:List S35} (h:VS l):∀ (T:PT) (C V C' V':Nat),wt l.length T→sbs C V→sbs C' V'→Lc C V C' V'→trd l T C' V'→trd l T C V
  | .lf b,C,V,C',V',w,s,s',hl,hf=>trivial
  | .nd b z o,C,V,C',V',w,s,s',hl,hf=>by
    have hn:∀ T,wt l.length T→hd l T C' V'=false→hd l T C V=false:=fun T wT hT=>by
      cases e:hd l T C V
      · rfl
      · rw [hd_le h T _ _ _ _ wT s s' hl e] at hT;cases hT
    exact ⟨hn z w.2.2.1 hf.1,hn o w.2.2.2 hf.2.1,trd_le h z _ _ _ _ w.2.2.1 (sub_step s _ _) (sub_step s' _ _) (hl.step _ _) hf.2.2.1,trd_le h o _ _ _ _ w.2.2.2 (sub_step s _ _) (sub_step s' _ _) (hl.step _ _) hf.2.2.2⟩
theorem tm_ok {l:List S35} (h:VS l):∀ (T:PT) (C V:Nat),sbs C V→wt l.length T→nf T C→hd l T C V=true→
    wt l.length (tm l T C V)∧nf (tm l T C V) C∧hd l (tm l T C V) C V=true∧trd l (tm l T C V) C V∧(tsz (tm l T C V))≤(tsz T)
  | .lf b,C,V,s,w,n,e=>⟨w,n,e,trivial,Nat.le_refl _⟩
  | .nd b z o,C,V,s,w,n,e=>by
    rw [hd,Bool.and_eq_true] at e
    obtain ⟨z1,z2,z3,z4,z5⟩:=tm_ok h z _ _ (sub_step s b.f0 false) w.2.2.1 n.2.1 e.1
    obtain ⟨o1,o2,o3,o4,o5⟩:=tm_ok h o _ _ (sub_step s b.f0 true) w.2.2.2 n.2.2 e.2
    have hc:∀ j,C.testBit j=true→(wC C b.f0).testBit j=true:=fun j hj=>by rw [wC_bit,hj,Bool.true_or]
    rw [tm,tsz]
    split
    · next c=>exact ⟨z1,nf_le _ _ _ hc z2,c,trd_le h _ _ _ _ _ z1 s (sub_step s _ _) (Lc.base V _ n.1) z4,by omega⟩
    · next c=>
      split
      · next c'=>exact ⟨o1,nf_le _ _ _ hc o2,c',trd_le h _ _ _ _ _ o1 s (sub_step s _ _) (Lc.base V _ n.1) o4,by omega⟩
      · next c'=>
        refine ⟨⟨w.1,w.2.1,z1,o1⟩,⟨n.1,z2,o2⟩,?_,⟨(Bool.not_eq_true _).mp c,(Bool.not_eq_true _).mp c',z4,o4⟩,?_⟩
        · rw [hd,z3,o3];rfl
        · rw [tsz];omega
theorem tm_trd (l:List S35):∀ (T:PT) (C V:Nat),trd l T C V→tm l T C V=T
  | .lf b,C,V,_=>rfl
  | .nd b z o,C,V,h=>by
    rw [tm,tm_trd l z _ _ h.2.2.1,tm_trd l o _ _ h.2.2.2,h.1,h.2.1]
    rfl
def er:PT→PT
  | .lf b=>.lf b
  | .nd b z o=>.nd ⟨b.f0,0,0,b.f3⟩ (er z) (er o)
theorem sz_er:∀ T,(tsz (er T))=(tsz T)
  | .lf _=>rfl
  | .nd b z o=>by rw [er,tsz,tsz,sz_er z,sz_er o]
theorem pre_er:∀ T s,pre (er T) s=pre T s
  | .lf _,_=>rfl
  | .nd b z o,s=>by rw [er,pre,pre,sz_er,pre_er z,pre_er o]
theorem hd_er (l:List S35):∀ T C V,hd l (er T) C V=hd l T C V
  | .lf _,_,_=>rfl
  | .nd b z o,C,V=>by rw [er,hd,hd,hd_er l z,hd_er l o]
theorem tm_er (l:List S35):∀ T C V,tm l (er T) C V=er (tm l T C V)
  | .lf _,_,_=>rfl
  | .nd b z o,C,V=>by
    rw [er,tm,tm,tm_er l z,tm_er l o,hd_er,hd_er]
    split
    · rfl
    · split
      · rfl
      · rfl
def tre (N:List S55):Nat→Nat→PT
  | 0,p=>.lf (rd_T55 N p)
  | k+1,p=>if (rd_T55 N p).f0=-1 then .lf (rd_T55 N p) else .nd (rd_T55 N p) (tre N k (rd_T55 N p).f1.toNat) (tre N k (rd_T55 N p).f2.toNat)
theorem vis_tre (l:List S35) (N:List S55):∀ (k p C V:Nat) (Q:List Nat),vis l N k p C V=some Q→wt l.length (tre N k p)∧nf (tre N k p) C∧hd l (tre N k p) C V=true∧(tsz (tre N k p))=Q.length
  | 0,_,_,_,_,h=>by simp [vis] at h
  | k+1,p,C,V,Q,h=>by
    rw [vis] at h
    rw [tre]
    split at h
    · split at h
      · next c0=>
        split at h
        · next hc=>
          obtain rfl:=(Option.some.inj h).symm
          rw [if_pos c0]
          exact ⟨⟨c0,hc.1⟩,trivial,hc.2,rfl⟩
        · cases h
      · next c0=>
        split at h
        · next hc=>
          cases v1:vis l N k (rd_T55 N p).f1.toNat (wC C (rd_T55 N p).f0) (wV V (rd_T55 N p).f0 false) with
          | none=>rw [v1] at h;cases h
          | some x=>
            rw [v1,Option.bind_some] at h
            cases v2:vis l N k (rd_T55 N p).f2.toNat (wC C (rd_T55 N p).f0) (wV V (rd_T55 N p).f0 true) with
            | none=>rw [v2] at h;cases h
            | some y=>
              rw [v2,Option.bind_some] at h
              obtain rfl:=(Option.some.inj h).symm
              obtain ⟨a1,a2,a3,a4⟩:=vis_tre l N k _ _ _ _ v1
              obtain ⟨b1,b2,b3,b4⟩:=vis_tre l N k _ _ _ _ v2
              rw [if_neg c0]
              refine ⟨⟨c0,hc.1,a1,b1⟩,⟨hc.2.2.2,a2,b2⟩,by rw [hd,a3,b3];rfl,?_⟩
              rw [tsz,a4,b4,List.length_cons,List.length_append]
        · cases h
    · cases h
theorem rd_app (A:List S55) (x:S55) (B:List S55):rd_T55 (A++x :: B) (A.length:Int)=x:=by
  show (A++x :: B).getD ((A.length:Int)).toNat z55=x
  rw [Int.toNat_natCast,List.getD,List.getElem?_append_right (Nat.le_refl _),Nat.sub_self]
  rfl
theorem vis_pre (l:List S35):∀ (T:PT) (A B:List S55) (k C V:Nat),wt l.length T→nf T C→hd l T C V=true→(tsz T)≤k→vis l (A++(pre T A.length++B)) k A.length C V=some (List.range' A.length (tsz T))
  | .lf b,A,B,k,C,V,w,n,e,hk=>by
    obtain ⟨k,rfl⟩:∃ k',k=k'+1:=⟨k - 1,by rw [tsz] at hk;omega⟩
    rw [vis,if_pos (by simp [pre]),pre,List.cons_append,List.nil_append,rd_app,if_pos w.1,if_pos ⟨w.2,e⟩]
    rfl
  | .nd b z o,A,B,k,C,V,w,n,e,hk=>by
    rw [tsz] at hk
    obtain ⟨k,rfl⟩:∃ k',k=k'+1:=⟨k - 1,by omega⟩
    rw [hd,Bool.and_eq_true] at e
    have h1:=vis_pre l z (A++[⟨b.f0,(A.length:Int)+1,(A.length:Int)+1+(tsz z),b.f3⟩]) (pre o (A.length+1+(tsz z))++B) k _ _ w.2.2.1 n.2.1 e.1 (by omega)
    have h2:=vis_pre l o (A++⟨b.f0,(A.length:Int)+1,(A.length:Int)+1+(tsz z),b.f3⟩ :: pre z (A.length+1)) B k _ _ w.2.2.2 n.2.2 e.2 (by omega)
    rw [List.length_append,List.length_cons,List.length_nil] at h1
    rw [List.length_append,List.length_cons,pre_len] at h2
    have hz:=(tsz_pos z)
    have ho:=(tsz_pos o)
    rw [vis,if_pos (by simp [pre]),pre,List.cons_append,rd_app,if_neg w.1]
    dsimp only
    rw [if_pos ⟨w.2.1,by omega,by omega,n.1⟩]
    have e1:((A.length:Int)+1).toNat=A.length+1:=by omega
    have e2:((A.length:Int)+1+(tsz z)).toNat=A.length+((tsz z)+1):=by omega
    have e3:A.length+((tsz z)+1)=A.length+1+(tsz z):=by omega
    rw [e1,e2]
    rw [Nat.zero_add] at h1
    simp only [List.append_assoc,List.cons_append,List.nil_append] at h1 h2 ⊢
    rw [e3] at h2 ⊢
    rw [h1,Option.bind_some,h2,Option.bind_some,tsz]
    congr 1
    rw [List.range'_succ]
    congr 1
    rw [List.range'_append_1]
theorem tre_pre (L:Nat):∀ (T:PT) (A B:List S55) (k:Nat),wt L T→(tsz T)≤k→er (tre (A++(pre T A.length++B)) k A.length)=er T
  | .lf b,A,B,k,w,hk=>by
    obtain ⟨k,rfl⟩:∃ k',k=k'+1:=⟨k - 1,by rw [tsz] at hk;omega⟩
    rw [tre,pre,List.cons_append,List.nil_append,rd_app,if_pos w.1]
  | .nd b z o,A,B,k,w,hk=>by
    rw [tsz] at hk
    obtain ⟨k,rfl⟩:∃ k',k=k'+1:=⟨k - 1,by omega⟩
    have h1:=tre_pre L z (A++[⟨b.f0,(A.length:Int)+1,(A.length:Int)+1+(tsz z),b.f3⟩]) (pre o (A.length+1+(tsz z))++B) k w.2.2.1 (by omega)
    have h2:=tre_pre L o (A++⟨b.f0,(A.length:Int)+1,(A.length:Int)+1+(tsz z),b.f3⟩ :: pre z (A.length+1)) B k w.2.2.2 (by omega)
    rw [List.length_append,List.length_cons,List.length_nil,Nat.zero_add] at h1
    rw [List.length_append,List.length_cons,pre_len] at h2
    rw [tre,pre,List.cons_append,rd_app,if_neg w.1,er,er]
    dsimp only
    have e1:((A.length:Int)+1).toNat=A.length+1:=by omega
    have e2:((A.length:Int)+1+(tsz z)).toNat=A.length+((tsz z)+1):=by omega
    have e3:A.length+((tsz z)+1)=A.length+1+(tsz z):=by omega
    rw [e1,e2]
    simp only [List.append_assoc,List.cons_append,List.nil_append] at h1 h2 ⊢
    rw [e3] at h2 ⊢
    rw [h1,h2]
def trm (l:List S35) (N:List S55):List S55:=pre (tm l (tre N N.length 0) 0 0) 0
theorem sbs0:sbs 0 0:=fun j hj=>by simp at hj
theorem trm_ok {l:List S35} {N:List S55} (h:chk1 l N=true):chk1 l (trm l N)=true∧trm l (trm l N)=trm l N∧(trm l N).length≤N.length:=by
  unfold chk1 at h
  split at h
  · next hv=>
    have hV:=(sysv_VS l).1 hv
    obtain ⟨n1,n2,Q,hQ,hn,hc⟩:=(walk_iff l N).1 h
    obtain ⟨t1,t2,t3,t4⟩:=vis_tre l N _ _ _ _ Q hQ
    obtain ⟨m1,m2,m3,m4,m5⟩:=tm_ok hV _ 0 0 sbs0 t1 t2 t3
    have hQl:Q.length≤N.length:=by
      have:=hn.length_le_of_subset (l₂:=List.range N.length) (fun j hj=>List.mem_range.2 ((vis_spec _ _ _ _ _ _ _ hQ).2.1 j hj).2.1)
      rwa [List.length_range] at this
    have hl:(trm l N).length=(tsz (tm l (tre N N.length 0) 0 0)):=pre_len _ _
    have hp:=(tsz_pos (tm l (tre N N.length 0) 0 0))
    have hvis:=vis_pre l (tm l (tre N N.length 0) 0 0) [] [] (trm l N).length 0 0 m1 m2 m3 (by omega)
    have htre:=tre_pre l.length (tm l (tre N N.length 0) 0 0) [] [] (trm l N).length m1 (by omega)
    rw [List.length_nil,List.nil_append,List.append_nil] at hvis htre
    refine ⟨?_,?_,by omega⟩
    · unfold chk1
      rw [if_pos hv,walk_iff]
      refine ⟨by omega,by omega,_,hvis,List.nodup_range',fun j hj=>?_⟩
      rw [List.mem_range'_1]
      omega
    · show pre (tm l (tre (trm l N) (trm l N).length 0) 0 0) 0=pre (tm l (tre N N.length 0) 0 0) 0
      rw [← pre_er,← tm_er]
      unfold trm at htre ⊢
      rw [htre,tm_er,pre_er,tm_trd l _ _ _ m4]
  · cases h

theorem tholds_ev {l:List S35} (h:VS l):∀ (T:PT) (C V:Nat),wt l.length T→C<2 ^ 24→V<2 ^ 24→Ev (fun k=>solve_part_holds.f k T l (C:Int) (V:Int)) (hd l T C V)
  | .lf b,C,V,w,hC,hV=>by
    have h1:=(lf_iff _ _).1 w.2
    have h0:=w.1
    refine Ev.step (fun k=>by rw [solve_part_holds.f,if_pos (by omega),if_pos h1.2.2.1,if_pos h1.2.2.2]) ?_
    exact fails_ev (ov_rd h h1.2.2.1 h1.2.2.2) C V hC hV
  | .nd b z o,C,V,w,hC,hV=>by
    have h1:=(nd_iff _).1 w.2.1
    have wl:=wC_lt hC h1.1 h1.2.1
    have wv:=fun b'=>wV_lt b' hV h1.1 h1.2.1
    have ww:=fun b'=>with_eq b' hC hV h1.1 h1.2.1
    refine Ev.step (fun k=>by rw [solve_part_holds.f,if_neg (by omega)]) ?_
    refine Ev.bind (show Ev (fun _=>solve_choices_with.f (C:Int) (V:Int) b.f0 0) _ from (ww false) ▸ Ev.now _) ?_
    refine Ev.bind (tholds_ev h z _ _ w.2.2.1 wl (wv false)) ?_
    rw [hd]
    cases hd l z (wC C b.f0) (wV V b.f0 false)
    · refine ev_neg (by decide) ?_
      exact Ev.now _
    · refine ev_pos rfl ?_
      refine Ev.bind (show Ev (fun _=>solve_choices_with.f (C:Int) (V:Int) b.f0 1) _ from (ww true) ▸ Ev.now _) ?_
      exact tholds_ev h o _ _ w.2.2.2 wl (wv true)
theorem vis_leaf {l:List S35} {N:List S55} {k p C V:Nat} {Q:List Nat} (h:vis l N (k+1) p C V=some Q):p<N.length∧((rd_T55 N p).f0=-1∨((rd_T55 N p).f0≠-1∧nd (rd_T55 N p)=true∧(p:Int)<(rd_T55 N p).f1∧(p:Int)<(rd_T55 N p).f2∧C.testBit (rd_T55 N p).f0.toNat=false∧
    ∃ a b,vis l N k (rd_T55 N p).f1.toNat (wC C (rd_T55 N p).f0) (wV V (rd_T55 N p).f0 false)=some a∧vis l N k (rd_T55 N p).f2.toNat (wC C (rd_T55 N p).f0) (wV V (rd_T55 N p).f0 true)=some b)):=by
  rw [vis] at h
  split at h
  · next hp=>
    refine ⟨hp,?_⟩
    split at h
    · next c0=>exact .inl c0
    · next c0=>
      split at h
      · next hc=>
        refine .inr ⟨c0,hc.1,hc.2.1,hc.2.2.1,hc.2.2.2,?_⟩
        cases v1:vis l N k (rd_T55 N p).f1.toNat (wC C (rd_T55 N p).f0) (wV V (rd_T55 N p).f0 false) with
        | none=>rw [v1] at h;cases h
        | some x=>
          rw [v1,Option.bind_some] at h
          cases v2:vis l N k (rd_T55 N p).f2.toNat (wC C (rd_T55 N p).f0) (wV V (rd_T55 N p).f0 true) with
          | none=>rw [v2] at h;cases h
          | some y=>exact ⟨x,y,rfl,rfl⟩
      · cases h
  · cases h
theorem tre_nd {N:List S55} {k p:Nat} (h:(rd_T55 N p).f0≠-1):tre N (k+1) p=.nd (rd_T55 N p) (tre N k (rd_T55 N p).f1.toNat) (tre N k (rd_T55 N p).f2.toNat):=by rw [tre,if_neg h]
theorem ttrim_ev {l:List S35} (h:VS l) (N:List S55):∀ (d p C V:Nat) (Q:List Nat),vis l N d p C V=some Q→sbs C V→C<2 ^ 24→V<2 ^ 24→Ev (fun k=>solve_trimmed.f k l N (p:Int) (C:Int) (V:Int)) (tm l (tre N d p) C V)
  | 0,_,_,_,_,hQ,_,_,_=>by simp [vis] at hQ
  | d+1,p,C,V,Q,hQ,hs,hC,hV=>by
    obtain ⟨hp,hq⟩:=vis_leaf hQ
    refine Ev.step (fun k=>by rw [solve_trimmed.f,if_pos (by omega),if_pos (by omega)]) ?_
    rcases hq with c0|⟨c0,hn,h2,h4,hb,qa,qb,v1,v2⟩
    · refine ev_pos (by omega) ?_
      rw [tre,if_pos c0,tm]
      exact Ev.now _
    · have h1:=(nd_iff _).1 hn
      have wl:=wC_lt hC h1.1 h1.2.1
      have wv:=fun b'=>wV_lt b' hV h1.1 h1.2.1
      have ww:=fun b'=>with_eq b' hC hV h1.1 h1.2.1
      obtain ⟨a1,a2,a3,_⟩:=vis_tre l N _ _ _ _ _ v1
      obtain ⟨b1,b2,b3,_⟩:=vis_tre l N _ _ _ _ _ v2
      have z1:=(tm_ok h _ _ _ (sub_step hs _ _) a1 a2 a3).1
      have o1:=(tm_ok h _ _ _ (sub_step hs _ _) b1 b2 b3).1
      have i1:=ttrim_ev h N d _ _ _ _ v1 (sub_step hs _ _) wl (wv false)
      have i2:=ttrim_ev h N d _ _ _ _ v2 (sub_step hs _ _) wl (wv true)
      rw [← nat_of (by omega:0≤(rd_T55 N p).f1)] at i1
      rw [← nat_of (by omega:0≤(rd_T55 N p).f2)] at i2
      refine ev_neg (by omega) ?_
      refine Ev.bind (show Ev (fun _=>solve_choices_with.f (C:Int) (V:Int) (rd_T55 N p).f0 0) _ from (ww false) ▸ Ev.now _) ?_
      refine Ev.bind i1 ?_
      refine Ev.bind (show Ev (fun _=>solve_choices_with.f (C:Int) (V:Int) (rd_T55 N p).f0 1) _ from (ww true) ▸ Ev.now _) ?_
      refine Ev.bind i2 ?_
      refine Ev.bind (tholds_ev h _ C V z1 hC hV) ?_
      rw [tre_nd c0,tm]
      refine ev_ite (fun _=>Ev.now _) (fun _=>?_)
      refine Ev.bind (tholds_ev h _ C V o1 hC hV) ?_
      exact ev_ite (fun _=>Ev.now _) (fun _=>Ev.now _)
theorem set_app (A:List S55) (x y:S55) (B:List S55):(A++x :: B).set A.length y=A++y :: B:=by
  rw [List.set_append_right _ _ (Nat.le_refl _),Nat.sub_self];rfl
theorem twrite_ev (L:Nat):∀ (T:PT) (R:List S55),wt L T→R.length+(tsz T)≤4000→Ev (fun k=>solve_part_write.f k T R) (R++pre T R.length)
  | .lf b,R,w,hl=>by
    have h0:=w.1
    refine Ev.step (fun k=>by rw [solve_part_write.f,if_pos (by omega),if_pos (by omega)]) ?_
    exact Ev.now _
  | .nd b z o,R,w,hl=>by
    have h1:=(nd_iff _).1 w.2.1
    rw [tsz] at hl
    have hw:=wrap_succ R.length 4000 (by omega) (by omega)
    have e1:=rd_app R b []
    have e2:=set_app R b ⟨b.f0,((R.length+1:Nat):Int),b.f2,b.f3⟩ []
    refine Ev.step (fun k=>by rw [solve_part_write.f,if_pos (by omega),if_neg (by omega),e1,hw,e2]) ?_
    have i1:=twrite_ev L z (R++[⟨b.f0,((R.length+1:Nat):Int),b.f2,b.f3⟩]) w.2.2.1 (by rw [List.length_append,List.length_cons,List.length_nil];omega)
    rw [List.append_assoc,List.length_append,List.length_cons,List.length_nil,Nat.zero_add,List.cons_append,List.nil_append] at i1
    refine Ev.bind i1 ?_
    have hz:=pre_len z (R.length+1)
    refine ev_pos (by rw [List.length_append,List.length_cons,hz];omega) ?_
    rw [rd_app,set_app]
    have i2:=twrite_ev L o (R++⟨b.f0,((R.length+1:Nat):Int),(((R++(⟨b.f0,((R.length+1:Nat):Int),b.f2,b.f3⟩:S55) :: pre z (R.length+1)).length:Nat):Int),b.f3⟩ :: pre z (R.length+1)) w.2.2.2 (by rw [List.length_append,List.length_cons,hz];omega)
    refine ev_eq i2 ?_
    have hq:R.length+((tsz z)+1)=R.length+1+(tsz z):=by omega
    rw [pre,List.append_assoc,List.cons_append]
    simp only [List.length_append,List.length_cons,hz]
    rw [hq]
    congr 3
theorem rwithout_ev {l:List S35} (h:VS l):∀ (T:PT) (A B:List S55) (C V:Nat),wt l.length T→nf T C→sbs C V→C<2 ^ 24→V<2 ^ 24→Ev (fun k=>ancepsref40_without.f k l (A++(pre T A.length++B)) (A.length:Int) (C:Int) (V:Int)) (hd l T C V)
  | .lf b,A,B,C,V,w,n,hs,hC,hV=>by
    have h1:=(lf_iff _ _).1 w.2
    have h0:=w.1
    rw [pre,List.cons_append,List.nil_append]
    refine Ev.step (fun k=>by rw [ancepsref40_without.f,if_pos (by omega),if_pos (by rw [List.length_append,List.length_cons];omega),rd_app]) ?_
    refine ev_pos (by omega) ?_
    refine ev_pos h1.2.2.1 ?_
    refine ev_pos h1.2.2.2 ?_
    exact Ev.bind (rfails_ev (ov_rd h h1.2.2.1 h1.2.2.2) hC hV hs) (Ev.now _)
  | .nd b z o,A,B,C,V,w,n,hs,hC,hV=>by
    have h1:=(nd_iff _).1 w.2.1
    have wl:=wC_lt hC h1.1 h1.2.1
    have wv:=fun b'=>wV_lt b' hV h1.1 h1.2.1
    have hfr:Free C V (b.f0 :: []):=⟨hs,fun w hw=>by rw [List.mem_singleton] at hw;rw [hw];exact n.1⟩
    have hw:=fun b'=>rwith_ev (vs:=[]) b' hC hV ⟨h1.1,h1.2.1⟩ hfr
    have i1:=rwithout_ev h z (A++[⟨b.f0,(A.length:Int)+1,(A.length:Int)+1+(tsz z),b.f3⟩]) (pre o (A.length+1+(tsz z))++B) _ _ w.2.2.1 n.2.1 (sub_step hs b.f0 false) wl (wv false)
    have i2:=rwithout_ev h o (A++⟨b.f0,(A.length:Int)+1,(A.length:Int)+1+(tsz z),b.f3⟩ :: pre z (A.length+1)) B _ _ w.2.2.2 n.2.2 (sub_step hs b.f0 true) wl (wv true)
    have e3:A.length+((tsz z)+1)=A.length+1+(tsz z):=by omega
    rw [List.length_append,List.length_cons,List.length_nil,Nat.zero_add] at i1
    rw [List.length_append,List.length_cons,pre_len,e3] at i2
    simp only [List.append_assoc,List.cons_append,List.nil_append] at i1 i2
    rw [show ((A.length+1:Nat):Int)=(A.length:Int)+1 by omega] at i1
    rw [show ((A.length+1+(tsz z):Nat):Int)=(A.length:Int)+1+(tsz z) by omega] at i2
    rw [pre,List.cons_append,List.append_assoc]
    refine Ev.step (fun k=>by rw [ancepsref40_without.f,if_pos (by omega),if_pos (by rw [List.length_append,List.length_cons];omega),rd_app]) ?_
    refine ev_neg (by dsimp only;omega) ?_
    refine Ev.bind (hw false) ?_
    refine Ev.bind i1 ?_
    rw [hd]
    cases hd l z (wC C b.f0) (wV V b.f0 false)
    · refine ev_neg (by decide) ?_
      exact Ev.now _
    · refine ev_pos rfl ?_
      refine Ev.bind (hw true) ?_
      exact Ev.bind i2 (Ev.now _)
def mvd (by_:Int) (n:S55):S55:=if n.f0≥0 then ⟨n.f0,wrap64 (n.f1+by_),wrap64 (n.f2+by_),n.f3⟩ else n
theorem rmoved_loop (M:List S55) (hM:M.length≤4000) (y:Int):∀ (d i:Nat) (out:List S55),i+d=M.length→out.length+d≤8000→Ev (fun k=>ancepsref40_moved.l0 k M y out (i:Int)) (out++(M.drop i).map (mvd y))
  | 0,i,out,h,_=>by
    rw [List.drop_eq_nil_of_le (by omega),List.map_nil,List.append_nil]
    exact Ev.step (f:=fun _=>some out) (fun k=>by rw [ancepsref40_moved.l0,if_neg (by omega)]) (Ev.now _)
  | d+1,i,out,h,ho=>by
    have hi:i<M.length:=by omega
    have hw:=wrap_succ i M.length hi (by omega)
    rw [rdN_at M i hi,List.map_cons]
    refine Ev.step (fun k=>by rw [ancepsref40_moved.l0,if_pos (by omega),if_pos (by omega),hw]) ?_
    have ih:=fun x=>rmoved_loop M hM y d (i+1) (out++[x]) (by omega) (by rw [List.length_append,List.length_cons,List.length_nil];omega)
    by_cases c:(rd_T55 M (i:Int)).f0≥0
    · refine ev_pos c ?_
      refine ev_pos (by omega) ?_
      refine ev_eq (ih _) ?_
      rw [List.append_assoc]
      unfold mvd
      rw [if_pos c]
      rfl
    · refine ev_neg c ?_
      refine ev_pos (by omega) ?_
      refine ev_eq (ih _) ?_
      rw [List.append_assoc]
      unfold mvd
      rw [if_neg c]
      rfl
theorem pre_moved (L:Nat):∀ (T:PT) (s t:Nat),wt L T→s+t+(tsz T)≤4000→(pre T s).map (mvd (t:Int))=pre T (s+t)
  | .lf b,s,t,w,h=>by
    have h0:=w.1
    rw [pre,pre,List.map_cons,List.map_nil]
    unfold mvd
    rw [if_neg (by omega)]
  | .nd b z o,s,t,w,h=>by
    have h1:=(nd_iff _).1 w.2.1
    rw [tsz] at h
    have a1:=wrap_succ (s+t) 4001 (by omega) (by omega)
    have a2:=wrap_succ (s+t+(tsz z)) 4001 (by omega) (by omega)
    rw [pre,pre,List.map_cons,List.map_append,pre_moved L z (s+1) t w.2.2.1 (by omega),pre_moved L o (s+1+(tsz z)) t w.2.2.2 (by omega)]
    unfold mvd
    dsimp only
    rw [if_pos (by omega),show (s:Int)+1+t=((s+t:Nat):Int)+1 by omega,show (s:Int)+1+(tsz z)+t=((s+t+(tsz z):Nat):Int)+1 by omega,a1,a2,show s+1+t=s+t+1 by omega,show s+1+(tsz z)+t=s+t+1+(tsz z) by omega]
    congr 2
    omega
theorem rmoved_ev (L:Nat) (T:PT) (t:Nat) (w:wt L T) (h:t+(tsz T)≤4000):Ev (fun k=>ancepsref40_moved.f k (pre T 0) (t:Int)) (pre T t):=by
  have hl:=pre_len T 0
  have e:=rmoved_loop (pre T 0) (by omega) t (pre T 0).length 0 [] (by omega) (by rw [List.length_nil];omega)
  rw [List.drop_zero,List.nil_append,pre_moved L T 0 t w (by omega),Nat.zero_add] at e
  exact e
theorem rtrim_ev {l:List S35} (h:VS l) (N:List S55):∀ (d p C V:Nat) (Q:List Nat),vis l N d p C V=some Q→Q.length≤1900→sbs C V→C<2 ^ 24→V<2 ^ 24→Ev (fun k=>ancepsref40_trim.f k l N (p:Int) (C:Int) (V:Int)) (pre (tm l (tre N d p) C V) 0)
  | 0,_,_,_,_,hQ,_,_,_,_=>by simp [vis] at hQ
  | d+1,p,C,V,Q,hQ,hQl,hs,hC,hV=>by
    have hall:=vis_tre l N _ _ _ _ _ hQ
    obtain ⟨hp,hq⟩:=vis_leaf hQ
    refine Ev.step (fun k=>by rw [ancepsref40_trim.f,if_pos (by omega),if_pos (by omega)]) ?_
    rcases hq with c0|⟨c0,hn,h2,h4,hb,qa,qb,v1,v2⟩
    · refine ev_pos (by omega) ?_
      rw [tre,if_pos c0,tm]
      exact Ev.now _
    · have h1:=(nd_iff _).1 hn
      have wl:=wC_lt hC h1.1 h1.2.1
      have wv:=fun b'=>wV_lt b' hV h1.1 h1.2.1
      have hfr:Free C V ((rd_T55 N p).f0 :: []):=⟨hs,fun w hw=>by rw [List.mem_singleton] at hw;rw [hw];exact hb⟩
      have hw:=fun b'=>rwith_ev (vs:=[]) b' hC hV ⟨h1.1,h1.2.1⟩ hfr
      obtain ⟨a1,a2,a3,a4⟩:=vis_tre l N _ _ _ _ _ v1
      obtain ⟨b1,b2,b3,b4⟩:=vis_tre l N _ _ _ _ _ v2
      have hsz:=hall.2.2.2
      rw [tre_nd c0,tsz] at hsz
      obtain ⟨z1,z2,_,_,z5⟩:=tm_ok h _ _ _ (sub_step hs (rd_T55 N p).f0 false) a1 a2 a3
      obtain ⟨o1,o2,_,_,o5⟩:=tm_ok h _ _ _ (sub_step hs (rd_T55 N p).f0 true) b1 b2 b3
      have hc:∀ j,C.testBit j=true→(wC C (rd_T55 N p).f0).testBit j=true:=fun j hj=>by rw [wC_bit,hj,Bool.true_or]
      have i1:=rtrim_ev h N d _ _ _ _ v1 (by omega) (sub_step hs _ _) wl (wv false)
      have i2:=rtrim_ev h N d _ _ _ _ v2 (by omega) (sub_step hs _ _) wl (wv true)
      rw [← nat_of (by omega:0≤(rd_T55 N p).f1)] at i1
      rw [← nat_of (by omega:0≤(rd_T55 N p).f2)] at i2
      have w1:=rwithout_ev h _ [] [] C V z1 (nf_le _ _ _ hc z2) hs hC hV
      have w2:=rwithout_ev h _ [] [] C V o1 (nf_le _ _ _ hc o2) hs hC hV
      rw [List.length_nil,List.nil_append,List.append_nil] at w1 w2
      refine ev_neg (by omega) ?_
      refine Ev.bind (hw false) ?_
      refine Ev.bind i1 ?_
      refine Ev.bind w1 ?_
      rw [tre_nd c0,tm]
      by_cases c:hd l (tm l (tre N d (rd_T55 N p).f1.toNat) (wC C (rd_T55 N p).f0) (wV V (rd_T55 N p).f0 false)) C V=true
      · rw [if_pos c]
        exact ev_pos c (Ev.now _)
      · rw [if_neg c]
        refine ev_neg c ?_
        refine Ev.bind (hw true) ?_
        refine Ev.bind i2 ?_
        refine Ev.bind w2 ?_
        by_cases c':hd l (tm l (tre N d (rd_T55 N p).f2.toNat) (wC C (rd_T55 N p).f0) (wV V (rd_T55 N p).f0 true)) C V=true
        · rw [if_pos c']
          exact ev_pos c' (Ev.now _)
        · rw [if_neg c']
          refine ev_neg c' ?_
          refine Ev.bind (Ev.now _) ?_
          refine Ev.bind (rmoved_ev l.length _ 1 z1 (by omega)) ?_
          have l1:=fun s=>pre_len (tm l (tre N d (rd_T55 N p).f1.toNat) (wC C (rd_T55 N p).f0) (wV V (rd_T55 N p).f0 false)) s
          have l2:=fun s=>pre_len (tm l (tre N d (rd_T55 N p).f2.toNat) (wC C (rd_T55 N p).f0) (wV V (rd_T55 N p).f0 true)) s
          refine ev_pos (by simp only [List.length_cons,List.length_nil,l1];omega) ?_
          refine Ev.bind (Ev.now _) ?_
          have hw1:=wrap_succ (tsz (tm l (tre N d (rd_T55 N p).f1.toNat) (wC C (rd_T55 N p).f0) (wV V (rd_T55 N p).f0 false))) 4000 (by omega) (by omega)
          rw [Int.add_comm] at hw1
          rw [l1,hw1]
          clear hw1
          have hb1:(tsz (tm l (tre N d (rd_T55 N p).f1.toNat) (wC C (rd_T55 N p).f0) (wV V (rd_T55 N p).f0 false)))+1+(tsz (tm l (tre N d (rd_T55 N p).f2.toNat) (wC C (rd_T55 N p).f0) (wV V (rd_T55 N p).f0 true)))≤4000:=by omega
          refine Ev.bind (rmoved_ev l.length _ _ o1 hb1) ?_
          refine ev_pos (by simp only [List.length_append,List.length_cons,List.length_nil,l1,l2];omega) ?_
          refine ev_eq (Ev.now _) ?_
          rw [pre,h1.2.2,Nat.zero_add,Nat.add_comm 1]
          show _ :: (_++_)=_ :: (_++_)
          congr 2
          omega
def tres (l:List S35) (N:List S55):List S55×Int:=if sysv l=0 then (if chk1 l N=true then (trm l N,0) else ([],1)) else ([],sysv l)
theorem chk_vis {l:List S35} {N:List S55} (h:chk1 l N=true):VS l∧N.length≤2000∧∃ Q,vis l N N.length 0 0 0=some Q∧Q.length≤N.length:=by
  unfold chk1 at h
  split at h
  · next hv=>
    obtain ⟨n1,n2,Q,hQ,hn,hc⟩:=(walk_iff l N).1 h
    refine ⟨(sysv_VS l).1 hv,n2,Q,hQ,?_⟩
    have:=hn.length_le_of_subset (l₂:=List.range N.length) (fun j hj=>List.mem_range.2 ((vis_spec _ _ _ _ _ _ _ hQ).2.1 j hj).2.1)
    rwa [List.length_range] at this
  · cases h
theorem strim_ev (l:List S35) (hs:Sm l) (hl:l.length≤1000) (N:List S55) (hN:N.length≤1900):Ev (fun k=>solve_Trim.f k l N) (tres l N):=by
  unfold solve_Trim.f tres
  refine Ev.bind (svalid_ev l hs hl) ?_
  refine ev_ite (fun hv=>?_) (fun _=>Ev.now _)
  refine Ev.bind (scheck_ev l hs hl N) ?_
  refine ev_ite (fun hc=>?_) (fun _=>Ev.now _)
  obtain ⟨hV,n2,Q,hQ,hQl⟩:=chk_vis hc
  obtain ⟨t1,t2,t3,t4⟩:=vis_tre l N _ _ _ _ Q hQ
  obtain ⟨m1,_,_,_,m5⟩:=tm_ok hV _ 0 0 sbs0 t1 t2 t3
  refine Ev.bind (ttrim_ev hV N N.length 0 0 0 Q hQ sbs0 (by decide) (by decide)) ?_
  have hw:=twrite_ev l.length _ [] m1 (by rw [List.length_nil];omega)
  refine Ev.bind hw ?_
  exact Ev.now _
theorem rTrim_ev (l:List S35) (hs:Sm l) (hl:l.length≤1000) (N:List S55) (hN:N.length≤1900):Ev (fun k=>ancepsref40_Trim.f k l N) (tres l N):=by
  unfold ancepsref40_Trim.f tres
  refine Ev.bind (rsvalid_ev l hs hl) ?_
  refine ev_ite (fun hv=>?_) (fun _=>Ev.now _)
  refine Ev.bind (rcheck_ev l hs hl N) ?_
  refine ev_ite (fun hc=>?_) (fun _=>Ev.now _)
  obtain ⟨hV,n2,Q,hQ,hQl⟩:=chk_vis hc
  refine Ev.bind (rtrim_ev hV N N.length 0 0 0 Q hQ (by omega) sbs0 (by decide) (by decide)) ?_
  exact Ev.now _
theorem rsame_ev (N:List S55) (hn:N.length≤3000):Ev (fun k=>ancepsref40_Same.f k N N) true:=ev_pos rfl (same_loop N hn N.length 0 (by omega))
theorem solveTrim_ev (l:List S35) (N:List S55):Ev (fun k=>ancepslaw40_SolveTrim.f k l N) true:=by
  unfold ancepslaw40_SolveTrim.f
  refine Ev.bind awake_ev (ev_pos rfl ?_)
  obtain ⟨b,hb,hb2⟩:=sfew_ev l
  refine Ev.bind hb ?_
  cases b
  · exact ev_neg (by decide) awake_bind
  · refine ev_pos rfl ?_
    obtain ⟨hs,h18⟩:=hb2 rfl
    by_cases h2:(N.length:Int)>300
    · exact ev_pos h2 awake_bind
    refine ev_neg h2 ?_
    have hlen:(tres l N).1.length≤300:=by
      unfold tres
      split
      · split
        · next hc=>have:=(trm_ok hc).2.2;dsimp only;omega
        · exact Nat.zero_le _
      · exact Nat.zero_le _
    refine Ev.bind (strim_ev l hs (by omega) N (by omega)) ?_
    refine Ev.bind (rTrim_ev l hs (by omega) N (by omega)) ?_
    refine ev_pos rfl ?_
    have hsm:=rsame_ev (tres l N).1 (by omega)
    refine Ev.bind hsm (ev_pos rfl ?_)
    by_cases h0:(tres l N).2=0
    · refine ev_pos h0 ?_
      have hc:chk1 l N=true:=by
        unfold tres at h0
        split at h0
        · split at h0
          · next hc=>exact hc
          · cases h0
        · next hv=>exact absurd h0 hv
      obtain ⟨k1,k2,k3⟩:=trm_ok hc
      have hv:sysv l=0:=by
        unfold chk1 at hc
        split at hc
        · next hv=>exact hv
        · cases hc
      have e1:tres l N=(trm l N,0):=by unfold tres;rw [if_pos hv,if_pos hc]
      have e2:tres l (trm l N)=(trm l N,0):=by unfold tres;rw [if_pos hv,if_pos k1,k2]
      rw [e1] at hlen hsm ⊢
      dsimp only at hlen hsm ⊢
      have i3:=strim_ev l hs (by omega) (trm l N) (by omega)
      rw [e2] at i3
      refine Ev.bind i3 (ev_pos rfl ?_)
      refine Ev.bind hsm (ev_pos rfl ?_)
      have i4:=scheck_ev l hs (by omega) (trm l N)
      rw [k1] at i4
      refine Ev.bind i4 (ev_pos rfl ?_)
      exact ev_eq (Ev.now _) (decide_eq_true (by omega))
    · refine ev_neg h0 ?_
      exact Ev.bind hsm (Ev.now _)
theorem SolveTrim (l0:List (S35)) (l1_0:List (S55)) (w_l0:∀ x,x∈l0→(∀ y,y∈x.f0→(Lit.int .i64 y).wf=true)∧(∀ y,y∈x.f1→(Lit.int .i64 y).wf=true)) (w_l1_0:∀ x,x∈l1_0→(Lit.int .i64 x.f0).wf=true∧(Lit.int .i64 x.f1).wf=true∧(Lit.int .i64 x.f2).wf=true∧(Lit.int .i64 x.f3).wf=true):∃ k,T.ancepslaw40_SolveTrim.f k l0 l1_0=some true:=ev_rounds (solveTrim_ev l0 l1_0)

end Go.Proofs.Ytkaalbbbpebpdaa.Pure
