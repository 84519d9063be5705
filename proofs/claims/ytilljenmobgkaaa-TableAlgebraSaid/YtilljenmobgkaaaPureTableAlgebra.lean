import Derived.Test.YtilljenmobgkaaaA0
import Derived.Test.YtilljenmobgkaaaA1
import Derived.Test.YtilljenmobgkaaaA2
import Derived.Test.YtilljenmobgkaaaA3
import Derived.Test.YtilljenmobgkaaaA4
import Derived.Test.YtilljenmobgkaaaA5
import Derived.Test.YtilljenmobgkaaaA6
import Derived.Test.YtilljenmobgkaaaA7
import Derived.Test.YtilljenmobgkaaaA8
namespace Go.Proofs.Ytilljenmobgkaaa.Pure
open Go.RowKit Go.Proofs.YtilljenmobgkaaaW.PrintWords Go.Proofs.Ytilljenmobgkaaa.A
set_option linter.unusedVariables false
set_option linter.unusedSimpArgs false
theorem w64_in (n:Int) (h : -9223372036854775808≤n∧n≤9223372036854775807):wrap64 n=n:=by unfold wrap64;omega
theorem wrap_succ (i n:Nat) (hi:i<n) (hn:(n:Int)≤9223372036854775807):wrap64 ((i:Int)+1)=((i+1:Nat):Int):=by
  rw [w64_in _ (by omega)];omega
theorem getD_drop {α:Type} (l:List α) (i:Nat) (z:α) (hi:i<l.length):l.drop i=l.getD i z :: l.drop (i+1):=by
  rw [List.drop_eq_getElem_cons hi]
  simp [List.getD,List.getElem?_eq_getElem hi]
theorem ev_pos {α:Type} {c:Prop} [Decidable c] {g f:Nat→Option α} {r:α} (h:c) (e:Ev g r):Ev (fun k=>if c then g k else f k) r:=Ev.congr (fun k=>if_pos h) e
theorem ev_neg {α:Type} {c:Prop} [Decidable c] {g f:Nat→Option α} {r:α} (h:¬ c) (e:Ev f r):Ev (fun k=>if c then g k else f k) r:=Ev.congr (fun k=>if_neg h) e
theorem ev_eq {α:Type} {g:Nat→Option α} {r s:α} (e:Ev g r) (h:r=s):Ev g s:=h ▸ e
theorem ev_ite {α:Type} {c:Prop} [Decidable c] {g f:Nat→Option α} {r s:α} (h1:c→Ev g r) (h2:¬ c→Ev f s):Ev (fun k=>if c then g k else f k) (if c then r else s):=by
  by_cases h:c
  · rw [if_pos h];exact ev_pos h (h1 h)
  · rw [if_neg h];exact ev_neg h (h2 h)
theorem ev_rounds {α:Type} {g:Nat→Option α} {r:α} (h:Ev g r):∃ k,g k=some r:=h.elim fun K h=>⟨K,h K (Nat.le_refl _)⟩

def chk (hi:Int):Option Int→List Int→Int
  | _,[]=>0
  | none,x :: xs=>if x<0∨hi≤x then 6 else chk hi (some x) xs
  | some q,x :: xs=>if x<0∨hi≤x then 6 else if x≤q then 18 else chk hi (some x) xs
def Chn (hi:Int):Option Int→List Int→Prop
  | _,[]=>True
  | p,x :: xs=>0≤x∧x<hi∧(∀ q,p=some q→q<x)∧Chn hi (some x) xs
theorem chk_Chn (hi:Int):∀ (xs:List Int) (p:Option Int),chk hi p xs=0↔Chn hi p xs
  | [],p=>by cases p <;> simp [chk,Chn]
  | x :: xs,p=>by
    have ih:=chk_Chn hi xs (some x)
    cases p with
    | none=>
      simp only [chk,Chn]
      by_cases h:x<0∨hi≤x
      · rw [if_pos h];exact ⟨fun h=>by omega,fun h2=>by omega⟩
      · rw [if_neg h,ih];exact ⟨fun h2=>⟨by omega,by omega,(fun q hq=>by cases hq),h2⟩,fun h2=>h2.2.2.2⟩
    | some q=>
      simp only [chk,Chn]
      by_cases h:x<0∨hi≤x
      · rw [if_pos h];exact ⟨fun h=>by omega,fun h2=>by omega⟩
      · rw [if_neg h]
        by_cases h1:x≤q
        · rw [if_pos h1];exact ⟨fun h=>by omega,fun h2=>by have:=h2.2.2.1 q rfl;omega⟩
        · rw [if_neg h1,ih];exact ⟨fun h2=>⟨by omega,by omega,fun q' hq=>by injection hq;omega,h2⟩,fun h2=>h2.2.2.2⟩
def prv (xs:List Int) (i:Nat):Option Int:=if i=0 then none else some (rd xs ((i:Int) - 1))
theorem prv_succ (xs:List Int) (i:Nat):prv xs (i+1)=some (rd xs i):=by
  unfold prv;rw [if_neg (by omega)];congr 2;omega
theorem rd_at (l:List Int) (i:Nat) (hi:i<l.length):l.drop i=rd l i :: l.drop (i+1):=getD_drop l i 0 hi
theorem rd_mem (ps:List Int) (i:Nat) (hi:i<ps.length):rd ps i∈ps:=by
  unfold rd
  simp only [Int.toNat_natCast,List.getD,List.getElem?_eq_getElem hi,Option.getD_some]
  exact List.getElem_mem hi
theorem shl1 (n:Nat) (h:n≤60):shl .i64 1 (n:Int)=((2 ^ n:Nat):Int):=by
  have h2:(2:Nat) ^ n≤2 ^ 60:=Nat.pow_le_pow_right (by decide) h
  unfold shl
  have e:min ((n:Int)).toNat IntKind.i64.bits=n:=by
    have:IntKind.i64.bits=64:=rfl
    rw [this];omega
  rw [e,Int.one_mul,show ((2:Int) ^ n)=((2 ^ n:Nat):Int) by simp]
  have h3:(2:Nat) ^ 60=1152921504606846976:=by decide
  rw [h3] at h2
  generalize (2:Nat) ^ n=z at h2 ⊢
  rw [IntKind.wrap_i64]
  omega
def asc (vs:List Int):Int:=if (vs.length:Int)>10 then 3 else chk 24 none vs
def valid (vs rs:List Int):Int:=if asc vs=0 then chk ((2 ^ vs.length:Nat):Int) none rs else asc vs
theorem asc_loop (vs:List Int) (hl:(vs.length:Int)≤9223372036854775807):∀ (d i:Nat),i+d=vs.length→Ev (fun k=>table_ascending.l0 k vs vs vs.length i) (chk 24 (prv vs i) (vs.drop i))
  | 0,i,h=>by
    rw [List.drop_eq_nil_of_le (by omega)]
    refine Ev.step (f:=fun _=>some 0) (fun k=>by rw [table_ascending.l0,if_neg (by omega)]) ?_
    cases prv vs i <;> exact Ev.now _
  | d+1,i,h=>by
    have hi:i<vs.length:=by omega
    have hw:=wrap_succ i vs.length hi hl
    have ih:=asc_loop vs hl d (i+1) (by omega)
    rw [prv_succ] at ih
    rw [rd_at vs i hi]
    have hj:rd vs i<0∨24≤rd vs i→∀ p,chk 24 p (rd vs i :: vs.drop (i+1))=6:=fun h p=>by cases p <;> simp only [chk] <;> rw [if_pos h]
    by_cases h0:rd vs i<0
    · rw [hj (.inl h0)]
      exact Ev.step (f:=fun _=>some 6) (fun k=>by rw [table_ascending.l0,if_pos (by omega),if_pos (by omega),if_pos (by omega),if_pos h0]) (Ev.now _)
    · by_cases h1:rd vs i≥24
      · rw [hj (.inr h1)]
        exact Ev.step (f:=fun _=>some 6) (fun k=>by rw [table_ascending.l0,if_pos (by omega),if_pos (by omega),if_pos (by omega),if_neg h0,if_pos h1]) (Ev.now _)
      · by_cases e:i=0
        · have ep:prv vs i=none:=by unfold prv;rw [if_pos e]
          rw [ep]
          simp only [chk]
          rw [if_neg (by omega)]
          refine Ev.step (fun k=>by rw [table_ascending.l0,if_pos (by omega),if_pos (by omega),if_pos (by omega),if_neg h0,if_neg h1,if_neg (by omega),hw]) ih
        · have ep:prv vs i=some (rd vs ((i:Int) - 1)):=by unfold prv;rw [if_neg e]
          rw [ep]
          simp only [chk]
          rw [if_neg (by omega)]
          by_cases h2:rd vs i≤rd vs ((i:Int) - 1)
          · rw [if_pos h2]
            exact Ev.step (f:=fun _=>some 18) (fun k=>by rw [table_ascending.l0,if_pos (by omega),if_pos (by omega),if_pos (by omega),if_neg h0,if_neg h1,if_pos (by omega),w64_in ((i:Int) - 1) (by omega),if_pos (by omega),if_pos (by omega),if_pos (by omega)]) (Ev.now _)
          · rw [if_neg h2]
            refine Ev.step (fun k=>by rw [table_ascending.l0,if_pos (by omega),if_pos (by omega),if_pos (by omega),if_neg h0,if_neg h1,if_pos (by omega),w64_in ((i:Int) - 1) (by omega),if_pos (by omega),if_pos (by omega),if_neg (by omega),hw]) ih
theorem asc_ev (vs:List Int) (hl:(vs.length:Int)≤9223372036854775807):Ev (fun k=>table_ascending.f k vs) (asc vs):=by
  unfold asc table_ascending.f
  refine ev_ite (fun _=>Ev.now _) (fun _=>?_)
  simpa [prv] using asc_loop vs hl vs.length 0 (by omega)
theorem valid_loop (vs rs:List Int) (hv:vs.length≤10) (hl:(rs.length:Int)≤9223372036854775807):∀ (d i:Nat),i+d=rs.length→Ev (fun k=>table_Valid.l0 k rs rs.length i vs rs) (chk ((2 ^ vs.length:Nat):Int) (prv rs i) (rs.drop i))
  | 0,i,h=>by
    rw [List.drop_eq_nil_of_le (by omega)]
    refine Ev.step (f:=fun _=>some 0) (fun k=>by rw [table_Valid.l0,if_neg (by omega)]) ?_
    cases prv rs i <;> exact Ev.now _
  | d+1,i,h=>by
    have hi:i<rs.length:=by omega
    have hw:=wrap_succ i rs.length hi hl
    have ih:=valid_loop vs rs hv hl d (i+1) (by omega)
    have hs:=shl1 vs.length (by omega)
    rw [prv_succ] at ih
    rw [rd_at rs i hi]
    have hj:rd rs i<0∨((2 ^ vs.length:Nat):Int)≤rd rs i→∀ p,chk ((2 ^ vs.length:Nat):Int) p (rd rs i :: rs.drop (i+1))=6:=fun h p=>by cases p <;> simp only [chk] <;> rw [if_pos h]
    by_cases h0:rd rs i<0
    · rw [hj (.inl h0)]
      exact Ev.step (f:=fun _=>some 6) (fun k=>by rw [table_Valid.l0,if_pos (by omega),if_pos (by omega),if_pos (by omega),if_pos h0]) (Ev.now _)
    · by_cases h1:rd rs i≥((2 ^ vs.length:Nat):Int)
      · rw [hj (.inr h1)]
        exact Ev.step (f:=fun _=>some 6) (fun k=>by rw [table_Valid.l0,if_pos (by omega),if_pos (by omega),if_pos (by omega),if_neg h0,hs,if_pos h1]) (Ev.now _)
      · by_cases e:i=0
        · have ep:prv rs i=none:=by unfold prv;rw [if_pos e]
          rw [ep]
          simp only [chk]
          rw [if_neg (by omega)]
          refine Ev.step (fun k=>by rw [table_Valid.l0,if_pos (by omega),if_pos (by omega),if_pos (by omega),if_neg h0,hs,if_neg h1,if_neg (by omega),hw]) ih
        · have ep:prv rs i=some (rd rs ((i:Int) - 1)):=by unfold prv;rw [if_neg e]
          rw [ep]
          simp only [chk]
          rw [if_neg (by omega)]
          by_cases h2:rd rs i≤rd rs ((i:Int) - 1)
          · rw [if_pos h2]
            exact Ev.step (f:=fun _=>some 18) (fun k=>by rw [table_Valid.l0,if_pos (by omega),if_pos (by omega),if_pos (by omega),if_neg h0,hs,if_neg h1,if_pos (by omega),w64_in ((i:Int) - 1) (by omega),if_pos (by omega),if_pos (by omega),if_pos (by omega)]) (Ev.now _)
          · rw [if_neg h2]
            refine Ev.step (fun k=>by rw [table_Valid.l0,if_pos (by omega),if_pos (by omega),if_pos (by omega),if_neg h0,hs,if_neg h1,if_pos (by omega),w64_in ((i:Int) - 1) (by omega),if_pos (by omega),if_pos (by omega),if_neg (by omega),hw]) ih
theorem asc_len {vs:List Int} (h:asc vs=0):vs.length≤10:=by
  unfold asc at h
  by_cases h1:(vs.length:Int)>10
  · rw [if_pos h1] at h;omega
  · omega
theorem valid_ev (vs rs:List Int) (hl:(vs.length:Int)≤9223372036854775807) (hr:(rs.length:Int)≤9223372036854775807):Ev (fun k=>table_Valid.f k vs rs) (valid vs rs):=by
  unfold valid
  refine Ev.bind (asc_ev vs hl) ?_
  refine ev_ite (fun h=>?_) (fun _=>Ev.now _)
  simpa [prv] using valid_loop vs rs (asc_len h) hr rs.length 0 (by omega)
structure VT (vs rs:List Int):Prop where
  len:vs.length≤10
  vars:Chn 24 none vs
  rows:Chn ((2 ^ vs.length:Nat):Int) none rs
theorem asc_iff (vs:List Int):asc vs=0↔vs.length≤10∧Chn 24 none vs:=by
  unfold asc
  by_cases h1:(vs.length:Int)>10
  · rw [if_pos h1];exact ⟨fun h=>by omega,fun h=>by omega⟩
  · rw [if_neg h1,chk_Chn];exact ⟨fun h=>⟨by omega,h⟩,fun h=>h.2⟩
theorem valid_VT (vs rs:List Int):valid vs rs=0↔VT vs rs:=by
  unfold valid
  by_cases h:asc vs=0
  · rw [if_pos h,chk_Chn]
    have:=(asc_iff vs).1 h
    exact ⟨fun h=>⟨this.1,this.2,h⟩,fun h=>h.rows⟩
  · rw [if_neg h]
    exact ⟨fun h2=>absurd h2 h,fun h2=>absurd ((asc_iff vs).2 ⟨h2.len,h2.vars⟩) h⟩
theorem Chn.mem {hi:Int}:∀ {ns:List Int} {p:Option Int},Chn hi p ns→∀ n,n∈ns→0≤n∧n<hi∧∀ q,p=some q→q<n
  | [],_,_,n,h=>by simp at h
  | m :: ns,p,⟨h0,h1,h2,h3⟩,n,h=>by
    rcases List.mem_cons.1 h with rfl|h
    · exact ⟨h0,h1,h2⟩
    · have:=Chn.mem h3 n h
      exact ⟨this.1,this.2.1,fun q hq=>by have:=this.2.2 m rfl;have:=h2 q hq;omega⟩
theorem Chn.same {hi hi':Int}:∀ {xs ys:List Int} {p q:Option Int},Chn hi p xs→Chn hi' q ys→(∀ n,n∈xs↔n∈ys)→xs=ys
  | [],[],_,_,_,_,_=>rfl
  | [],y :: ys,_,_,_,_,h=>by have:=(h y).2 List.mem_cons_self;simp at this
  | x :: xs,[],_,_,_,_,h=>by have:=(h x).1 List.mem_cons_self;simp at this
  | x :: xs,y :: ys,p,q,⟨a0,a1,a2,a3⟩,⟨b0,b1,b2,b3⟩,h=>by
    have e:x=y:=by
      rcases List.mem_cons.1 ((h x).1 List.mem_cons_self) with h1|h1
      · exact h1
      · rcases List.mem_cons.1 ((h y).2 List.mem_cons_self) with h2|h2
        · exact h2.symm
        · have:=(b3.mem x h1).2.2 y rfl
          have:=(a3.mem y h2).2.2 x rfl
          omega
    subst e
    refine congrArg (x :: ·) (Chn.same a3 b3 (fun n=>⟨fun hn=>?_,fun hn=>?_⟩))
    · rcases List.mem_cons.1 ((h n).1 (List.mem_cons_of_mem _ hn)) with h1|h1
      · have:=(a3.mem n hn).2.2 x rfl;omega
      · exact h1
    · rcases List.mem_cons.1 ((h n).2 (List.mem_cons_of_mem _ hn)) with h1|h1
      · have:=(b3.mem n hn).2.2 x rfl;omega
      · exact h1
theorem Chn.filter {hi:Int} (f:Int→Bool):∀ {xs:List Int} {p:Option Int},Chn hi p xs→Chn hi p (xs.filter f)
  | [],_,h=>h
  | x :: xs,p,⟨h0,h1,h2,h3⟩=>by
    have ih:=h3.filter f
    rw [List.filter_cons]
    split
    · exact ⟨h0,h1,h2,ih⟩
    · revert ih
      generalize xs.filter f=zs
      intro ih
      cases zs with
      | nil=>trivial
      | cons z zs=>exact ⟨ih.1,ih.2.1,fun q hq=>by have:=h2 q hq;have:=ih.2.2.1 x rfl;omega,ih.2.2.2⟩
theorem bit_add (b:Bool) (out i:Nat) (h:out<2 ^ i) (j:Nat):(out+b.toNat * 2 ^ i).testBit j=(out.testBit j||(b&&decide (j=i))):=by
  rw [show out+b.toNat * 2 ^ i=2 ^ i * b.toNat+out by rw [Nat.mul_comm,Nat.add_comm],Nat.testBit_two_pow_mul_add _ h]
  by_cases hj:j<i
  · rw [if_pos hj]
    have:decide (j=i)=false:=decide_eq_false (by omega)
    rw [this,Bool.and_false,Bool.or_false]
  · rw [if_neg hj]
    have h1:out.testBit j=false:=Nat.testBit_lt_two_pow (Nat.lt_of_lt_of_le h (Nat.pow_le_pow_right (by decide) (by omega)))
    rw [h1,Bool.false_or]
    by_cases e:j=i
    · subst e;rw [Nat.sub_self];cases b <;> simp
    · have:decide (j=i)=false:=decide_eq_false e
      rw [this,Bool.and_false]
      refine Nat.testBit_lt_two_pow ?_
      have h2:b.toNat<2:=by cases b <;> simp
      have h3:2 ^ 1≤2 ^ (j - i):=Nat.pow_le_pow_right (by decide) (by omega)
      omega
theorem add_lt (b:Bool) (out i:Nat) (h:out<2 ^ i):out+b.toNat * 2 ^ i<2 ^ (i+1):=by
  rw [Nat.pow_succ]
  cases b
  · simp;omega
  · simp;omega
theorem or_bit (x n i:Nat) (out:Nat) (hx:x<2 ^ 60) (hn:n≤60) (hi:i≤60) (ho:out<2 ^ i) :
    Go.bits .or .i64 (out:Int) (shl .i64 (Go.bits .and .i64 (shr .i64 (x:Int) (n:Int)) 1) (i:Int))=((out+(x.testBit n).toNat * 2 ^ i:Nat):Int):=by
  have hw:∀ z:Int,0≤z→z<2 ^ 62→IntKind.i64.wrap z=z:=fun z h0 h1=>by
    rw [IntKind.wrap_i64]
    have:(2:Int) ^ 62=4611686018427387904:=by decide
    omega
  have hb:IntKind.i64.bits=64:=rfl
  have h1:shr .i64 (x:Int) (n:Int)=((x / 2 ^ n:Nat):Int):=by
    unfold shr
    rw [hb,show min ((n:Int)).toNat 64=n by omega]
    simp
  have hxd:x / 2 ^ n<2 ^ 62:=Nat.lt_of_le_of_lt (Nat.div_le_self _ _) (Nat.lt_of_lt_of_le hx (by decide))
  have h2:Go.bits .and .i64 ((x / 2 ^ n:Nat):Int) 1=(((x.testBit n).toNat:Nat):Int):=by
    have:=(bits_nat .i64 62 (by decide) hw (x / 2 ^ n) 1 hxd (by decide)).1
    rw [Nat.and_one_is_mod,← Nat.toNat_testBit] at this
    exact this
  have hip:(2:Nat) ^ i≤2 ^ 60:=Nat.pow_le_pow_right (by decide) hi
  have h60:(2:Nat) ^ 60=1152921504606846976:=by decide
  have hbl:(x.testBit n).toNat * 2 ^ i≤2 ^ i:=by cases x.testBit n <;> simp
  have h3:shl .i64 (((x.testBit n).toNat:Nat):Int) (i:Int)=(((x.testBit n).toNat * 2 ^ i:Nat):Int):=by
    unfold shl
    rw [hb,show min ((i:Int)).toNat 64=i by omega]
    have e:(((x.testBit n).toNat:Nat):Int) * 2 ^ i=(((x.testBit n).toNat * 2 ^ i:Nat):Int):=by simp
    rw [e]
    exact hw _ (by omega) (by have:(2:Int) ^ 62=4611686018427387904:=by decide
                              omega)
  rw [h1,h2,h3]
  have h62:(2:Nat) ^ 62=4611686018427387904:=by decide
  rw [(bits_nat .i64 62 (by decide) hw out _ (by omega) (by omega)).2]
  congr 1
  rw [Nat.or_comm,Nat.mul_comm,← Nat.two_pow_add_eq_or_of_lt ho,Nat.add_comm]
def rowF (a:Nat):List Int→Nat→Nat→Nat
  | [],_,out=>out
  | v :: vs,i,out=>rowF a vs (i+1) (out+(a.testBit v.toNat).toNat * 2 ^ i)
def asgF (r:Nat):List Int→Nat→Nat→Nat
  | [],_,out=>out
  | v :: vs,i,out=>asgF r vs (i+1) (out+(r.testBit i).toNat * 2 ^ v.toNat)
theorem rowF_lt (a:Nat):∀ (vs:List Int) (i out:Nat),out<2 ^ i→rowF a vs i out<2 ^ (i+vs.length)
  | [],_,_,h=>h
  | v :: vs,i,out,h=>by
    have:=rowF_lt a vs (i+1) _ (add_lt (a.testBit v.toNat) out i h)
    rw [rowF,List.length_cons,show i+(vs.length+1)=i+1+vs.length by omega]
    exact this
theorem rowF_bit (a:Nat):∀ (vs:List Int) (i out:Nat),out<2 ^ i→∀ j,((rowF a vs i out).testBit j=true↔out.testBit j=true∨∃ m v,vs[m]?=some v∧j=i+m∧a.testBit v.toNat=true)
  | [],_,_,_,j=>by simp [rowF]
  | v :: vs,i,out,h,j=>by
    rw [rowF,rowF_bit a vs (i+1) _ (add_lt (a.testBit v.toNat) out i h) j,bit_add _ _ _ h]
    constructor
    · rintro (h1|⟨m,u,h1,h2,h3⟩)
      · rcases Bool.or_eq_true_iff.1 h1 with h1|h1
        · exact .inl h1
        · rw [Bool.and_eq_true,decide_eq_true_eq] at h1
          exact .inr ⟨0,v,rfl,by omega,h1.1⟩
      · exact .inr ⟨m+1,u,by simpa using h1,by omega,h3⟩
    · rintro (h1|⟨m,u,h1,h2,h3⟩)
      · exact .inl (by rw [h1];rfl)
      · cases m with
        | zero=>
          obtain rfl:v=u:=by simpa using h1
          exact .inl (by rw [h3,decide_eq_true (show j=i by omega)];simp)
        | succ m=>exact .inr ⟨m,u,by simpa using h1,by omega,h3⟩
def Under (out:Nat):List Int→Prop
  | []=>True
  | v :: _=>out<2 ^ v.toNat
theorem under_next {hi:Int} {v:Int} {vs:List Int} (h:Chn hi (some v) vs) (h0:0≤v) {out:Nat} (ho:out<2 ^ (v.toNat+1)):Under out vs:=by
  cases vs with
  | nil=>trivial
  | cons u us=>
    have:=h.2.2.1 v rfl
    exact Nat.lt_of_lt_of_le ho (Nat.pow_le_pow_right (by decide) (by omega))
theorem asgF_bit (r:Nat) {hi:Int}:∀ (vs:List Int) (p:Option Int) (i out:Nat),Chn hi p vs→Under out vs→∀ j,((asgF r vs i out).testBit j=true↔out.testBit j=true∨∃ m v,vs[m]?=some v∧j=v.toNat∧r.testBit (i+m)=true)
  | [],_,_,_,_,_,j=>by simp [asgF]
  | v :: vs,p,i,out,⟨h0,h1,h2,h3⟩,hu,j=>by
    have hl:=add_lt (r.testBit i) out v.toNat hu
    rw [asgF,asgF_bit r vs (some v) (i+1) _ h3 (under_next h3 h0 hl) j,bit_add _ _ _ hu]
    constructor
    · rintro (h1|⟨m,u,h1,h2,h3⟩)
      · rcases Bool.or_eq_true_iff.1 h1 with h1|h1
        · exact .inl h1
        · rw [Bool.and_eq_true,decide_eq_true_eq] at h1
          exact .inr ⟨0,v,rfl,h1.2,h1.1⟩
      · exact .inr ⟨m+1,u,by simpa using h1,h2,by rw [show i+(m+1)=i+1+m by omega];exact h3⟩
    · rintro (h1|⟨m,u,h1,h2,h3⟩)
      · exact .inl (by rw [h1];rfl)
      · cases m with
        | zero=>
          obtain rfl:v=u:=by simpa using h1
          rw [Nat.add_zero] at h3
          exact .inl (by rw [h3,decide_eq_true h2];simp)
        | succ m=>exact .inr ⟨m,u,by simpa using h1,h2,by rw [show i+1+m=i+(m+1) by omega];exact h3⟩
theorem asgF_lt (r:Nat) {hi:Int} (hhi:0≤hi):∀ (vs:List Int) (p:Option Int) (i out:Nat),Chn hi p vs→Under out vs→out<2 ^ hi.toNat→asgF r vs i out<2 ^ hi.toNat
  | [],_,_,_,_,_,ho=>ho
  | v :: vs,p,i,out,⟨h0,h1,h2,h3⟩,hu,_=>by
    have hl:=add_lt (r.testBit i) out v.toNat hu
    rw [asgF]
    refine asgF_lt r hhi vs (some v) (i+1) _ h3 (under_next h3 h0 hl) (Nat.lt_of_lt_of_le hl (Nat.pow_le_pow_right (by decide) (by omega)))
def row (vs:List Int) (a:Nat):Nat:=rowF a vs 0 0
def asg (vs:List Int) (r:Nat):Nat:=asgF r vs 0 0
theorem row_lt (vs:List Int) (a:Nat):row vs a<2 ^ vs.length:=by
  have:=rowF_lt a vs 0 0 (by decide)
  rw [Nat.zero_add] at this
  exact this
theorem row_bit (vs:List Int) (a j:Nat):(row vs a).testBit j=true↔∃ v,vs[j]?=some v∧a.testBit v.toNat=true:=by
  unfold row
  rw [rowF_bit a vs 0 0 (by decide)]
  constructor
  · rintro (h|⟨m,v,h1,h2,h3⟩)
    · simp at h
    · obtain rfl:j=m:=by omega
      exact ⟨v,h1,h3⟩
  · rintro ⟨v,h1,h2⟩
    exact .inr ⟨j,v,h1,by omega,h2⟩
theorem under_zero (vs:List Int):Under 0 vs:=by cases vs <;> simp [Under,Nat.two_pow_pos]
theorem asg_bit {hi:Int} {vs:List Int} (h:Chn hi none vs) (r j:Nat):(asg vs r).testBit j=true↔∃ m v,vs[m]?=some v∧j=v.toNat∧r.testBit m=true:=by
  unfold asg
  rw [asgF_bit r vs none 0 0 h (under_zero vs)]
  simp
theorem asg_lt {vs:List Int} (h:Chn 24 none vs) (r:Nat):asg vs r<2 ^ 24:=asgF_lt r (by decide) vs none 0 0 h (under_zero vs) (Nat.two_pow_pos _)
theorem Chn.inj {hi:Int}:∀ {vs:List Int} {p:Option Int},Chn hi p vs→∀ (i j:Nat) (u v:Int),vs[i]?=some u→vs[j]?=some v→u.toNat=v.toNat→i=j
  | [],_,_,i,j,u,v,h,_,_=>by simp at h
  | x :: xs,p,⟨h0,h1,h2,h3⟩,i,j,u,v,hi,hj,e=>by
    cases i with
    | zero=>
      obtain rfl:x=u:=by simpa using hi
      cases j with
      | zero=>rfl
      | succ j=>
        have hj':xs[j]?=some v:=by simpa using hj
        have:=h3.mem v (List.mem_of_getElem? hj')
        have:=this.2.2 x rfl
        omega
    | succ i=>
      have hi':xs[i]?=some u:=by simpa using hi
      cases j with
      | zero=>
        obtain rfl:x=v:=by simpa using hj
        have:=h3.mem u (List.mem_of_getElem? hi')
        have:=this.2.2 x rfl
        omega
      | succ j=>rw [Chn.inj h3 i j u v hi' (by simpa using hj) e]
theorem row_asg {hi:Int} {vs:List Int} (h:Chn hi none vs) {r:Nat} (hr:r<2 ^ vs.length):row vs (asg vs r)=r:=by
  apply Nat.eq_of_testBit_eq
  intro j
  rw [Bool.eq_iff_iff,row_bit]
  constructor
  · rintro ⟨v,hv,hb⟩
    obtain ⟨m,u,hm,e,hr⟩:=(asg_bit h r _).1 hb
    rw [h.inj j m v u hv hm e];exact hr
  · intro hb
    have hj:j<vs.length:=by
      rcases Nat.lt_or_ge j vs.length with h1|h1
      · exact h1
      · rw [Nat.testBit_lt_two_pow (Nat.lt_of_lt_of_le hr (Nat.pow_le_pow_right (by decide) h1))] at hb;exact absurd hb (by simp)
    exact ⟨vs[j],List.getElem?_eq_getElem hj,(asg_bit h r _).2 ⟨j,vs[j],List.getElem?_eq_getElem hj,rfl,hb⟩⟩

theorem nat_of {v:Int} (h:0≤v):v=((v.toNat:Nat):Int):=by omega
theorem row_loop (vs:List Int) (hv:∀ v,v∈vs→0≤v∧v<24) (hl:vs.length≤24) (a:Nat) (ha:a<2 ^ 60):∀ (d i out:Nat),i+d=vs.length→out<2 ^ i→
    Ev (fun k=>table_row.l0 k (a:Int) (out:Int) vs vs.length i) ((rowF a (vs.drop i) i out:Nat):Int)
  | 0,i,out,h,ho=>by
    rw [List.drop_eq_nil_of_le (by omega)]
    exact Ev.step (f:=fun _=>some (out:Int)) (fun k=>by rw [table_row.l0,if_neg (by omega)]) (Ev.now _)
  | d+1,i,out,h,ho=>by
    have hi:i<vs.length:=by omega
    have hw:=wrap_succ i vs.length hi (by omega)
    have hm:=hv _ (rd_mem vs i hi)
    have ih:=row_loop vs hv hl a ha d (i+1) _ (by omega) (add_lt (a.testBit (rd vs i).toNat) out i ho)
    rw [rd_at vs i hi,rowF]
    refine Ev.step (fun k=>?_) ih
    rw [table_row.l0,if_pos (by omega),if_pos (by omega),if_pos (by omega),if_pos (by omega),hw]
    have hb:=or_bit a (rd vs i).toNat i out ha (by omega) (by omega) ho
    rw [← nat_of hm.1] at hb
    rw [hb]
theorem row_ev (vs:List Int) (hv:∀ v,v∈vs→0≤v∧v<24) (hl:vs.length≤24) (a:Nat) (ha:a<2 ^ 60):Ev (fun k=>table_row.f k vs (a:Int)) ((row vs a:Nat):Int):=by
  have:=row_loop vs hv hl a ha vs.length 0 0 (by omega) (by decide)
  exact this
theorem asg_loop {vs:List Int} (r:Nat) (hr:r<2 ^ 60) (hl:vs.length≤24):∀ (d i out:Nat) (p:Option Int),i+d=vs.length→Chn 24 p (vs.drop i)→Under out (vs.drop i)→
    Ev (fun k=>table_assignment.l0 k (r:Int) (out:Int) vs vs.length i) ((asgF r (vs.drop i) i out:Nat):Int)
  | 0,i,out,p,h,hc,ho=>by
    rw [List.drop_eq_nil_of_le (by omega)]
    exact Ev.step (f:=fun _=>some (out:Int)) (fun k=>by rw [table_assignment.l0,if_neg (by omega)]) (Ev.now _)
  | d+1,i,out,p,h,hc,ho=>by
    have hi:i<vs.length:=by omega
    have hw:=wrap_succ i vs.length hi (by omega)
    rw [rd_at vs i hi] at hc ho ⊢
    have hx:=add_lt (r.testBit i) out (rd vs i).toNat ho
    have ih:=asg_loop r hr hl d (i+1) _ (some (rd vs i)) (by omega) hc.2.2.2 (under_next hc.2.2.2 hc.1 hx)
    rw [asgF]
    refine Ev.step (fun k=>?_) ih
    have h0:=hc.1
    have h1:=hc.2.1
    rw [table_assignment.l0,if_pos (by omega),if_pos (by omega),if_pos (by omega),if_pos (by omega),hw]
    have hb:=or_bit r i (rd vs i).toNat out hr (by omega) (by omega) ho
    rw [← nat_of h0] at hb
    rw [hb]
theorem asg_ev {vs:List Int} (hc:Chn 24 none vs) (hl:vs.length≤24) (r:Nat) (hr:r<2 ^ 60):Ev (fun k=>table_assignment.f k vs (r:Int)) ((asg vs r:Nat):Int):=by
  have:=asg_loop r hr hl vs.length 0 0 none (by omega) hc (under_zero _)
  exact this
theorem Chn.below {hi:Int}:∀ {xs:List Int} {p:Option Int},Chn hi p xs→∀ (i j:Nat) (x y:Int),i<j→xs[i]?=some x→xs[j]?=some y→x<y
  | [],_,_,i,j,x,y,_,h,_=>by simp at h
  | z :: zs,p,⟨_,_,_,h3⟩,i,j,x,y,hij,hx,hy=>by
    cases j with
    | zero=>omega
    | succ j=>
      have hy':zs[j]?=some y:=by simpa using hy
      cases i with
      | zero=>
        obtain rfl:z=x:=by simpa using hx
        exact (h3.mem y (List.mem_of_getElem? hy')).2.2 z rfl
      | succ i=>exact Chn.below h3 i j x y (by omega) (by simpa using hx) hy'
theorem rd_get (xs:List Int) (i:Nat) (h:i<xs.length):xs[i]?=some (rd xs i):=by
  simp [rd,List.getD,List.getElem?_eq_getElem h]
theorem u64_wrap (n:Int) (h0:0≤n) (h1:n≤9223372036854775807):IntKind.u64.wrap n=n:=by
  simp [IntKind.wrap,IntKind.bits,IntKind.signed];omega
theorem search_loop {hi:Int} {rs:List Int} (hc:Chn hi none rs) (hl:(rs.length:Int)≤1000000) (x:Int):∀ (d i j:Nat),j - i≤d→i≤j→j≤rs.length→(∀ m y,m<i→rs[m]?=some y→y<x)→(∀ m y,j≤m→rs[m]?=some y→x≤y)→
    ∃ q:Int×Bool,Ev (fun k=>slices_BinarySearch_int_int.l0 k rs x rs.length i j) q∧(q.2=true↔x∈rs)
  | d,i,j,hd,hij,hj,hlo,hhi=>by
    by_cases h:i<j
    · cases d with
      | zero=>omega
      | succ d=>
        have hh:(wrap64 ((IntKind.u64.wrap (wrap64 ((i:Int)+(j:Int)))) / 2))=(((i+j) / 2:Nat):Int):=by
          rw [w64_in ((i:Int)+j) (by omega),u64_wrap _ (by omega) (by omega),w64_in _ (by omega)];omega
        have hm:(i+j) / 2<rs.length:=by omega
        have hg:=rd_get rs ((i+j) / 2) hm
        have hless:cmp_Less_int.f (rd rs (((i+j) / 2:Nat):Int)) x=some (decide (rd rs (((i+j) / 2:Nat):Int)<x)):=by
          simp [cmp_Less_int.f,cmp_isNaN_int.f]
        by_cases hx:rd rs (((i+j) / 2:Nat):Int)<x
        · obtain ⟨q,hq,hqi⟩:=search_loop hc hl x d ((i+j) / 2+1) j (by omega) (by omega) hj (fun m y hm2 hy=>by
            by_cases e:m=(i+j) / 2
            · subst e;rw [hg] at hy;injection hy with hy;omega
            · have:=hc.below m ((i+j) / 2) y _ (by omega) hy hg;omega) hhi
          refine ⟨q,Ev.step (fun k=>?_) hq,hqi⟩
          rw [slices_BinarySearch_int_int.l0,if_pos (by omega),hh,if_pos (by omega),if_pos (by omega),hless,Option.bind_some,if_pos (decide_eq_true hx),w64_in _ (by omega)]
          rfl
        · obtain ⟨q,hq,hqi⟩:=search_loop hc hl x d i ((i+j) / 2) (by omega) (by omega) (by omega) hlo (fun m y hm2 hy=>by
            by_cases e:m=(i+j) / 2
            · subst e;rw [hg] at hy;injection hy with hy;omega
            · have:=hc.below ((i+j) / 2) m _ y (by omega) hg hy;omega)
          refine ⟨q,Ev.step (fun k=>?_) hq,hqi⟩
          rw [slices_BinarySearch_int_int.l0,if_pos (by omega),hh,if_pos (by omega),if_pos (by omega),hless,Option.bind_some,if_neg (by simpa using hx)]
    · have e:i=j:=by omega
      subst e
      by_cases hn:i<rs.length
      · have hg:=rd_get rs i hn
        by_cases hx:rd rs i=x
        · refine ⟨((i:Int),true),Ev.step (f:=fun _=>some ((i:Int),true)) (fun k=>?_) (Ev.now _),⟨fun _=>hx ▸ rd_mem rs i hn,fun _=>rfl⟩⟩
          rw [slices_BinarySearch_int_int.l0,if_neg (by omega),if_pos (by omega),if_pos (by omega),if_pos (by omega),if_pos hx]
        · refine ⟨((i:Int),false),Ev.step (f:=fun _=>some ((i:Int),false)) (fun k=>?_) (Ev.now _),⟨fun h=>by simp at h,fun hm=>?_⟩⟩
          · rw [slices_BinarySearch_int_int.l0,if_neg (by omega),if_pos (by omega),if_pos (by omega),if_pos (by omega),if_neg hx]
            simp [slices_isNaN_int.f]
          · obtain ⟨m,hm2⟩:=List.getElem?_of_mem hm
            rcases Nat.lt_trichotomy m i with h2|h2|h2
            · have:=hlo m x h2 hm2;omega
            · subst h2;rw [hg] at hm2;injection hm2 with hm2;exact absurd hm2 hx
            · have h3:=hc.below i m _ x h2 hg hm2
              have h4:=hhi i _ (Nat.le_refl _) hg
              omega
      · refine ⟨((i:Int),false),Ev.step (f:=fun _=>some ((i:Int),false)) (fun k=>?_) (Ev.now _),⟨fun h=>by simp at h,fun hm=>?_⟩⟩
        · rw [slices_BinarySearch_int_int.l0,if_neg (by omega),if_neg (by omega)]
        · obtain ⟨m,hm2⟩:=List.getElem?_of_mem hm
          have hml:m<rs.length:=(List.getElem?_eq_some_iff.1 hm2).1
          have:=hlo m x (by omega) hm2;omega
theorem search_ev {hi:Int} {rs:List Int} (hc:Chn hi none rs) (hl:(rs.length:Int)≤1000000) (x:Int):∃ q:Int×Bool,Ev (fun k=>slices_BinarySearch_int_int.f k rs x) q∧q.2=decide (x∈rs):=by
  obtain ⟨q,hq,hqi⟩:=search_loop hc hl x rs.length 0 rs.length (by omega) (by omega) (Nat.le_refl _) (fun m y h=>by omega) (fun m y h hy=>by
    have:=(List.getElem?_eq_some_iff.1 hy).1;omega)
  exact ⟨q,hq,by rw [Bool.eq_iff_iff,hqi];simp⟩
def hs (vs rs:List Int) (a:Nat):Bool:=decide (((row vs a:Nat):Int)∈rs)
theorem VT.vars' {vs rs:List Int} (h:VT vs rs):∀ v,v∈vs→0≤v∧v<24:=fun v hv=>by have:=h.vars.mem v hv;omega
theorem Chn.len1 {hi:Int}:∀ {xs:List Int} {q:Int},Chn hi (some q) xs→0≤q→q<hi→(xs.length:Int)≤hi - 1 - q
  | [],_,_,_,_=>by simp;omega
  | x :: xs,q,⟨h0,h1,h2,h3⟩,_,_=>by
    have:=Chn.len1 h3 h0 h1
    have:=h2 q rfl
    simp only [List.length_cons]
    omega
theorem Chn.len {hi:Int} {xs:List Int} (h:Chn hi none xs) (h0:0≤hi):(xs.length:Int)≤hi:=by
  cases xs with
  | nil=>simpa using h0
  | cons x xs=>
    have:=Chn.len1 h.2.2.2 h.1 h.2.1
    have:=h.1
    simp only [List.length_cons]
    omega
theorem pow10 {n:Nat} (h:n≤10):2 ^ n≤1024:=by
  have:(2:Nat) ^ n≤2 ^ 10:=Nat.pow_le_pow_right (by decide) h
  omega
theorem VT.rows_len {vs rs:List Int} (h:VT vs rs):(rs.length:Int)≤1024:=by
  have h1:=h.rows.len (Int.natCast_nonneg _)
  have h2:=pow10 h.len
  generalize (2:Nat) ^ vs.length=z at h1 h2
  omega
theorem has_ev {vs rs:List Int} (h:VT vs rs) (a:Nat) (ha:a<2 ^ 60):Ev (fun k=>table_has.f k vs rs (a:Int)) (hs vs rs a):=by
  have h1:=h.rows_len
  have h2:=h.len
  refine Ev.bind (row_ev vs h.vars' (by omega) a ha) ?_
  obtain ⟨q,hq,hq2⟩:=search_ev h.rows (by omega) ((row vs a:Nat):Int)
  refine Ev.bind hq ?_
  rw [show hs vs rs a=q.2 from hq2.symm]
  exact Ev.now _
theorem clone_eq (l:List Int) (h:l.length<17592186044416):slices_Clone_int_int.f l=some l:=by
  unfold slices_Clone_int_int.f
  simp only [Option.bind_some,List.length_nil,List.nil_append,if_pos (show 0+l.length<17592186044416 by omega)]
def flt (t:Nat→Bool):Nat→Nat→List Int
  | 0,_=>[]
  | d+1,r=>if t r=true then (r:Int) :: flt t d (r+1) else flt t d (r+1)
theorem flt_mem (t:Nat→Bool):∀ (d r:Nat) (x:Int),x∈flt t d r↔∃ m:Nat,r≤m∧m<r+d∧t m=true∧x=m
  | 0,r,x=>by simp [flt];omega
  | d+1,r,x=>by
    have ih:=flt_mem t d (r+1) x
    rw [flt]
    by_cases h:t r=true
    · rw [if_pos h,List.mem_cons,ih]
      constructor
      · rintro (rfl|⟨m,h1,h2,h3⟩)
        · exact ⟨r,by omega,by omega,h,rfl⟩
        · exact ⟨m,by omega,by omega,h3⟩
      · rintro ⟨m,h1,h2,h3,h4⟩
        by_cases e:m=r
        · exact .inl (by rw [h4,e])
        · exact .inr ⟨m,by omega,by omega,h3,h4⟩
    · rw [if_neg h,ih]
      constructor
      · rintro ⟨m,h1,h2,h3⟩;exact ⟨m,by omega,by omega,h3⟩
      · rintro ⟨m,h1,h2,h3,h4⟩
        by_cases e:m=r
        · subst e;exact absurd h3 h
        · exact ⟨m,by omega,by omega,h3,h4⟩
theorem flt_chn (t:Nat→Bool):∀ (d r:Nat) (p:Option Int),(∀ q,p=some q→q<r)→Chn ((r+d:Nat):Int) p (flt t d r)
  | 0,_,_,_=>trivial
  | d+1,r,p,hp=>by
    have e:((r+(d+1):Nat):Int)=((r+1+d:Nat):Int):=by omega
    rw [flt,e]
    by_cases h:t r=true
    · rw [if_pos h]
      exact ⟨by omega,by omega,hp,flt_chn t d (r+1) _ (fun q hq=>by injection hq;omega)⟩
    · rw [if_neg h]
      exact flt_chn t d (r+1) p (fun q hq=>by have:=hp q hq;omega)
theorem flt_len (t:Nat→Bool):∀ (d r:Nat),(flt t d r).length≤d
  | 0,_=>by simp [flt]
  | d+1,r=>by have:=flt_len t d (r+1);rw [flt];split <;> simp <;> omega
theorem flt_congr (t u:Nat→Bool):∀ (d r:Nat),(∀ m,r≤m→m<r+d→t m=u m)→flt t d r=flt u d r
  | 0,_,_=>rfl
  | d+1,r,h=>by rw [flt,flt,h r (by omega) (by omega),flt_congr t u d (r+1) (fun m h1 h2=>h m (by omega) (by omega))]
def ovr (vs:List Int) (t:Nat→Bool):List Int:=flt (fun r=>t (asg vs r)) (2 ^ vs.length) 0
theorem ovr_chn (vs:List Int) (t:Nat→Bool):Chn ((2 ^ vs.length:Nat):Int) none (ovr vs t):=by
  have:=flt_chn (fun r=>t (asg vs r)) (2 ^ vs.length) 0 none (fun q hq=>by cases hq)
  rw [Nat.zero_add] at this
  exact this
theorem ovr_mem (vs:List Int) (t:Nat→Bool) (x:Int):x∈ovr vs t↔∃ m:Nat,m<2 ^ vs.length∧t (asg vs m)=true∧x=m:=by
  unfold ovr
  rw [flt_mem]
  constructor
  · rintro ⟨m,_,h1,h2,h3⟩;exact ⟨m,by omega,h2,h3⟩
  · rintro ⟨m,h1,h2,h3⟩;exact ⟨m,by omega,by omega,h2,h3⟩
theorem chn_snoc {hi:Int} {x:Int} (h0:0≤x) (h1:x<hi):∀ {l:List Int} {p:Option Int},Chn hi p l→(∀ y,y∈l→y<x)→(∀ q,p=some q→q<x)→Chn hi p (l++[x])
  | [],_,_,_,hp=>⟨h0,h1,hp,trivial⟩
  | y :: l,p,⟨a0,a1,a2,a3⟩,hl,hp=>⟨a0,a1,a2,chn_snoc h0 h1 a3 (fun z hz=>hl z (List.mem_cons_of_mem _ hz)) (fun q hq=>by injection hq with hq;rw [← hq];exact hl y List.mem_cons_self)⟩
theorem compact_spec {hi:Int} (d:Array Int) (hd:∀ i j,i≤j→j<d.size→d[i]!≤d[j]!) (hr:∀ i,i<d.size→0≤d[i]!∧d[i]!<hi):∀ m,m≤d.size→Chn hi none (Lib.compactUpTo d m)∧∀ n,n∈Lib.compactUpTo d m↔∃ j,j<m∧d[j]! = n
  | 0,_=>⟨by simp [Lib.compactUpTo,Chn],fun n=>by simp [Lib.compactUpTo]⟩
  | m+1,hm=>by
    obtain ⟨h1,h2⟩:=compact_spec d hd hr m (by omega)
    have hrm:=hr m (by omega)
    rw [Lib.compactUpTo_succ]
    by_cases hk:Lib.keeps d m=true
    · rw [if_pos hk]
      have hk2:m=0∨d[m]!≠d[m - 1]!:=by simpa [Lib.keeps] using hk
      refine ⟨chn_snoc hrm.1 hrm.2 h1 (fun y hy=>?_) (fun q hq=>by cases hq),fun n=>?_⟩
      · obtain ⟨j,hj,rfl⟩:=(h2 y).1 hy
        have a1:=hd j (m - 1) (by omega) (by omega)
        have a2:=hd (m - 1) m (by omega) (by omega)
        rcases hk2 with h|h
        · omega
        · omega
      · rw [List.mem_append,h2]
        constructor
        · rintro (⟨j,hj,e⟩|h)
          · exact ⟨j,by omega,e⟩
          · exact ⟨m,by omega,by simpa using Eq.symm (List.mem_singleton.1 h)⟩
        · rintro ⟨j,hj,e⟩
          by_cases ej:j=m
          · subst ej;exact .inr (by simp [e])
          · exact .inl ⟨j,by omega,e⟩
    · rw [if_neg hk,List.append_nil]
      have hk2:¬ (m=0∨d[m]!≠d[m - 1]!):=by simpa [Lib.keeps] using hk
      refine ⟨h1,fun n=>?_⟩
      rw [h2]
      constructor
      · rintro ⟨j,hj,e⟩;exact ⟨j,by omega,e⟩
      · rintro ⟨j,hj,e⟩
        by_cases ej:j=m
        · subst ej
          exact ⟨j - 1,by omega,by rw [← e];exact (Classical.byContradiction fun hne=>hk2 (.inr (fun h=>hne h.symm)))⟩
        · exact ⟨j,by omega,e⟩
theorem sorted_compact {hi:Int} (l:List Int) (hr:∀ x,x∈l→0≤x∧x<hi):Chn hi none (Lib.compact (l.mergeSort fun x y=>decide (x≤y)))∧∀ n,n∈Lib.compact (l.mergeSort fun x y=>decide (x≤y))↔n∈l:=by
  have hp:=List.pairwise_mergeSort (le:=fun x y:Int=>decide (x≤y)) (fun a b c h1 h2=>by simp at *;omega) (fun a b=>by simp;omega) l
  have hperm:=List.mergeSort_perm l (fun x y:Int=>decide (x≤y))
  generalize hs:l.mergeSort (fun x y=>decide (x≤y))=s at hp hperm
  have hget:∀ i,i<s.length→s.toArray[i]! = s[i]!:=fun i hi=>by simp
  have key:=compact_spec (hi:=hi) s.toArray (fun i j hij hj=>by
    have hj':j<s.length:=by simpa using hj
    rw [hget i (by omega),hget j hj',List.getElem!_eq_getElem?_getD,List.getElem!_eq_getElem?_getD,List.getElem?_eq_getElem hj',List.getElem?_eq_getElem (show i<s.length by omega)]
    by_cases e:i=j
    · subst e;exact Int.le_refl _
    · have:=List.pairwise_iff_getElem.1 hp i j (by omega) hj' (by omega)
      simpa using this) (fun i hi2=>by
    have hi':i<s.length:=by simpa using hi2
    rw [hget i hi',List.getElem!_eq_getElem?_getD,List.getElem?_eq_getElem hi']
    exact hr _ (hperm.mem_iff.1 (List.getElem_mem hi'))) s.length (by simp)
  refine ⟨key.1,fun n=>?_⟩
  have h2:=key.2 n
  unfold Lib.compact
  rw [h2,← hperm.mem_iff]
  constructor
  · rintro ⟨j,hj,e⟩
    rw [hget j hj,List.getElem!_eq_getElem?_getD,List.getElem?_eq_getElem hj] at e
    exact e ▸ List.getElem_mem hj
  · intro hn
    obtain ⟨j,hj,e⟩:=List.getElem_of_mem hn
    exact ⟨j,hj,by rw [hget j hj,List.getElem!_eq_getElem?_getD,List.getElem?_eq_getElem hj];exact e⟩
def all2 (a b:List Int):List Int:=Lib.compact ((a++b).mergeSort fun x y=>decide (x≤y))
theorem all2_chn {a b:List Int} (ha:Chn 24 none a) (hb:Chn 24 none b):Chn 24 none (all2 a b)∧∀ n,n∈all2 a b↔n∈a∨n∈b:=by
  have:=sorted_compact (hi:=24) (a++b) (fun x hx=>by
    rcases List.mem_append.1 hx with h|h
    · have:=ha.mem x h;omega
    · have:=hb.mem x h;omega)
  exact ⟨this.1,fun n=>(this.2 n).trans List.mem_append⟩
theorem concat_ev (a b:List Int) (ha:a.length≤1000000) (hb:b.length≤1000000):Ev (fun k=>slices_Concat_int_int.f k [a,b]) (a++b):=by
  have e0:rd_L1 [a,b] 0=a:=rfl
  have e1:rd_L1 [a,b] 1=b:=rfl
  unfold slices_Concat_int_int.f
  refine Ev.step (fun k=>by rw [slices_Concat_int_int.l0,if_pos (by simp),if_pos (by omega),if_pos (by simp),e0,w64_in (0+(a.length:Int)) (by omega),if_neg (by omega)]) ?_
  refine Ev.step (fun k=>by rw [show wrap64 (0+1)=1 from w64_in _ (by omega),slices_Concat_int_int.l0,if_pos (by simp),if_pos (by omega),if_pos (by simp),e1,w64_in (0+(a.length:Int)+(b.length:Int)) (by omega),if_neg (by omega)]) ?_
  refine Ev.step (fun k=>by rw [show wrap64 (1+1)=2 from w64_in _ (by omega),slices_Concat_int_int.l0,if_neg (by simp)]) ?_
  have hg:slices_Grow_int_int.f [] (0+(a.length:Int)+(b.length:Int))=some []:=by
    unfold slices_Grow_int_int.f
    rw [if_pos (by omega),if_pos (by simp;omega)]
  simp only [hg,Option.bind_some]
  refine Ev.step (fun k=>by rw [slices_Concat_int_int.l1,if_pos (by simp),if_pos (by omega),if_pos (by simp),e0,if_pos (by simp;omega),List.nil_append]) ?_
  refine Ev.step (fun k=>by rw [show wrap64 (0+1)=1 from w64_in _ (by omega),slices_Concat_int_int.l1,if_pos (by simp),if_pos (by omega),if_pos (by simp),e1,if_pos (by omega)]) ?_
  refine Ev.step (f:=fun _=>some (a++b)) (fun k=>by rw [show wrap64 (1+1)=2 from w64_in _ (by omega),slices_Concat_int_int.l1,if_neg (by simp)]) (Ev.now _)
theorem all_ev (a b:List Int) (ha:a.length≤1000000) (hb:b.length≤1000000):Ev (fun k=>table_all.f k a b) (all2 a b):=by
  refine Ev.bind (concat_ev a b ha hb) ?_
  have hs:slices_Sort_int_int.f (a++b)=some ((a++b).mergeSort fun x y=>decide (x≤y)):=by
    unfold slices_Sort_int_int.f
    rw [if_pos (by rw [List.length_append];omega)]
  simp only [hs,Option.bind_some]
  exact Ev.now _

theorem row_agree (vs:List Int) {x y:Nat} (h:∀ w,w∈vs→x.testBit w.toNat=y.testBit w.toNat):row vs x=row vs y:=by
  apply Nat.eq_of_testBit_eq
  intro j
  rw [Bool.eq_iff_iff,row_bit,row_bit]
  constructor
  · rintro ⟨v,hv,hb⟩;exact ⟨v,hv,by rw [← h v (List.mem_of_getElem? hv)];exact hb⟩
  · rintro ⟨v,hv,hb⟩;exact ⟨v,hv,by rw [h v (List.mem_of_getElem? hv)];exact hb⟩
theorem asg_at {hi:Int} {vs:List Int} (h:Chn hi none vs) (x:Nat) {w:Int} (hw:w∈vs):(asg vs (row vs x)).testBit w.toNat=x.testBit w.toNat:=by
  rw [Bool.eq_iff_iff,asg_bit h]
  obtain ⟨i,hi2⟩:=List.getElem?_of_mem hw
  constructor
  · rintro ⟨m,v,hv,e,hb⟩
    obtain ⟨u,hu,hb⟩:=(row_bit vs x m).1 hb
    rw [hv] at hu
    injection hu with hu
    rw [e,hu];exact hb
  · intro hb
    exact ⟨i,w,hi2,rfl,(row_bit vs x i).2 ⟨w,hi2,hb⟩⟩
theorem asg_out {hi:Int} {vs:List Int} (h:Chn hi none vs) (r:Nat) {v:Int} (hv:0≤v) (hn:v∉vs):(asg vs r).testBit v.toNat=false:=by
  rw [Bool.eq_false_iff]
  intro hb
  obtain ⟨m,w,hw,e,_⟩:=(asg_bit h r _).1 hb
  have hm:=List.mem_of_getElem? hw
  have:=h.mem w hm
  exact hn (by rw [show v=w by omega];exact hm)
theorem hs_agree (vs rs:List Int) {x y:Nat} (h:∀ w,w∈vs→x.testBit w.toNat=y.testBit w.toNat):hs vs rs x=hs vs rs y:=by
  unfold hs;rw [row_agree vs h]
theorem hs_asg {vs rs:List Int} (h:VT vs rs) (x:Nat):hs vs rs (asg vs (row vs x))=hs vs rs x:=hs_agree vs rs (fun w hw=>asg_at h.vars x hw)
theorem hs_ovr {us:List Int} (hc:Chn 24 none us) (t:Nat→Bool) (x:Nat):hs us (ovr us t) x=t (asg us (row us x)):=by
  unfold hs
  rw [Bool.eq_iff_iff,decide_eq_true_eq,ovr_mem]
  constructor
  · rintro ⟨m,_,h1,h2⟩
    have:row us x=m:=by omega
    rw [this];exact h1
  · intro h;exact ⟨row us x,row_lt us x,h,rfl⟩
def setb (a:Nat) (v:Int) (b:Bool):Nat:=a||| (b.toNat * 2 ^ v.toNat)
theorem setb_bit (a:Nat) (v:Int) (b:Bool) (j:Nat):(setb a v b).testBit j=(a.testBit j||(b&&decide (j=v.toNat))):=by
  unfold setb
  rw [Nat.testBit_or]
  have:=bit_add b 0 v.toNat (Nat.two_pow_pos _) j
  rw [Nat.zero_add,Nat.zero_testBit,Bool.false_or] at this
  rw [this]
def wo (vs:List Int) (v:Int):List Int:=vs.filter fun x=>!(x == v)
theorem wo_mem (vs:List Int) (v w:Int):w∈wo vs v↔w∈vs∧w≠v:=by unfold wo;rw [List.mem_filter];simp
theorem wo_chn {hi:Int} {vs:List Int} (h:Chn hi none vs) (v:Int):Chn hi none (wo vs v):=h.filter _
theorem wo_le (vs:List Int) (v:Int):(wo vs v).length≤vs.length:=List.length_filter_le _ _
theorem wo_lt {vs:List Int} {v:Int} (h:v∈vs):(wo vs v).length<vs.length:=by
  have:∀ l:List Int,v∈l→(l.filter fun x=>!(x == v)).length<l.length:=by
    intro l
    induction l with
    | nil=>intro h;simp at h
    | cons x xs ih=>
      intro hx
      rw [List.filter_cons]
      by_cases e:x=v
      · rw [if_neg (by simp [e])]
        have:=List.length_filter_le (fun x=>!(x == v)) xs
        simp only [List.length_cons];omega
      · rw [if_pos (by simp [e])]
        have:=ih (by rcases List.mem_cons.1 hx with h|h;exact absurd h.symm e;exact h)
        simp only [List.length_cons];omega
  exact this vs h
def prj (vs rs us:List Int):List Int:=flt (fun m=>rs.any fun r=>row us (asg vs r.toNat) == m) (2 ^ us.length) 0
theorem prj_chn (vs rs us:List Int):Chn ((2 ^ us.length:Nat):Int) none (prj vs rs us):=by
  have:=flt_chn (fun m=>rs.any fun r=>row us (asg vs r.toNat) == m) (2 ^ us.length) 0 none (fun q hq=>by cases hq)
  rw [Nat.zero_add] at this
  exact this
theorem prj_mem (vs rs us:List Int) (x:Int):x∈prj vs rs us↔∃ r,r∈rs∧x=((row us (asg vs r.toNat):Nat):Int):=by
  unfold prj
  rw [flt_mem]
  constructor
  · rintro ⟨m,_,_,h,rfl⟩
    obtain ⟨r,hr,e⟩:=List.any_eq_true.1 h
    exact ⟨r,hr,by rw [beq_iff_eq.1 e]⟩
  · rintro ⟨r,hr,rfl⟩
    exact ⟨_,by omega,by rw [Nat.zero_add];exact row_lt _ _,List.any_eq_true.2 ⟨r,hr,by simp⟩,rfl⟩
theorem VT.row_of {vs rs:List Int} (h:VT vs rs) {r:Int} (hr:r∈rs):0≤r∧r.toNat<2 ^ vs.length∧row vs (asg vs r.toNat)=r.toNat:=by
  have h1:=h.rows.mem r hr
  have h2:r.toNat<2 ^ vs.length:=by
    have:=h1.2.1
    generalize 2 ^ vs.length=z at *
    omega
  exact ⟨h1.1,h2,row_asg h.vars h2⟩
theorem prj_self {vs rs:List Int} (h:VT vs rs):prj vs rs vs=rs:=by
  refine Chn.same (prj_chn vs rs vs) h.rows (fun n=>?_)
  rw [prj_mem]
  constructor
  · rintro ⟨r,hr,rfl⟩
    have:=h.row_of hr
    rw [this.2.2,← nat_of this.1];exact hr
  · intro hn
    have:=h.row_of hn
    exact ⟨n,hn,by rw [this.2.2,← nat_of this.1]⟩
def flip (a:Nat) (v:Int):Nat:=a ^^^ (2 ^ v.toNat)
theorem flip_bit (a:Nat) (v:Int) (j:Nat):(flip a v).testBit j=(a.testBit j ^^ decide (j=v.toNat)):=by
  unfold flip
  rw [Nat.testBit_xor,Nat.testBit_two_pow]
  congr 1
  exact decide_eq_decide.2 ⟨fun h=>h.symm,fun h=>h.symm⟩
def mat (vs rs:List Int) (v:Int):Bool:=(List.range (2 ^ vs.length)).any fun r=>hs vs rs (asg vs r) != hs vs rs (flip (asg vs r) v)
theorem mat_false {vs rs:List Int} (h:VT vs rs) {v:Int} (hv:mat vs rs v=false) (x y:Nat) (hxy:∀ w,w∈vs→w≠v→x.testBit w.toNat=y.testBit w.toNat) (h0:0≤v):hs vs rs x=hs vs rs y:=by
  have key:∀ x,hs vs rs x=hs vs rs (flip x v):=by
    intro x
    unfold mat at hv
    rw [List.any_eq_false] at hv
    have:=hv (row vs x) (List.mem_range.2 (row_lt vs x))
    have e:hs vs rs (asg vs (row vs x))=hs vs rs (flip (asg vs (row vs x)) v):=by simpa using this
    rw [hs_asg h] at e
    rw [e]
    refine hs_agree vs rs (fun w hw=>?_)
    rw [flip_bit,flip_bit,asg_at h.vars x hw]
  by_cases e:x.testBit v.toNat=y.testBit v.toNat
  · refine hs_agree vs rs (fun w hw=>?_)
    by_cases ew:w=v
    · rw [ew];exact e
    · exact hxy w hw ew
  · rw [key x]
    refine hs_agree vs rs (fun w hw=>?_)
    rw [flip_bit]
    by_cases ew:w=v
    · subst ew
      rw [decide_eq_true rfl]
      revert e
      cases x.testBit w.toNat <;> cases y.testBit w.toNat <;> simp
    · have hw0:=(h.vars.mem w hw).1
      rw [decide_eq_false (fun e2=>ew (by omega)),Bool.xor_false]
      exact hxy w hw ew
theorem mat_true {vs rs:List Int} {v:Int} (h:∃ x,hs vs rs x≠hs vs rs (flip x v)) (hv:VT vs rs):mat vs rs v=true:=by
  obtain ⟨x,hx⟩:=h
  unfold mat
  rw [List.any_eq_true]
  refine ⟨row vs x,List.mem_range.2 (row_lt vs x),?_⟩
  have e1:=hs_asg hv x
  have e2:hs vs rs (flip (asg vs (row vs x)) v)=hs vs rs (flip x v):=hs_agree vs rs (fun w hw=>by rw [flip_bit,flip_bit,asg_at hv.vars x hw])
  rw [e1,e2]
  simpa using hx
theorem mat_iff {vs rs:List Int} (hv:VT vs rs) (v:Int):mat vs rs v=true↔∃ x,hs vs rs x≠hs vs rs (flip x v):=by
  refine ⟨fun h=>?_,fun h=>mat_true h hv⟩
  unfold mat at h
  obtain ⟨r,_,hr⟩:=List.any_eq_true.1 h
  exact ⟨asg vs r,by simpa using hr⟩
theorem zero_one {vs rs:List Int} (h:VT vs rs) {v:Int} (hv:v∈vs):ovr (wo vs v) (hs vs rs)=ovr (wo vs v) (fun a=>hs vs rs (setb a v true))↔mat vs rs v=false:=by
  have hc:=wo_chn h.vars v
  have hv0:=(h.vars.mem v hv).1
  have hnv:v∉wo vs v:=fun hh=>((wo_mem vs v v).1 hh).2 rfl
  constructor
  · intro e
    rw [Bool.eq_false_iff]
    intro hm
    obtain ⟨x,hx⟩:=(mat_iff h v).1 hm

    have e0:∀ y,hs vs rs (asg (wo vs v) (row (wo vs v) y))=hs vs rs (setb (asg (wo vs v) (row (wo vs v) y)) v true):=by
      intro y
      have h1:=hs_ovr hc (hs vs rs) y
      have h2:=hs_ovr hc (fun a=>hs vs rs (setb a v true)) y
      rw [← h1,e,h2]
    have ag:∀ y:Nat,y.testBit v.toNat=false→hs vs rs y=hs vs rs (asg (wo vs v) (row (wo vs v) y)):=fun y hy=>hs_agree vs rs (fun w hw=>by
      by_cases ew:w=v
      · subst ew;rw [hy,asg_out hc _ hv0 hnv]
      · rw [asg_at hc y ((wo_mem vs v w).2 ⟨hw,ew⟩)])
    have ag1:∀ y:Nat,y.testBit v.toNat=true→hs vs rs y=hs vs rs (setb (asg (wo vs v) (row (wo vs v) y)) v true):=fun y hy=>hs_agree vs rs (fun w hw=>by
      rw [setb_bit]
      by_cases ew:w=v
      · subst ew;rw [hy,decide_eq_true rfl];simp
      · have hw0:=(h.vars.mem w hw).1
        rw [asg_at hc y ((wo_mem vs v w).2 ⟨hw,ew⟩),decide_eq_false (fun e2=>ew (by omega)),Bool.and_false,Bool.or_false])
    have rf:row (wo vs v) (flip x v)=row (wo vs v) x:=row_agree _ (fun w hw=>by
      have hw2:=(wo_mem vs v w).1 hw
      have hw0:=(h.vars.mem w hw2.1).1
      rw [flip_bit,decide_eq_false (fun e2=>hw2.2 (by omega)),Bool.xor_false])
    have ff:(flip x v).testBit v.toNat=!(x.testBit v.toNat):=by rw [flip_bit,decide_eq_true rfl,Bool.xor_true]
    by_cases hb:x.testBit v.toNat=true
    · exact hx (by rw [ag1 x hb,ag (flip x v) (by rw [ff,hb];rfl),rf,e0 x])
    · have hb':x.testBit v.toNat=false:=Bool.eq_false_iff.2 hb
      exact hx (by rw [ag x hb',ag1 (flip x v) (by rw [ff,hb'];rfl),rf,e0 x])
  · intro hm
    unfold ovr
    refine flt_congr _ _ _ _ (fun m _ _=>?_)
    refine mat_false h hm _ _ (fun w hw hne=>?_) hv0
    have hw0:=(h.vars.mem w hw).1
    rw [setb_bit,decide_eq_false (fun e2=>hne (by omega)),Bool.and_false,Bool.or_false]
theorem hs_zero {vs rs:List Int} (h:VT vs rs) {v:Int} (hv:v∈vs) (hm:mat vs rs v=false) (x:Nat):hs (wo vs v) (ovr (wo vs v) (hs vs rs)) x=hs vs rs x:=by
  rw [hs_ovr (wo_chn h.vars v)]
  exact mat_false h hm _ _ (fun w hw hne=>asg_at (wo_chn h.vars v) x ((wo_mem vs v w).2 ⟨hw,hne⟩)) (h.vars.mem v hv).1
theorem VT.zero {vs rs:List Int} (h:VT vs rs) (v:Int) (t:Nat→Bool):VT (wo vs v) (ovr (wo vs v) t):=
  ⟨Nat.le_trans (wo_le vs v) h.len,wo_chn h.vars v,ovr_chn _ _⟩
def vit (vs rs:List Int):List Int×List Int:=(vs.filter (mat vs rs),prj vs rs (vs.filter (mat vs rs)))
theorem vit_zero {vs rs:List Int} (h:VT vs rs) {v:Int} (hv:v∈vs) (hm:mat vs rs v=false):vit (wo vs v) (ovr (wo vs v) (hs vs rs))=vit vs rs:=by
  have hz:=h.zero v (hs vs rs)
  have same:∀ w,mat (wo vs v) (ovr (wo vs v) (hs vs rs)) w=mat vs rs w:=by
    intro w
    rw [Bool.eq_iff_iff,mat_iff hz,mat_iff h]
    simp only [hs_zero h hv hm]
  have hf:(wo vs v).filter (mat (wo vs v) (ovr (wo vs v) (hs vs rs)))=vs.filter (mat vs rs):=by
    unfold wo at same ⊢
    rw [List.filter_filter]
    refine List.filter_congr (fun w hw=>?_)
    rw [same w]
    by_cases e:w=v
    · subst e;rw [hm];rfl
    · simp [e]
  unfold vit
  rw [hf]
  refine congrArg (Prod.mk _) (Chn.same (prj_chn _ _ _) (prj_chn _ _ _) (fun n=>?_))
  have hsub:∀ w,w∈vs.filter (mat vs rs)→w∈vs∧w≠v:=fun w hw=>by
    obtain ⟨h1,h2⟩:=List.mem_filter.1 hw
    exact ⟨h1,fun e=>by rw [e,hm] at h2;exact absurd h2 (by simp)⟩
  rw [prj_mem,prj_mem]
  constructor
  · rintro ⟨z,hz2,rfl⟩
    obtain ⟨m,hm2,ht,rfl⟩:=(ovr_mem _ _ _).1 hz2
    have ht2:((row vs (asg (wo vs v) m):Nat):Int)∈rs:=by simpa [hs] using ht
    refine ⟨_,ht2,?_⟩
    rw [Int.toNat_natCast,Int.toNat_natCast]
    congr 1
    exact row_agree _ (fun w hw=>(asg_at h.vars _ (hsub w hw).1).symm)
  · rintro ⟨r,hr,rfl⟩
    have hro:=h.row_of hr
    refine ⟨((row (wo vs v) (asg vs r.toNat):Nat):Int),(ovr_mem _ _ _).2 ⟨_,row_lt _ _,?_,rfl⟩,?_⟩
    · have e:hs vs rs (asg (wo vs v) (row (wo vs v) (asg vs r.toNat)))=hs vs rs (asg vs r.toNat):=
        mat_false h hm _ _ (fun w hw hne=>asg_at (wo_chn h.vars v) _ ((wo_mem vs v w).2 ⟨hw,hne⟩)) (h.vars.mem v hv).1
      rw [e]
      unfold hs
      rw [hro.2.2,← nat_of hro.1]
      simpa using hr
    · rw [Int.toNat_natCast]
      congr 1
      exact row_agree _ (fun w hw=>(asg_at (wo_chn h.vars v) _ ((wo_mem vs v w).2 (hsub w hw))).symm)
theorem vit_all {vs rs:List Int} (h:VT vs rs) (ha:∀ v,v∈vs→mat vs rs v=true):vit vs rs=(vs,rs):=by
  have:vs.filter (mat vs rs)=vs:=List.filter_eq_self.2 ha
  unfold vit
  rw [this,prj_self h]

theorem in_loop (rs:List Int) (hl:(rs.length:Int)≤9223372036854775807) (x:Int):∀ (d i:Nat),i+d=rs.length→Ev (fun k=>ancepsref38_in.l0 k rs x i) (decide (x∈rs.drop i))
  | 0,i,h=>by
    rw [List.drop_eq_nil_of_le (by omega)]
    exact Ev.step (f:=fun _=>some false) (fun k=>by rw [ancepsref38_in.l0,if_neg (by omega)]) (by simpa using Ev.now _)
  | d+1,i,h=>by
    have hi:i<rs.length:=by omega
    have hw:=wrap_succ i rs.length hi hl
    have ih:=in_loop rs hl x d (i+1) (by omega)
    rw [rd_at rs i hi]
    by_cases e:rd rs i=x
    · have:decide (x∈rd rs i :: rs.drop (i+1))=true:=by simp [e]
      rw [this]
      exact Ev.step (f:=fun _=>some true) (fun k=>by rw [ancepsref38_in.l0,if_pos (by omega),if_pos (by omega),if_pos e]) (Ev.now _)
    · have:decide (x∈rd rs i :: rs.drop (i+1))=decide (x∈rs.drop (i+1)):=by
        rw [decide_eq_decide,List.mem_cons]
        exact ⟨fun h=>by rcases h with h|h;exact absurd h.symm e;exact h,.inr⟩
      rw [this]
      exact Ev.step (fun k=>by rw [ancepsref38_in.l0,if_pos (by omega),if_pos (by omega),if_neg e,hw]) ih
theorem in_ev (rs:List Int) (hl:(rs.length:Int)≤9223372036854775807) (x:Int):Ev (fun k=>ancepsref38_in.f k rs x) (decide (x∈rs)):=by
  have:=in_loop rs hl x rs.length 0 (by omega)
  rw [List.drop_zero] at this
  exact this
theorem lists_loop (l:List Int) (hl:(l.length:Int)≤9223372036854775807):∀ (d i:Nat),i+d=l.length→Ev (fun k=>ancepsref38_Lists.l0 k l l i) true
  | 0,i,h=>Ev.step (f:=fun _=>some true) (fun k=>by rw [ancepsref38_Lists.l0,if_neg (by omega)]) (Ev.now _)
  | d+1,i,h=>by
    have hw:=wrap_succ i l.length (by omega) hl
    refine Ev.step (fun k=>?_) (lists_loop l hl d (i+1) (by omega))
    rw [ancepsref38_Lists.l0,if_pos (by omega),if_pos (by omega),if_pos (by omega),if_pos rfl,hw]
theorem lists_ev (l:List Int) (hl:(l.length:Int)≤9223372036854775807):Ev (fun k=>ancepsref38_Lists.f k l l) true:=
  ev_pos rfl (lists_loop l hl l.length 0 (by omega))
theorem equal_ev (vs rs:List Int) (hl:(vs.length:Int)≤9223372036854775807) (hr:(rs.length:Int)≤9223372036854775807):Ev (fun k=>ancepsref38_Equal.f k vs rs vs rs) true:=
  Ev.bind (lists_ev vs hl) (ev_pos rfl (Ev.bind (lists_ev rs hr) (Ev.now _)))
theorem o_v1_loop {vs:List Int} (hc:Chn 24 none vs) (hl:vs.length≤10) (t0 t1:List Int) (t:Nat→Bool) (ht:∀ a:Nat,a<2 ^ 24→Ev (fun k=>table_vital_1_v1.f k (a:Int) t0 t1) (t a)) (V:List Int) (N:Nat) (hN:N≤1024):∀ (d r:Nat) (acc:List Int),r+d=N→acc.length≤r→
    Ev (fun k=>table_over_table_vital_1.l0 k vs (N:Int) (r:Int) t0 t1 V acc) (V,acc++flt (fun r=>t (asg vs r)) d r)
  | 0,r,acc,h,ha=>Ev.step (f:=fun _=>some (V,acc)) (fun k=>by rw [table_over_table_vital_1.l0,if_neg (by omega)]) (by simpa [flt] using Ev.now _)
  | d+1,r,acc,h,ha=>by
    have hw:wrap64 ((r:Int)+1)=((r+1:Nat):Int):=by rw [w64_in _ (by omega)];omega
    have hr:r<2 ^ 60:=Nat.lt_of_le_of_lt (show r≤1024 by omega) (by decide)
    refine Ev.step (fun k=>by rw [table_over_table_vital_1.l0,if_pos (by omega)]) (Ev.bind (asg_ev hc (by omega) r hr) (Ev.bind (ht _ (asg_lt hc r)) ?_))
    rw [flt,hw]
    by_cases e:t (asg vs r)=true
    · have ih:=o_v1_loop hc hl t0 t1 t ht V N hN d (r+1) (acc++[(r:Int)]) (by omega) (by simp;omega)
      rw [if_pos e]
      rw [List.append_assoc,List.singleton_append] at ih
      exact ev_pos e (ev_pos (by omega) ih)
    · have ih:=o_v1_loop hc hl t0 t1 t ht V N hN d (r+1) acc (by omega) (by omega)
      rw [if_neg e]
      exact ev_neg e ih
theorem o_v1_ev {vs:List Int} (hc:Chn 24 none vs) (hl:vs.length≤10) (t0 t1:List Int) (t:Nat→Bool) (ht:∀ a:Nat,a<2 ^ 24→Ev (fun k=>table_vital_1_v1.f k (a:Int) t0 t1) (t a)):Ev (fun k=>table_over_table_vital_1.f k vs t0 t1) (vs,ovr vs t):=by
  unfold table_over_table_vital_1.f
  rw [clone_eq vs (by omega),shl1 vs.length (by omega)]
  exact o_v1_loop hc hl t0 t1 t ht vs (2 ^ vs.length) (pow10 hl) (2 ^ vs.length) 0 [] (by omega) (by simp)
theorem o_v2_loop {vs:List Int} (hc:Chn 24 none vs) (hl:vs.length≤10) (t0 t1:List Int) (v:Int) (t:Nat→Bool) (ht:∀ a:Nat,a<2 ^ 24→Ev (fun k=>table_vital_2_v1.f k (a:Int) t0 t1 v) (t a)) (V:List Int) (N:Nat) (hN:N≤1024):∀ (d r:Nat) (acc:List Int),r+d=N→acc.length≤r→
    Ev (fun k=>table_over_table_vital_2.l0 k vs (N:Int) (r:Int) t0 t1 v V acc) (V,acc++flt (fun r=>t (asg vs r)) d r)
  | 0,r,acc,h,ha=>Ev.step (f:=fun _=>some (V,acc)) (fun k=>by rw [table_over_table_vital_2.l0,if_neg (by omega)]) (by simpa [flt] using Ev.now _)
  | d+1,r,acc,h,ha=>by
    have hw:wrap64 ((r:Int)+1)=((r+1:Nat):Int):=by rw [w64_in _ (by omega)];omega
    have hr:r<2 ^ 60:=Nat.lt_of_le_of_lt (show r≤1024 by omega) (by decide)
    refine Ev.step (fun k=>by rw [table_over_table_vital_2.l0,if_pos (by omega)]) (Ev.bind (asg_ev hc (by omega) r hr) (Ev.bind (ht _ (asg_lt hc r)) ?_))
    rw [flt,hw]
    by_cases e:t (asg vs r)=true
    · have ih:=o_v2_loop hc hl t0 t1 v t ht V N hN d (r+1) (acc++[(r:Int)]) (by omega) (by simp;omega)
      rw [if_pos e]
      rw [List.append_assoc,List.singleton_append] at ih
      exact ev_pos e (ev_pos (by omega) ih)
    · have ih:=o_v2_loop hc hl t0 t1 v t ht V N hN d (r+1) acc (by omega) (by omega)
      rw [if_neg e]
      exact ev_neg e ih
theorem o_v2_ev {vs:List Int} (hc:Chn 24 none vs) (hl:vs.length≤10) (t0 t1:List Int) (v:Int) (t:Nat→Bool) (ht:∀ a:Nat,a<2 ^ 24→Ev (fun k=>table_vital_2_v1.f k (a:Int) t0 t1 v) (t a)):Ev (fun k=>table_over_table_vital_2.f k vs t0 t1 v) (vs,ovr vs t):=by
  unfold table_over_table_vital_2.f
  rw [clone_eq vs (by omega),shl1 vs.length (by omega)]
  exact o_v2_loop hc hl t0 t1 v t ht vs (2 ^ vs.length) (pow10 hl) (2 ^ vs.length) 0 [] (by omega) (by simp)

theorem or_set (a:Nat) (v:Int) (b:Bool) (ha:a<2 ^ 24) (h0:0≤v) (h1:v<24):Go.bits .or .i64 (a:Int) (shl .i64 ((b.toNat:Nat):Int) v)=((setb a v b:Nat):Int):=by
  have hw:∀ z:Int,0≤z→z<2 ^ 62→IntKind.i64.wrap z=z:=fun z h0 h1=>by
    rw [IntKind.wrap_i64]
    have:(2:Int) ^ 62=4611686018427387904:=by decide
    omega
  have hb:IntKind.i64.bits=64:=rfl
  have hip:(2:Nat) ^ v.toNat≤2 ^ 24:=Nat.pow_le_pow_right (by decide) (by omega)
  have h24:(2:Nat) ^ 24=16777216:=by decide
  have h62:(2:Nat) ^ 62=4611686018427387904:=by decide
  have hbl:b.toNat * 2 ^ v.toNat≤2 ^ v.toNat:=by cases b <;> simp
  have h3:shl .i64 ((b.toNat:Nat):Int) v=((b.toNat * 2 ^ v.toNat:Nat):Int):=by
    unfold shl
    rw [hb,show min v.toNat 64=v.toNat by omega]
    have e:((b.toNat:Nat):Int) * 2 ^ v.toNat=((b.toNat * 2 ^ v.toNat:Nat):Int):=by simp
    rw [e]
    exact hw _ (by omega) (by have:(2:Int) ^ 62=4611686018427387904:=by decide
                              omega)
  rw [h3,(bits_nat .i64 62 (by decide) hw a _ (by omega) (by omega)).2]
  rfl
theorem setb_lt (a:Nat) (v:Int) (b:Bool) (ha:a<2 ^ 24) (h1:v<24):setb a v b<2 ^ 60:=by
  have h2:(2:Nat) ^ v.toNat≤2 ^ 24:=Nat.pow_le_pow_right (by decide) (by omega)
  have hbl:b.toNat * 2 ^ v.toNat≤2 ^ v.toNat:=by cases b <;> simp
  have h3:b.toNat * 2 ^ v.toNat<2 ^ 60:=Nat.lt_of_le_of_lt (Nat.le_trans hbl h2) (by decide)
  exact Nat.or_lt_two_pow (Nat.lt_of_lt_of_le ha (by decide)) h3
theorem without_ev (l:List Int) (a:Int) (h:l.length<17592186044416):Ev (fun _=>table_without.f l a) (wo l a):=by
  unfold table_without.f
  rw [clone_eq l h]
  exact Ev.now _
theorem eqs_loop (a b:List Int) (hl:a.length=b.length) (hm:(a.length:Int)≤9223372036854775807):∀ (d i:Nat),i+d=a.length→Ev (fun k=>slices_Equal_int_int.l0 k a b a.length i) (decide (a.drop i=b.drop i))
  | 0,i,h=>by
    rw [List.drop_eq_nil_of_le (show a.length≤i by omega),List.drop_eq_nil_of_le (show b.length≤i by omega)]
    exact Ev.step (f:=fun _=>some true) (fun k=>by rw [slices_Equal_int_int.l0,if_neg (by omega)]) (Ev.now _)
  | d+1,i,h=>by
    have hi:i<a.length:=by omega
    have hw:=wrap_succ i a.length hi hm
    have ih:=eqs_loop a b hl hm d (i+1) (by omega)
    rw [rd_at a i hi,rd_at b i (by omega)]
    by_cases e:rd a i=rd b i
    · have:decide (rd a i :: a.drop (i+1)=rd b i :: b.drop (i+1))=decide (a.drop (i+1)=b.drop (i+1)):=decide_eq_decide.2 ⟨fun h=>by injection h,fun h=>by rw [e,h]⟩
      rw [this]
      exact Ev.step (fun k=>by rw [slices_Equal_int_int.l0,if_pos (by omega),if_pos (by omega),if_pos (by omega),if_pos (by omega),if_pos e,hw]) ih
    · have:decide (rd a i :: a.drop (i+1)=rd b i :: b.drop (i+1))=false:=decide_eq_false (fun h=>e (by injection h))
      rw [this]
      exact Ev.step (f:=fun _=>some false) (fun k=>by rw [slices_Equal_int_int.l0,if_pos (by omega),if_pos (by omega),if_pos (by omega),if_pos (by omega),if_neg e]) (Ev.now _)
theorem eqs_ev (a b:List Int) (hm:(a.length:Int)≤9223372036854775807):Ev (fun k=>slices_Equal_int_int.f k a b) (decide (a=b)):=by
  unfold slices_Equal_int_int.f
  by_cases hl:a.length=b.length
  · refine ev_pos (by omega) ?_
    have:=eqs_loop a b hl hm a.length 0 (by omega)
    rw [List.drop_zero,List.drop_zero] at this
    exact this
  · have:decide (a=b)=false:=decide_eq_false (fun h=>hl (by rw [h]))
    rw [this]
    exact ev_neg (by omega) (Ev.now _)
theorem v1_ev {vs rs:List Int} (h:VT vs rs) (a:Nat) (ha:a<2 ^ 24):Ev (fun k=>table_vital_1_v1.f k (a:Int) vs rs) (hs vs rs a):=
  Ev.bind (has_ev h a (Nat.lt_of_lt_of_le ha (by decide))) (Ev.now _)
theorem v2_ev {vs rs:List Int} (h:VT vs rs) {v:Int} (h0:0≤v) (h1:v<24) (a:Nat) (ha:a<2 ^ 24):Ev (fun k=>table_vital_2_v1.f k (a:Int) vs rs v) (hs vs rs (setb a v true)):=by
  have:=or_set a v true ha h0 h1
  rw [show ((true.toNat:Nat):Int)=1 from rfl] at this
  unfold table_vital_2_v1.f
  rw [this]
  exact ev_pos h0 (Ev.bind (has_ev h _ (setb_lt a v true ha h1)) (Ev.now _))
theorem ovr_len (vs:List Int) (t:Nat→Bool):(ovr vs t).length≤2 ^ vs.length:=flt_len _ _ _
theorem vital_loop {vs rs:List Int} (h:VT vs rs) (ih:∀ v,v∈vs→mat vs rs v=false→Ev (fun k=>table_vital.f k (wo vs v) (ovr (wo vs v) (hs vs rs))) (vit (wo vs v) (ovr (wo vs v) (hs vs rs)))):∀ (d i:Nat),i+d=vs.length→(∀ m u,m<i→vs[m]?=some u→mat vs rs u=true)→
    Ev (fun k=>table_vital.l0 k vs vs.length i vs rs) (vit vs rs)
  | 0,i,hd,ha=>by
    have hl:=h.len
    have hr:=h.rows_len
    rw [vit_all h (fun v hv=>by
      obtain ⟨m,hm⟩:=List.getElem?_of_mem hv
      exact ha m v (by have:=(List.getElem?_eq_some_iff.1 hm).1;omega) hm)]
    exact Ev.step (f:=fun _=>some (vs,rs)) (fun k=>by rw [table_vital.l0,if_neg (by omega),clone_eq vs (by omega),clone_eq rs (by omega)];rfl) (Ev.now _)
  | d+1,i,hd,ha=>by
    have hl:=h.len
    have hi:i<vs.length:=by omega
    have hw:=wrap_succ i vs.length hi (by omega)
    have hv:=rd_mem vs i hi
    have hv24:=h.vars' _ hv
    have hwl:=wo_le vs (rd vs i)
    have hc:=wo_chn h.vars (rd vs i)
    have ho:=ovr_len (wo vs (rd vs i)) (hs vs rs)
    have hp:=pow10 (Nat.le_trans hwl hl)
    refine Ev.step (fun k=>by rw [table_vital.l0,if_pos (by omega),if_pos (by omega),if_pos (by omega),hw]) ?_
    refine Ev.bind (without_ev vs _ (by omega)) (Ev.bind (o_v1_ev hc (by omega) vs rs _ (v1_ev h)) (Ev.bind (without_ev vs _ (by omega)) (Ev.bind (o_v2_ev hc (by omega) vs rs (rd vs i) _ (v2_ev h hv24.1 hv24.2)) (Ev.bind (eqs_ev _ _ (by show ((ovr _ _).length:Int)≤_;omega)) ?_))))
    by_cases e:mat vs rs (rd vs i)=false
    · refine ev_pos (decide_eq_true ((zero_one h hv).2 e)) ?_
      rw [← vit_zero h hv e]
      exact Ev.bind (ih _ hv e) (Ev.now _)
    · refine ev_neg (fun hh=>e ((zero_one h hv).1 (of_decide_eq_true hh))) ?_
      refine vital_loop h ih d (i+1) (by omega) (fun m u hm hu=>?_)
      by_cases em:m=i
      · subst em
        rw [rd_get vs m hi] at hu
        injection hu with hu
        rw [← hu]
        simpa using e
      · exact ha m u (by omega) hu
theorem vital_ev:∀ (n:Nat) {vs rs:List Int},vs.length≤n→VT vs rs→Ev (fun k=>table_vital.f k vs rs) (vit vs rs)
  | 0,vs,rs,hn,h=>Ev.step (fun k=>by rw [table_vital.f];rfl) (vital_loop h (fun v hv _=>by have:=List.length_pos_of_mem hv;omega) vs.length 0 (by omega) (fun m _ hm=>by omega))
  | n+1,vs,rs,hn,h=>Ev.step (fun k=>by rw [table_vital.f];rfl) (vital_loop h (fun v hv _=>vital_ev n (by have:=wo_lt hv;omega) (h.zero v _)) vs.length 0 (by omega) (fun m _ hm=>by omega))
theorem dvital_ev {vs rs:List Int} (hl:(vs.length:Int)≤9223372036854775807) (hr:(rs.length:Int)≤9223372036854775807):Ev (fun k=>table_Vital.f k vs rs) (if valid vs rs=0 then ((vit vs rs).1,(vit vs rs).2,0) else ([],[],valid vs rs)):=by
  refine Ev.bind (valid_ev vs rs hl hr) (ev_ite (fun h=>?_) (fun _=>Ev.now _))
  exact Ev.bind (vital_ev vs.length (Nat.le_refl _) ((valid_VT vs rs).1 h)) (Ev.now _)

theorem o_jo_loop {vs:List Int} (hc:Chn 24 none vs) (hl:vs.length≤10) (a0 a1 b0 b1:List Int) (t:Nat→Bool) (ht:∀ a:Nat,a<2 ^ 24→Ev (fun k=>table_combine_1_table_Join_1.f k (a:Int) a0 a1 b0 b1) (t a)) (V:List Int) (N:Nat) (hN:N≤1024):∀ (d r:Nat) (acc:List Int),r+d=N→acc.length≤r→
    Ev (fun k=>table_over_table_combine_1_table_Join_1.l0 k vs (N:Int) (r:Int) a0 a1 b0 b1 V acc) (V,acc++flt (fun r=>t (asg vs r)) d r)
  | 0,r,acc,h,ha=>Ev.step (f:=fun _=>some (V,acc)) (fun k=>by rw [table_over_table_combine_1_table_Join_1.l0,if_neg (by omega)]) (by simpa [flt] using Ev.now _)
  | d+1,r,acc,h,ha=>by
    have hw:wrap64 ((r:Int)+1)=((r+1:Nat):Int):=by rw [w64_in _ (by omega)];omega
    have hr:r<2 ^ 60:=Nat.lt_of_le_of_lt (show r≤1024 by omega) (by decide)
    refine Ev.step (fun k=>by rw [table_over_table_combine_1_table_Join_1.l0,if_pos (by omega)]) (Ev.bind (asg_ev hc (by omega) r hr) (Ev.bind (ht _ (asg_lt hc r)) ?_))
    rw [flt,hw]
    by_cases e:t (asg vs r)=true
    · have ih:=o_jo_loop hc hl a0 a1 b0 b1 t ht V N hN d (r+1) (acc++[(r:Int)]) (by omega) (by simp;omega)
      rw [if_pos e]
      rw [List.append_assoc,List.singleton_append] at ih
      exact ev_pos e (ev_pos (by omega) ih)
    · have ih:=o_jo_loop hc hl a0 a1 b0 b1 t ht V N hN d (r+1) acc (by omega) (by omega)
      rw [if_neg e]
      exact ev_neg e ih
theorem o_jo_ev {vs:List Int} (hc:Chn 24 none vs) (hl:vs.length≤10) (a0 a1 b0 b1:List Int) (t:Nat→Bool) (ht:∀ a:Nat,a<2 ^ 24→Ev (fun k=>table_combine_1_table_Join_1.f k (a:Int) a0 a1 b0 b1) (t a)):Ev (fun k=>table_over_table_combine_1_table_Join_1.f k vs a0 a1 b0 b1) (vs,ovr vs t):=by
  unfold table_over_table_combine_1_table_Join_1.f
  rw [clone_eq vs (by omega),shl1 vs.length (by omega)]
  exact o_jo_loop hc hl a0 a1 b0 b1 t ht vs (2 ^ vs.length) (pow10 hl) (2 ^ vs.length) 0 [] (by omega) (by simp)

theorem jo_ev {a b c d:List Int} (h1:VT a b) (h2:VT c d) (x:Nat) (hx:x<2 ^ 24):Ev (fun k=>table_combine_1_table_Join_1.f k (x:Int) a b c d) (hs a b x&&hs c d x):=by
  have hx2:x<2 ^ 60:=Nat.lt_of_lt_of_le hx (by decide)
  refine Ev.bind (has_ev h1 x hx2) (Ev.bind (has_ev h2 x hx2) ?_)
  unfold table_Join_1.f
  cases hs a b x
  · exact Ev.now _
  · exact Ev.now _
def cmb (t:Bool→Bool→Bool) (a b c d:List Int):List Int×List Int×Int:=
  if valid a b=0 then if valid c d=0 then if ((all2 a c).length:Int)>10 then ([],[],3) else (all2 a c,ovr (all2 a c) (fun x=>t (hs a b x) (hs c d x)),0) else ([],[],valid c d) else ([],[],valid a b)
theorem join_ev (a b c d:List Int) (ha:a.length≤1000000) (hb:b.length≤1000000) (hc:c.length≤1000000) (hd:d.length≤1000000):Ev (fun k=>table_Join.f k a b c d) (cmb (fun x y=>x&&y) a b c d):=by
  have key:Ev (fun k=>table_combine_table_Join_1.f k a b c d) (cmb (fun x y=>x&&y) a b c d):=by
    refine Ev.bind (valid_ev a b (by omega) (by omega)) (ev_ite (fun h1=>Ev.bind (valid_ev c d (by omega) (by omega)) (ev_ite (fun h2=>?_) (fun _=>Ev.now _))) (fun _=>Ev.now _))
    have v1:=(valid_VT a b).1 h1
    have v2:=(valid_VT c d).1 h2
    refine Ev.bind (all_ev a c ha hc) (ev_ite (fun _=>Ev.now _) (fun h3=>?_))
    exact Ev.bind (o_jo_ev (all2_chn v1.vars v2.vars).1 (by omega) a b c d _ (jo_ev v1 v2)) (Ev.now _)
  exact Ev.bind key (Ev.now _)
theorem awake_ev:Ev (fun k=>ancepslaw38_awake.f k) true:=by
  have v1:VT [0,1] [1,2]:=(valid_VT _ _).1 (by decide)
  have v2:VT [1] [1]:=(valid_VT _ _).1 (by decide)
  have e:all2 [0,1] [1]=[0,1]:=Chn.same (all2_chn v1.vars v2.vars).1 v1.vars (fun n=>by rw [(all2_chn v1.vars v2.vars).2];simp)
  have hj:=join_ev [0,1] [1,2] [1] [1] (by decide) (by decide) (by decide) (by decide)
  have ej:cmb (fun x y=>x&&y) [0,1] [1,2] [1] [1]=([0,1],[2],0):=by
    unfold cmb
    rw [e,if_pos (by decide),if_pos (by decide),if_neg (by decide)]
    refine congrArg (Prod.mk _) (congrArg (fun z=>(z,(0:Int))) ?_)
    kernel_rfl
  rw [ej] at hj
  have hv:=dvital_ev (vs:=[3,5]) (rs:=[0,2]) (by decide) (by decide)
  have ev:(if valid [3,5] [0,2]=0 then ((vit [3,5] [0,2]).1,(vit [3,5] [0,2]).2,0) else ([],[],valid [3,5] [0,2]))=(([3],[0],0):List Int×List Int×Int):=by
    rw [if_pos (by decide)]
    kernel_rfl
  rw [ev] at hv
  exact Ev.bind hj (Ev.bind hv (ev_pos rfl (Ev.bind (equal_ev [0,1] [2] (by decide) (by decide)) (ev_pos rfl (ev_pos rfl (Ev.bind (equal_ev [3] [0] (by decide) (by decide)) (Ev.now _)))))))
theorem hs_row {vs rs:List Int} (h:VT vs rs) {r:Int} (hr:r∈rs):hs vs rs (asg vs r.toNat)=true:=by
  have:=h.row_of hr
  unfold hs
  rw [this.2.2,← nat_of this.1]
  exact decide_eq_true hr
theorem vt_ovr {vs rs:List Int} (h:VT vs rs):ovr vs (hs vs rs)=rs:=by
  refine Chn.same (ovr_chn _ _) h.rows (fun n=>?_)
  rw [ovr_mem]
  constructor
  · rintro ⟨m,hm,ht,rfl⟩
    have:=of_decide_eq_true ht
    rw [row_asg h.vars hm] at this
    exact this
  · intro hn
    have:=h.row_of hn
    exact ⟨n.toNat,this.2.1,hs_row h hn,nat_of this.1⟩
theorem compact_len (d:Array Int):∀ m,(Lib.compactUpTo d m).length≤m
  | 0=>by simp [Lib.compactUpTo]
  | m+1=>by
    have:=compact_len d m
    rw [Lib.compactUpTo_succ,List.length_append]
    split <;> simp <;> omega
theorem all2_len (a b:List Int):(all2 a b).length≤a.length+b.length:=by
  have:=compact_len ((a++b).mergeSort fun x y=>decide (x≤y)).toArray ((a++b).mergeSort fun x y=>decide (x≤y)).length
  rw [List.length_mergeSort,List.length_append] at this
  unfold all2 Lib.compact
  rw [List.length_mergeSort,List.length_append]
  exact this
theorem made_rows (vs:List Int) (hc:Chn 24 none vs) (hl:vs.length≤6) (p q:Int):∀ (d r:Nat) (acc:List Int),r+d=2 ^ vs.length→acc.length≤r→Chn ((2 ^ vs.length:Nat):Int) none acc→(∀ y,y∈acc→y<r)→
    ∃ rs,Ev (fun k=>ancepsref38_Made.l1 k r p q vs acc) (vs,rs)∧VT vs rs
  | 0,r,acc,h,ha,hch,hlt=>by
    have hs1:=shl1 vs.length (by omega)
    exact ⟨acc,Ev.step (f:=fun _=>some (vs,acc)) (fun k=>by rw [ancepsref38_Made.l1,hs1,if_neg (by omega)]) (Ev.now _),by omega,hc,hch⟩
  | d+1,r,acc,h,ha,hch,hlt=>by
    have hs1:=shl1 vs.length (by omega)
    have hp:=pow10 (n:=vs.length) (by omega)
    have hw:wrap64 ((r:Int)+1)=((r+1:Nat):Int):=by rw [w64_in _ (by omega)];omega
    by_cases e:Int.tmod (shr .u64 q r) 2=1
    · obtain ⟨rs,h1,h2⟩:=made_rows vs hc hl p q d (r+1) (acc++[(r:Int)]) (by omega) (by simp;omega) (chn_snoc (by omega) (by omega) hch hlt (fun q hq=>by cases hq)) (fun y hy=>by
        rcases List.mem_append.1 hy with hy|hy
        · have:=hlt y hy;omega
        · rw [List.mem_singleton.1 hy];omega)
      exact ⟨rs,Ev.step (fun k=>by rw [ancepsref38_Made.l1,hs1,if_pos (by omega),if_pos (by omega),if_pos e,if_pos (by omega),hw]) h1,h2⟩
    · obtain ⟨rs,h1,h2⟩:=made_rows vs hc hl p q d (r+1) acc (by omega) (by omega) hch (fun y hy=>by have:=hlt y hy;omega)
      exact ⟨rs,Ev.step (fun k=>by rw [ancepsref38_Made.l1,hs1,if_pos (by omega),if_pos (by omega),if_neg e,hw]) h1,h2⟩
theorem made_vars (p q:Int):∀ (d i:Nat) (acc:List Int),i+d=24→acc.length≤6→Chn 24 none acc→(∀ y,y∈acc→y<i)→
    ∃ vs rs,Ev (fun k=>ancepsref38_Made.l0 k i p q acc) (vs,rs)∧VT vs rs∧vs.length≤6
  | d,i,acc,h,ha,hch,hlt=>by
    obtain ⟨rs,h1,h2⟩:=made_rows acc hch ha p q (2 ^ acc.length) 0 [] (by omega) (by simp) trivial (fun y hy=>by simp at hy)
    cases d with
    | zero=>exact ⟨acc,rs,Ev.step (fun k=>by rw [ancepsref38_Made.l0,if_neg (by omega)];rfl) h1,h2,ha⟩
    | succ d=>
      have hw:wrap64 ((i:Int)+1)=((i+1:Nat):Int):=by rw [w64_in _ (by omega)];omega
      by_cases h6:(acc.length:Int)<6
      · by_cases e:Int.tmod (shr .u32 p i) 2=1
        · obtain ⟨vs,rs,h3,h4⟩:=made_vars p q d (i+1) (acc++[(i:Int)]) (by omega) (by simp;omega) (chn_snoc (by omega) (by omega) hch hlt (fun q hq=>by cases hq)) (fun y hy=>by
            rcases List.mem_append.1 hy with hy|hy
            · have:=hlt y hy;omega
            · rw [List.mem_singleton.1 hy];omega)
          exact ⟨vs,rs,Ev.step (fun k=>by rw [ancepsref38_Made.l0,if_pos (by omega),if_pos h6,if_pos (by omega),if_pos e,if_pos (by omega),hw]) h3,h4⟩
        · obtain ⟨vs,rs,h3,h4⟩:=made_vars p q d (i+1) acc (by omega) ha hch (fun y hy=>by have:=hlt y hy;omega)
          exact ⟨vs,rs,Ev.step (fun k=>by rw [ancepsref38_Made.l0,if_pos (by omega),if_pos h6,if_pos (by omega),if_neg e,hw]) h3,h4⟩
      · exact ⟨acc,rs,Ev.step (fun k=>by rw [ancepsref38_Made.l0,if_pos (by omega),if_neg h6];rfl) h1,h2,ha⟩
theorem made_ev (p q:Int):∃ vs rs,Ev (fun k=>ancepsref38_Made.f k p q) (vs,rs)∧VT vs rs∧vs.length≤6:=made_vars p q 24 0 [] (by omega) (by simp) trivial (fun y hy=>by simp at hy)

theorem o_un_loop {vs:List Int} (hc:Chn 24 none vs) (hl:vs.length≤10) (a0 a1 b0 b1:List Int) (t:Nat→Bool) (ht:∀ a:Nat,a<2 ^ 24→Ev (fun k=>table_combine_1_table_Union_1.f k (a:Int) a0 a1 b0 b1) (t a)) (V:List Int) (N:Nat) (hN:N≤1024):∀ (d r:Nat) (acc:List Int),r+d=N→acc.length≤r→
    Ev (fun k=>table_over_table_combine_1_table_Union_1.l0 k vs (N:Int) (r:Int) a0 a1 b0 b1 V acc) (V,acc++flt (fun r=>t (asg vs r)) d r)
  | 0,r,acc,h,ha=>Ev.step (f:=fun _=>some (V,acc)) (fun k=>by rw [table_over_table_combine_1_table_Union_1.l0,if_neg (by omega)]) (by simpa [flt] using Ev.now _)
  | d+1,r,acc,h,ha=>by
    have hw:wrap64 ((r:Int)+1)=((r+1:Nat):Int):=by rw [w64_in _ (by omega)];omega
    have hr:r<2 ^ 60:=Nat.lt_of_le_of_lt (show r≤1024 by omega) (by decide)
    refine Ev.step (fun k=>by rw [table_over_table_combine_1_table_Union_1.l0,if_pos (by omega)]) (Ev.bind (asg_ev hc (by omega) r hr) (Ev.bind (ht _ (asg_lt hc r)) ?_))
    rw [flt,hw]
    by_cases e:t (asg vs r)=true
    · have ih:=o_un_loop hc hl a0 a1 b0 b1 t ht V N hN d (r+1) (acc++[(r:Int)]) (by omega) (by simp;omega)
      rw [if_pos e]
      rw [List.append_assoc,List.singleton_append] at ih
      exact ev_pos e (ev_pos (by omega) ih)
    · have ih:=o_un_loop hc hl a0 a1 b0 b1 t ht V N hN d (r+1) acc (by omega) (by omega)
      rw [if_neg e]
      exact ev_neg e ih
theorem o_un_ev {vs:List Int} (hc:Chn 24 none vs) (hl:vs.length≤10) (a0 a1 b0 b1:List Int) (t:Nat→Bool) (ht:∀ a:Nat,a<2 ^ 24→Ev (fun k=>table_combine_1_table_Union_1.f k (a:Int) a0 a1 b0 b1) (t a)):Ev (fun k=>table_over_table_combine_1_table_Union_1.f k vs a0 a1 b0 b1) (vs,ovr vs t):=by
  unfold table_over_table_combine_1_table_Union_1.f
  rw [clone_eq vs (by omega),shl1 vs.length (by omega)]
  exact o_un_loop hc hl a0 a1 b0 b1 t ht vs (2 ^ vs.length) (pow10 hl) (2 ^ vs.length) 0 [] (by omega) (by simp)

def bth (a b:List Int):List Int:=flt (fun m=>decide ((m:Int)∈a)||decide ((m:Int)∈b)) 24 0
theorem bth_all {a b:List Int} (ha:Chn 24 none a) (hb:Chn 24 none b):bth a b=all2 a b:=by
  have hc:=flt_chn (fun m=>decide ((m:Int)∈a)||decide ((m:Int)∈b)) 24 0 none (fun q hq=>by cases hq)
  refine Chn.same hc (all2_chn ha hb).1 (fun n=>?_)
  rw [(all2_chn ha hb).2]
  unfold bth
  rw [flt_mem]
  constructor
  · rintro ⟨m,_,_,h,rfl⟩
    simpa using h
  · intro h
    have hn:0≤n∧n<24:=by
      rcases h with h|h
      · have:=ha.mem n h;omega
      · have:=hb.mem n h;omega
    refine ⟨n.toNat,by omega,by omega,?_,nat_of hn.1⟩
    rw [← nat_of hn.1]
    simpa using h
theorem both_loop (a b:List Int) (ha:a.length≤1000000) (hb:b.length≤1000000):∀ (d i:Nat) (acc:List Int),i+d=24→acc.length≤i→Ev (fun k=>ancepsref38_Both.l0 k a b acc i) (acc++flt (fun m=>decide ((m:Int)∈a)||decide ((m:Int)∈b)) d i)
  | 0,i,acc,h,hl=>Ev.step (f:=fun _=>some acc) (fun k=>by rw [ancepsref38_Both.l0,if_neg (by omega)]) (by simpa [flt] using Ev.now _)
  | d+1,i,acc,h,hl=>by
    have hw:wrap64 ((i:Int)+1)=((i+1:Nat):Int):=by rw [w64_in _ (by omega)];omega
    have ih1:=both_loop a b ha hb d (i+1) (acc++[(i:Int)]) (by omega) (by simp;omega)
    have ih2:=both_loop a b ha hb d (i+1) acc (by omega) (by omega)
    rw [List.append_assoc,List.singleton_append] at ih1
    refine Ev.step (fun k=>by rw [ancepsref38_Both.l0,if_pos (by omega),hw]) (Ev.bind (in_ev a (by omega) i) ?_)
    rw [flt]
    by_cases e:((i:Int)∈a)
    · rw [if_pos (by simp [e])]
      exact ev_pos (decide_eq_true e) (ev_pos (by omega) ih1)
    · refine ev_neg (by simpa using e) (Ev.bind (in_ev b (by omega) i) ?_)
      by_cases e2:((i:Int)∈b)
      · rw [if_pos (by simp [e2])]
        exact ev_pos (decide_eq_true e2) (ev_pos (by omega) ih1)
      · rw [if_neg (by simp [e,e2])]
        exact ev_neg (by simpa using e2) ih2
theorem both_ev {a b:List Int} (ha:Chn 24 none a) (hb:Chn 24 none b) (hla:a.length≤1000000) (hlb:b.length≤1000000):Ev (fun k=>ancepsref38_Both.f k a b) (all2 a b):=by
  have:=both_loop a b hla hlb 24 0 [] (by omega) (by simp)
  rw [List.nil_append] at this
  rw [← bth_all ha hb]
  exact this
theorem un_ev {a b c d:List Int} (h1:VT a b) (h2:VT c d) (x:Nat) (hx:x<2 ^ 24):Ev (fun k=>table_combine_1_table_Union_1.f k (x:Int) a b c d) (hs a b x||hs c d x):=by
  have hx2:x<2 ^ 60:=Nat.lt_of_lt_of_le hx (by decide)
  refine Ev.bind (has_ev h1 x hx2) (Ev.bind (has_ev h2 x hx2) ?_)
  unfold table_Union_1.f
  cases hs a b x
  · exact Ev.now _
  · exact Ev.now _
theorem union_ev (a b c d:List Int) (ha:a.length≤1000000) (hb:b.length≤1000000) (hc:c.length≤1000000) (hd:d.length≤1000000):Ev (fun k=>table_Union.f k a b c d) (cmb (fun x y=>x||y) a b c d):=by
  have key:Ev (fun k=>table_combine_table_Union_1.f k a b c d) (cmb (fun x y=>x||y) a b c d):=by
    refine Ev.bind (valid_ev a b (by omega) (by omega)) (ev_ite (fun h1=>Ev.bind (valid_ev c d (by omega) (by omega)) (ev_ite (fun h2=>?_) (fun _=>Ev.now _))) (fun _=>Ev.now _))
    have v1:=(valid_VT a b).1 h1
    have v2:=(valid_VT c d).1 h2
    refine Ev.bind (all_ev a c ha hc) (ev_ite (fun _=>Ev.now _) (fun h3=>?_))
    exact Ev.bind (o_un_ev (all2_chn v1.vars v2.vars).1 (by omega) a b c d _ (un_ev v1 v2)) (Ev.now _)
  exact Ev.bind key (Ev.now _)
theorem all2_self {vs:List Int} (h:Chn 24 none vs):all2 vs vs=vs:=Chn.same (all2_chn h h).1 h (fun n=>by rw [(all2_chn h h).2,or_self])
theorem cmb_ok {a b c d us:List Int} (t:Bool→Bool→Bool) (h1:VT a b) (h2:VT c d) (e:all2 a c=us) (hu:us.length≤10):cmb t a b c d=(us,ovr us (fun x=>t (hs a b x) (hs c d x)),0):=by
  unfold cmb
  rw [if_pos ((valid_VT a b).2 h1),if_pos ((valid_VT c d).2 h2),e,if_neg (by omega)]
theorem flt_le {p q:Nat→Bool} (h:∀ m,p m=true→q m=true):∀ d r,(flt p d r).length≤(flt q d r).length
  | 0,_=>Nat.le_refl _
  | d+1,r=>by
    have ih:=flt_le h d (r+1)
    rw [flt,flt]
    by_cases e:p r=true
    · rw [if_pos e,if_pos (h r e),List.length_cons,List.length_cons];omega
    · rw [if_neg e]
      by_cases e2:q r=true
      · rw [if_pos e2,List.length_cons];omega
      · rw [if_neg e2];exact ih
theorem all2_sub {a b u:List Int} (ha:Chn 24 none a) (hb:Chn 24 none b) (hu:Chn 24 none u) (h:∀ n,n∈a∨n∈b→n∈u):(all2 a b).length≤u.length:=by
  have k:(bth a b).length≤(bth u u).length:=flt_le (fun m hm=>by
    simp only [Bool.or_eq_true,decide_eq_true_eq] at hm ⊢
    exact .inl (h _ hm)) 24 0
  rwa [bth_all ha hb,bth_all hu hu,all2_self hu] at k
def alg (t:Bool→Bool→Bool) (a b c d:List Int):List Int×List Int:=(all2 a c,ovr (all2 a c) (fun v=>t (hs a b v) (hs c d v)))
theorem alg_VT {a b c d:List Int} (t:Bool→Bool→Bool) (h1:VT a b) (h2:VT c d) (hl:(all2 a c).length≤10):VT (alg t a b c d).1 (alg t a b c d).2:=⟨hl,(all2_chn h1.vars h2.vars).1,ovr_chn (all2 a c) (fun v=>t (hs a b v) (hs c d v))⟩
theorem alg_comm {a b c d:List Int} {t:Bool→Bool→Bool} (ht:∀ x y,t x y=t y x) (h1:VT a b) (h2:VT c d):alg t c d a b=alg t a b c d:=by
  have e:all2 c a=all2 a c:=Chn.same (all2_chn h2.vars h1.vars).1 (all2_chn h1.vars h2.vars).1 (fun n=>by rw [(all2_chn h2.vars h1.vars).2,(all2_chn h1.vars h2.vars).2];exact Or.comm)
  unfold alg
  rw [e]
  exact congrArg (fun f=>(all2 a c,ovr (all2 a c) f)) (funext fun v=>ht _ _)
theorem alg_hs {a b c d:List Int} (t:Bool→Bool→Bool) (h1:VT a b) (h2:VT c d) (x:Nat):hs (alg t a b c d).1 (alg t a b c d).2 x=t (hs a b x) (hs c d x):=by
  have hall:=all2_chn h1.vars h2.vars
  unfold alg
  rw [hs_ovr hall.1]
  rw [hs_agree a b (fun w hw=>asg_at hall.1 x ((hall.2 w).2 (.inl hw))),hs_agree c d (fun w hw=>asg_at hall.1 x ((hall.2 w).2 (.inr hw)))]
theorem alg_assoc {a b c d e f:List Int} {t:Bool→Bool→Bool} (ht:∀ x y z,t (t x y) z=t x (t y z)) (h1:VT a b) (h2:VT c d) (h3:VT e f) (hac:(all2 a c).length≤10) (hce:(all2 c e).length≤10) :
    alg t a b (alg t c d e f).1 (alg t c d e f).2=alg t (alg t a b c d).1 (alg t a b c d).2 e f:=by
  have v1:=alg_VT t h1 h2 hac
  have v2:=alg_VT t h2 h3 hce
  have m1:=all2_chn h1.vars v2.vars
  have m2:=all2_chn v1.vars h3.vars
  have e1:all2 a (alg t c d e f).1=all2 (alg t a b c d).1 e:=Chn.same m1.1 m2.1 (fun n=>by
    rw [m1.2,m2.2]
    show n∈a∨n∈all2 c e↔n∈all2 a c∨n∈e
    rw [(all2_chn h2.vars h3.vars).2,(all2_chn h1.vars h2.vars).2]
    exact or_assoc.symm)
  have e2:(fun v=>t (hs a b v) (hs (alg t c d e f).1 (alg t c d e f).2 v))=fun v=>t (hs (alg t a b c d).1 (alg t a b c d).2 v) (hs e f v):=funext fun v=>by
    rw [alg_hs t h2 h3,alg_hs t h1 h2]
    exact (ht _ _ _).symm
  show (all2 a (alg t c d e f).1,ovr (all2 a (alg t c d e f).1) (fun v=>t (hs a b v) (hs (alg t c d e f).1 (alg t c d e f).2 v)))=(all2 (alg t a b c d).1 e,ovr (all2 (alg t a b c d).1 e) (fun v=>t (hs (alg t a b c d).1 (alg t a b c d).2 v) (hs e f v)))
  rw [e1,e2]
theorem alg_idem {a b:List Int} {t:Bool→Bool→Bool} (ht:∀ x,t x x=x) (h:VT a b):alg t a b a b=(a,b):=by
  unfold alg
  rw [all2_self h.vars]
  have e:(fun v=>t (hs a b v) (hs a b v))=hs a b:=funext fun v=>ht _
  rw [e,vt_ovr h]
theorem ground_ev {F:Nat→List Int→List Int→List Int→List Int→Option (List Int×List Int)} {t:Bool→Bool→Bool} (hF:∀ {a b c d:List Int},VT a b→VT c d→(all2 a c).length≤10→Ev (fun k=>F k a b c d) (alg t a b c d))
    (ht1:∀ x y,t x y=t y x) (ht2:∀ x y z,t (t x y) z=t x (t y z)) (ht3:∀ x,t x x=x) {a b c d e f:List Int} (h1:VT a b) (h2:VT c d) (h3:VT e f) (hu:(all2 (all2 a c) e).length≤10) {G:Nat→Option Bool} {r:Bool} (H:Ev G r) :
    Ev (fun k=>(F k a b c d).bind fun p=>(F k c d a b).bind fun q=>(ancepsref38_Equal.f k p.1 p.2 q.1 q.2).bind fun u=>if u=true then (F k a b c d).bind fun p=>(F k p.1 p.2 e f).bind fun q=>(F k c d e f).bind fun s=>(F k a b s.1 s.2).bind fun u=>(ancepsref38_Equal.f k q.1 q.2 u.1 u.2).bind fun v=>if v=true then (F k a b a b).bind fun p=>(ancepsref38_Equal.f k p.1 p.2 a b).bind fun u=>if u=true then G k else none else none else none) r:=by
  have c1:=all2_chn h1.vars h2.vars
  have cu:=all2_chn c1.1 h3.vars
  have hac:(all2 a c).length≤10:=Nat.le_trans (all2_sub h1.vars h2.vars cu.1 (fun n hn=>(cu.2 n).2 (.inl ((c1.2 n).2 hn)))) hu
  have hce:(all2 c e).length≤10:=Nat.le_trans (all2_sub h2.vars h3.vars cu.1 (fun n hn=>(cu.2 n).2 (hn.imp (fun h=>(c1.2 n).2 (.inr h)) id))) hu
  have hca:(all2 c a).length≤10:=Nat.le_trans (all2_sub h2.vars h1.vars c1.1 (fun n hn=>(c1.2 n).2 hn.symm)) hac
  have haa:(all2 a a).length≤10:=by rw [all2_self h1.vars];exact h1.len
  have v1:=alg_VT t h1 h2 hac
  have v2:=alg_VT t h2 h3 hce
  have m1:=all2_chn h1.vars v2.vars
  have hau:(all2 a (alg t c d e f).1).length≤10:=Nat.le_trans (all2_sub h1.vars v2.vars cu.1 (fun n hn=>(cu.2 n).2 (by
    rcases hn with h|h
    · exact .inl ((c1.2 n).2 (.inl h))
    · rcases ((all2_chn h2.vars h3.vars).2 n).1 h with h|h
      · exact .inl ((c1.2 n).2 (.inr h))
      · exact .inr h))) hu
  have v3:=alg_VT t v1 h3 hu
  have eqv:∀ {x y:List Int},VT x y→Ev (fun k=>ancepsref38_Equal.f k x y x y) true:=fun {x y} h=>by
    have k1:=h.len
    have k2:=h.rows_len
    exact equal_ev x y (by omega) (by omega)
  refine Ev.bind (hF h1 h2 hac) (Ev.bind (ev_eq (hF h2 h1 hca) (alg_comm ht1 h1 h2)) (Ev.bind (eqv v1) (ev_pos rfl ?_)))
  refine Ev.bind (hF h1 h2 hac) (Ev.bind (hF v1 h3 hu) (Ev.bind (hF h2 h3 hce) (Ev.bind (ev_eq (hF h1 v2 hau) (alg_assoc ht2 h1 h2 h3 hac hce)) (Ev.bind (eqv v3) (ev_pos rfl ?_)))))
  exact Ev.bind (ev_eq (hF h1 h1 haa) (alg_idem ht3 h1)) (Ev.bind (eqv h1) (ev_pos rfl H))
theorem twoJ_ev {a b c d:List Int} (h1:VT a b) (h2:VT c d) (hl:(all2 a c).length≤10):Ev (fun k=>ancepslaw38_TableAlgebra_1_table_Join.f k a b c d) (alg (fun x y=>x&&y) a b c d):=by
  have k1:=h1.len
  have k2:=h1.rows_len
  have k3:=h2.len
  have k4:=h2.rows_len
  have j:=join_ev a b c d (by omega) (by omega) (by omega) (by omega)
  rw [cmb_ok _ h1 h2 rfl hl] at j
  exact Ev.bind j (ev_pos rfl (Ev.now _))
theorem twoU_ev {a b c d:List Int} (h1:VT a b) (h2:VT c d) (hl:(all2 a c).length≤10):Ev (fun k=>ancepslaw38_TableAlgebra_1_table_Union.f k a b c d) (alg (fun x y=>x||y) a b c d):=by
  have k1:=h1.len
  have k2:=h1.rows_len
  have k3:=h2.len
  have k4:=h2.rows_len
  have j:=union_ev a b c d (by omega) (by omega) (by omega) (by omega)
  rw [cmb_ok _ h1 h2 rfl hl] at j
  exact Ev.bind j (ev_pos rfl (Ev.now _))
theorem tableAlgebra_ev (p q p2 q2 p3 q3:Int):Ev (fun k=>ancepslaw38_TableAlgebra.f k p q p2 q2 p3 q3) true:=by
  obtain ⟨a,b,hm1,v1,l1⟩:=made_ev p q
  obtain ⟨c,d,hm2,v2,l2⟩:=made_ev p2 q2
  obtain ⟨e,f,hm3,v3,l3⟩:=made_ev p3 q3
  have c1:=all2_chn v1.vars v2.vars
  have l4:=all2_len a c
  have q1:a.length≤1000000:=by omega
  have q2:c.length≤1000000:=by omega
  have q3:e.length≤1000000:=by omega
  have q4:(all2 a c).length≤1000000:=by omega
  refine Ev.bind awake_ev (ev_pos rfl (Ev.bind hm1 (Ev.bind hm2 (Ev.bind hm3 (Ev.bind (both_ev v1.vars v2.vars q1 q2) (Ev.bind (both_ev c1.1 v3.vars q4 q3) ?_))))))
  by_cases h:((all2 (all2 a c) e).length:Int)>10
  · exact ev_pos h (Ev.now _)
  · refine ev_neg h ?_
    exact ground_ev (t:=fun x y=>x&&y) twoJ_ev (by decide) (by decide) (by decide) v1 v2 v3 (by omega) (ground_ev (t:=fun x y=>x||y) twoU_ev (by decide) (by decide) (by decide) v1 v2 v3 (by omega) (Ev.now _))
theorem TableAlgebra (a0_0:Int) (a0_1:Int) (a1_0:Int) (a1_1:Int) (a2_0:Int) (a2_1:Int) (w_a0_0:(Lit.int .u32 a0_0).wf=true) (w_a0_1:(Lit.int .u64 a0_1).wf=true) (w_a1_0:(Lit.int .u32 a1_0).wf=true) (w_a1_1:(Lit.int .u64 a1_1).wf=true) (w_a2_0:(Lit.int .u32 a2_0).wf=true) (w_a2_1:(Lit.int .u64 a2_1).wf=true):∃ k,A.ancepslaw38_TableAlgebra.f k a0_0 a0_1 a1_0 a1_1 a2_0 a2_1=some true:=ev_rounds (tableAlgebra_ev a0_0 a0_1 a1_0 a1_1 a2_0 a2_1)

end Go.Proofs.Ytilljenmobgkaaa.Pure
