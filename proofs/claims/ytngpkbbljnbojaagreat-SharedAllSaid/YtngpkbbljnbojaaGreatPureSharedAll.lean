import Derived.Test.YtngpkbbljnbojaaGreatA0
import Derived.Test.YtngpkbbljnbojaaGreatA3
import Derived.Test.YtngpkbbljnbojaaGreatA4
import Derived.Test.YtngpkbbljnbojaaGreatA5
import Derived.Test.YtngpkbbljnbojaaGreatA6
import Derived.Test.YtngpkbbljnbojaaGreatA7
import Derived.Test.YtngpkbbljnbojaaGreatA8
import Derived.Test.YtngpkbbljnbojaaGreatA9
import Derived.Test.YtngpkbbljnbojaaGreatA10
import Derived.Test.YtngpkbbljnbojaaGreatA11
import Derived.Test.YtngpkbbljnbojaaGreatA12
import Derived.Test.YtngpkbbljnbojaaGreatA13
import Derived.Test.YtngpkbbljnbojaaGreatA17
import Derived.Test.YtngpkbbljnbojaaGreatA18
import Derived.Test.YtngpkbbljnbojaaGreatA19
import Derived.Test.YtngpkbbljnbojaaGreatA20
import Derived.Test.YtngpkbbljnbojaaGreatA21
namespace Go.Proofs.YtngpkbbljnbojaaGreat.Pure
open Go.RowKit Go.Proofs.YtngpkbbljnbojaaGreatW.PrintWords Go.Proofs.YtngpkbbljnbojaaGreat.A
set_option linter.unusedVariables false
set_option linter.unusedSimpArgs false
theorem w64_in (n:Int) (h : -9223372036854775808≤n∧n≤9223372036854775807):wrap64 n=n:=by unfold wrap64;omega
theorem wrap_succ (i n:Nat) (hi:i<n) (hn:(n:Int)≤9223372036854775807):wrap64 ((i:Int)+1)=((i+1:Nat):Int):=by
  rw [w64_in _ (by omega)];omega
theorem getD_drop {α:Type} (l:List α) (i:Nat) (z:α) (hi:i<l.length):l.drop i=l.getD i z :: l.drop (i+1):=by
  rw [List.drop_eq_getElem_cons hi]
  simp [List.getD,List.getElem?_eq_getElem hi]
theorem ev_pos {α:Type} {c:Prop} [Decidable c] {g f:Nat→Option α} {r:α} (h:c) (e:Ev g r):Ev (fun k=>if c then g k else f k) r:=Ev.congr (fun k=>if_pos h) e
theorem ev_neg {α:Type} {c:Prop} [Decidable c] {g f:Nat→Option α} {r:α} (h:¬ c) (e:Ev f r):Ev (fun k=>if c then g k else f k) r:=Ev.congr (fun k=>if_neg h) e
theorem ev_eq {α:Type} {g:Nat→Option α} {r s:α} (e:Ev g r) (h:r=s):Ev g s:=h ▸ e
theorem ev_ite {α:Type} {c:Prop} [Decidable c] {g f:Nat→Option α} {r s:α} (h1:c→Ev g r) (h2:¬ c→Ev f s):Ev (fun k=>if c then g k else f k) (if c then r else s):=by
  by_cases h:c
  · rw [if_pos h];exact ev_pos h (h1 h)
  · rw [if_neg h];exact ev_neg h (h2 h)
theorem ev_rounds {α:Type} {g:Nat→Option α} {r:α} (h:Ev g r):∃ k,g k=some r:=h.elim fun K h=>⟨K,h K (Nat.le_refl _)⟩

def chk (hi:Int):Option Int→List Int→Int
  | _,[]=>0
  | none,x :: xs=>if x<0∨hi≤x then 6 else chk hi (some x) xs
  | some q,x :: xs=>if x<0∨hi≤x then 6 else if x≤q then 18 else chk hi (some x) xs
def Chn (hi:Int):Option Int→List Int→Prop
  | _,[]=>True
  | p,x :: xs=>0≤x∧x<hi∧(∀ q,p=some q→q<x)∧Chn hi (some x) xs
theorem chk_Chn (hi:Int):∀ (xs:List Int) (p:Option Int),chk hi p xs=0↔Chn hi p xs
  | [],p=>by cases p <;> simp [chk,Chn]
  | x :: xs,p=>by
    have ih:=chk_Chn hi xs (some x)
    cases p with
    | none=>
      simp only [chk,Chn]
      by_cases h:x<0∨hi≤x
      · rw [if_pos h];exact ⟨fun h=>by omega,fun h2=>by omega⟩
      · rw [if_neg h,ih];exact ⟨fun h2=>⟨by omega,by omega,(fun q hq=>by cases hq),h2⟩,fun h2=>h2.2.2.2⟩
    | some q=>
      simp only [chk,Chn]
      by_cases h:x<0∨hi≤x
      · rw [if_pos h];exact ⟨fun h=>by omega,fun h2=>by omega⟩
      · rw [if_neg h]
        by_cases h1:x≤q
        · rw [if_pos h1];exact ⟨fun h=>by omega,fun h2=>by have:=h2.2.2.1 q rfl;omega⟩
        · rw [if_neg h1,ih];exact ⟨fun h2=>⟨by omega,by omega,fun q' hq=>by injection hq;omega,h2⟩,fun h2=>h2.2.2.2⟩
def prv (xs:List Int) (i:Nat):Option Int:=if i=0 then none else some (rd xs ((i:Int) - 1))
theorem prv_succ (xs:List Int) (i:Nat):prv xs (i+1)=some (rd xs i):=by
  unfold prv;rw [if_neg (by omega)];congr 2;omega
theorem rd_at (l:List Int) (i:Nat) (hi:i<l.length):l.drop i=rd l i :: l.drop (i+1):=getD_drop l i 0 hi
theorem rd_mem (ps:List Int) (i:Nat) (hi:i<ps.length):rd ps i∈ps:=by
  unfold rd
  simp only [Int.toNat_natCast,List.getD,List.getElem?_eq_getElem hi,Option.getD_some]
  exact List.getElem_mem hi
theorem shl1 (n:Nat) (h:n≤60):shl .i64 1 (n:Int)=((2 ^ n:Nat):Int):=by
  have h2:(2:Nat) ^ n≤2 ^ 60:=Nat.pow_le_pow_right (by decide) h
  unfold shl
  have e:min ((n:Int)).toNat IntKind.i64.bits=n:=by
    have:IntKind.i64.bits=64:=rfl
    rw [this];omega
  rw [e,Int.one_mul,show ((2:Int) ^ n)=((2 ^ n:Nat):Int) by simp]
  have h3:(2:Nat) ^ 60=1152921504606846976:=by decide
  rw [h3] at h2
  generalize (2:Nat) ^ n=z at h2 ⊢
  rw [IntKind.wrap_i64]
  omega
def asc (vs:List Int):Int:=if (vs.length:Int)>10 then 3 else chk 24 none vs
def valid (vs rs:List Int):Int:=if asc vs=0 then chk ((2 ^ vs.length:Nat):Int) none rs else asc vs
theorem asc_loop (vs:List Int) (hl:(vs.length:Int)≤9223372036854775807):∀ (d i:Nat),i+d=vs.length→Ev (fun k=>table_ascending.l0 k vs vs vs.length i) (chk 24 (prv vs i) (vs.drop i))
  | 0,i,h=>by
    rw [List.drop_eq_nil_of_le (by omega)]
    refine Ev.step (f:=fun _=>some 0) (fun k=>by rw [table_ascending.l0,if_neg (by omega)]) ?_
    cases prv vs i <;> exact Ev.now _
  | d+1,i,h=>by
    have hi:i<vs.length:=by omega
    have hw:=wrap_succ i vs.length hi hl
    have ih:=asc_loop vs hl d (i+1) (by omega)
    rw [prv_succ] at ih
    rw [rd_at vs i hi]
    have hj:rd vs i<0∨24≤rd vs i→∀ p,chk 24 p (rd vs i :: vs.drop (i+1))=6:=fun h p=>by cases p <;> simp only [chk] <;> rw [if_pos h]
    by_cases h0:rd vs i<0
    · rw [hj (.inl h0)]
      exact Ev.step (f:=fun _=>some 6) (fun k=>by rw [table_ascending.l0,if_pos (by omega),if_pos (by omega),if_pos (by omega),if_pos h0]) (Ev.now _)
    · by_cases h1:rd vs i≥24
      · rw [hj (.inr h1)]
        exact Ev.step (f:=fun _=>some 6) (fun k=>by rw [table_ascending.l0,if_pos (by omega),if_pos (by omega),if_pos (by omega),if_neg h0,if_pos h1]) (Ev.now _)
      · by_cases e:i=0
        · have ep:prv vs i=none:=by unfold prv;rw [if_pos e]
          rw [ep]
          simp only [chk]
          rw [if_neg (by omega)]
          refine Ev.step (fun k=>by rw [table_ascending.l0,if_pos (by omega),if_pos (by omega),if_pos (by omega),if_neg h0,if_neg h1,if_neg (by omega),hw]) ih
        · have ep:prv vs i=some (rd vs ((i:Int) - 1)):=by unfold prv;rw [if_neg e]
          rw [ep]
          simp only [chk]
          rw [if_neg (by omega)]
          by_cases h2:rd vs i≤rd vs ((i:Int) - 1)
          · rw [if_pos h2]
            exact Ev.step (f:=fun _=>some 18) (fun k=>by rw [table_ascending.l0,if_pos (by omega),if_pos (by omega),if_pos (by omega),if_neg h0,if_neg h1,if_pos (by omega),w64_in ((i:Int) - 1) (by omega),if_pos (by omega),if_pos (by omega),if_pos (by omega)]) (Ev.now _)
          · rw [if_neg h2]
            refine Ev.step (fun k=>by rw [table_ascending.l0,if_pos (by omega),if_pos (by omega),if_pos (by omega),if_neg h0,if_neg h1,if_pos (by omega),w64_in ((i:Int) - 1) (by omega),if_pos (by omega),if_pos (by omega),if_neg (by omega),hw]) ih
theorem asc_ev (vs:List Int) (hl:(vs.length:Int)≤9223372036854775807):Ev (fun k=>table_ascending.f k vs) (asc vs):=by
  unfold asc table_ascending.f
  refine ev_ite (fun _=>Ev.now _) (fun _=>?_)
  simpa [prv] using asc_loop vs hl vs.length 0 (by omega)
theorem valid_loop (vs rs:List Int) (hv:vs.length≤10) (hl:(rs.length:Int)≤9223372036854775807):∀ (d i:Nat),i+d=rs.length→Ev (fun k=>table_Valid.l0 k rs rs.length i vs rs) (chk ((2 ^ vs.length:Nat):Int) (prv rs i) (rs.drop i))
  | 0,i,h=>by
    rw [List.drop_eq_nil_of_le (by omega)]
    refine Ev.step (f:=fun _=>some 0) (fun k=>by rw [table_Valid.l0,if_neg (by omega)]) ?_
    cases prv rs i <;> exact Ev.now _
  | d+1,i,h=>by
    have hi:i<rs.length:=by omega
    have hw:=wrap_succ i rs.length hi hl
    have ih:=valid_loop vs rs hv hl d (i+1) (by omega)
    have hs:=shl1 vs.length (by omega)
    rw [prv_succ] at ih
    rw [rd_at rs i hi]
    have hj:rd rs i<0∨((2 ^ vs.length:Nat):Int)≤rd rs i→∀ p,chk ((2 ^ vs.length:Nat):Int) p (rd rs i :: rs.drop (i+1))=6:=fun h p=>by cases p <;> simp only [chk] <;> rw [if_pos h]
    by_cases h0:rd rs i<0
    · rw [hj (.inl h0)]
      exact Ev.step (f:=fun _=>some 6) (fun k=>by rw [table_Valid.l0,if_pos (by omega),if_pos (by omega),if_pos (by omega),if_pos h0]) (Ev.now _)
    · by_cases h1:rd rs i≥((2 ^ vs.length:Nat):Int)
      · rw [hj (.inr h1)]
        exact Ev.step (f:=fun _=>some 6) (fun k=>by rw [table_Valid.l0,if_pos (by omega),if_pos (by omega),if_pos (by omega),if_neg h0,hs,if_pos h1]) (Ev.now _)
      · by_cases e:i=0
        · have ep:prv rs i=none:=by unfold prv;rw [if_pos e]
          rw [ep]
          simp only [chk]
          rw [if_neg (by omega)]
          refine Ev.step (fun k=>by rw [table_Valid.l0,if_pos (by omega),if_pos (by omega),if_pos (by omega),if_neg h0,hs,if_neg h1,if_neg (by omega),hw]) ih
        · have ep:prv rs i=some (rd rs ((i:Int) - 1)):=by unfold prv;rw [if_neg e]
          rw [ep]
          simp only [chk]
          rw [if_neg (by omega)]
          by_cases h2:rd rs i≤rd rs ((i:Int) - 1)
          · rw [if_pos h2]
            exact Ev.step (f:=fun _=>some 18) (fun k=>by rw [table_Valid.l0,if_pos (by omega),if_pos (by omega),if_pos (by omega),if_neg h0,hs,if_neg h1,if_pos (by omega),w64_in ((i:Int) - 1) (by omega),if_pos (by omega),if_pos (by omega),if_pos (by omega)]) (Ev.now _)
          · rw [if_neg h2]
            refine Ev.step (fun k=>by rw [table_Valid.l0,if_pos (by omega),if_pos (by omega),if_pos (by omega),if_neg h0,hs,if_neg h1,if_pos (by omega),w64_in ((i:Int) - 1) (by omega),if_pos (by omega),if_pos (by omega),if_neg (by omega),hw]) ih
theorem asc_len {vs:List Int} (h:asc vs=0):vs.length≤10:=by
  unfold asc at h
  by_cases h1:(vs.length:Int)>10
  · rw [if_pos h1] at h;omega
  · omega
theorem valid_ev (vs rs:List Int) (hl:(vs.length:Int)≤9223372036854775807) (hr:(rs.length:Int)≤9223372036854775807):Ev (fun k=>table_Valid.f k vs rs) (valid vs rs):=by
  unfold valid
  refine Ev.bind (asc_ev vs hl) ?_
  refine ev_ite (fun h=>?_) (fun _=>Ev.now _)
  simpa [prv] using valid_loop vs rs (asc_len h) hr rs.length 0 (by omega)
structure VT (vs rs:List Int):Prop where
  len:vs.length≤10
  vars:Chn 24 none vs
  rows:Chn ((2 ^ vs.length:Nat):Int) none rs
theorem asc_iff (vs:List Int):asc vs=0↔vs.length≤10∧Chn 24 none vs:=by
  unfold asc
  by_cases h1:(vs.length:Int)>10
  · rw [if_pos h1];exact ⟨fun h=>by omega,fun h=>by omega⟩
  · rw [if_neg h1,chk_Chn];exact ⟨fun h=>⟨by omega,h⟩,fun h=>h.2⟩
theorem valid_VT (vs rs:List Int):valid vs rs=0↔VT vs rs:=by
  unfold valid
  by_cases h:asc vs=0
  · rw [if_pos h,chk_Chn]
    have:=(asc_iff vs).1 h
    exact ⟨fun h=>⟨this.1,this.2,h⟩,fun h=>h.rows⟩
  · rw [if_neg h]
    exact ⟨fun h2=>absurd h2 h,fun h2=>absurd ((asc_iff vs).2 ⟨h2.len,h2.vars⟩) h⟩
theorem Chn.mem {hi:Int}:∀ {ns:List Int} {p:Option Int},Chn hi p ns→∀ n,n∈ns→0≤n∧n<hi∧∀ q,p=some q→q<n
  | [],_,_,n,h=>by simp at h
  | m :: ns,p,⟨h0,h1,h2,h3⟩,n,h=>by
    rcases List.mem_cons.1 h with rfl|h
    · exact ⟨h0,h1,h2⟩
    · have:=Chn.mem h3 n h
      exact ⟨this.1,this.2.1,fun q hq=>by have:=this.2.2 m rfl;have:=h2 q hq;omega⟩
theorem Chn.same {hi hi':Int}:∀ {xs ys:List Int} {p q:Option Int},Chn hi p xs→Chn hi' q ys→(∀ n,n∈xs↔n∈ys)→xs=ys
  | [],[],_,_,_,_,_=>rfl
  | [],y :: ys,_,_,_,_,h=>by have:=(h y).2 List.mem_cons_self;simp at this
  | x :: xs,[],_,_,_,_,h=>by have:=(h x).1 List.mem_cons_self;simp at this
  | x :: xs,y :: ys,p,q,⟨a0,a1,a2,a3⟩,⟨b0,b1,b2,b3⟩,h=>by
    have e:x=y:=by
      rcases List.mem_cons.1 ((h x).1 List.mem_cons_self) with h1|h1
      · exact h1
      · rcases List.mem_cons.1 ((h y).2 List.mem_cons_self) with h2|h2
        · exact h2.symm
        · have:=(b3.mem x h1).2.2 y rfl
          have:=(a3.mem y h2).2.2 x rfl
          omega
    subst e
    refine congrArg (x :: ·) (Chn.same a3 b3 (fun n=>⟨fun hn=>?_,fun hn=>?_⟩))
    · rcases List.mem_cons.1 ((h n).1 (List.mem_cons_of_mem _ hn)) with h1|h1
      · have:=(a3.mem n hn).2.2 x rfl;omega
      · exact h1
    · rcases List.mem_cons.1 ((h n).2 (List.mem_cons_of_mem _ hn)) with h1|h1
      · have:=(b3.mem n hn).2.2 x rfl;omega
      · exact h1
theorem Chn.filter {hi:Int} (f:Int→Bool):∀ {xs:List Int} {p:Option Int},Chn hi p xs→Chn hi p (xs.filter f)
  | [],_,h=>h
  | x :: xs,p,⟨h0,h1,h2,h3⟩=>by
    have ih:=h3.filter f
    rw [List.filter_cons]
    split
    · exact ⟨h0,h1,h2,ih⟩
    · revert ih
      generalize xs.filter f=zs
      intro ih
      cases zs with
      | nil=>trivial
      | cons z zs=>exact ⟨ih.1,ih.2.1,fun q hq=>by have:=h2 q hq;have:=ih.2.2.1 x rfl;omega,ih.2.2.2⟩
theorem bit_add (b:Bool) (out i:Nat) (h:out<2 ^ i) (j:Nat):(out+b.toNat * 2 ^ i).testBit j=(out.testBit j||(b&&decide (j=i))):=by
  rw [show out+b.toNat * 2 ^ i=2 ^ i * b.toNat+out by rw [Nat.mul_comm,Nat.add_comm],Nat.testBit_two_pow_mul_add _ h]
  by_cases hj:j<i
  · rw [if_pos hj]
    have:decide (j=i)=false:=decide_eq_false (by omega)
    rw [this,Bool.and_false,Bool.or_false]
  · rw [if_neg hj]
    have h1:out.testBit j=false:=Nat.testBit_lt_two_pow (Nat.lt_of_lt_of_le h (Nat.pow_le_pow_right (by decide) (by omega)))
    rw [h1,Bool.false_or]
    by_cases e:j=i
    · subst e;rw [Nat.sub_self];cases b <;> simp
    · have:decide (j=i)=false:=decide_eq_false e
      rw [this,Bool.and_false]
      refine Nat.testBit_lt_two_pow ?_
      have h2:b.toNat<2:=by cases b <;> simp
      have h3:2 ^ 1≤2 ^ (j - i):=Nat.pow_le_pow_right (by decide) (by omega)
      omega
theorem add_lt (b:Bool) (out i:Nat) (h:out<2 ^ i):out+b.toNat * 2 ^ i<2 ^ (i+1):=by
  rw [Nat.pow_succ]
  cases b
  · simp;omega
  · simp;omega
theorem or_bit (x n i:Nat) (out:Nat) (hx:x<2 ^ 60) (hn:n≤60) (hi:i≤60) (ho:out<2 ^ i) :
    Go.bits .or .i64 (out:Int) (shl .i64 (Go.bits .and .i64 (shr .i64 (x:Int) (n:Int)) 1) (i:Int))=((out+(x.testBit n).toNat * 2 ^ i:Nat):Int):=by
  have hw:∀ z:Int,0≤z→z<2 ^ 62→IntKind.i64.wrap z=z:=fun z h0 h1=>by
    rw [IntKind.wrap_i64]
    have:(2:Int) ^ 62=4611686018427387904:=by decide
    omega
  have hb:IntKind.i64.bits=64:=rfl
  have h1:shr .i64 (x:Int) (n:Int)=((x / 2 ^ n:Nat):Int):=by
    unfold shr
    rw [hb,show min ((n:Int)).toNat 64=n by omega]
    simp
  have hxd:x / 2 ^ n<2 ^ 62:=Nat.lt_of_le_of_lt (Nat.div_le_self _ _) (Nat.lt_of_lt_of_le hx (by decide))
  have h2:Go.bits .and .i64 ((x / 2 ^ n:Nat):Int) 1=(((x.testBit n).toNat:Nat):Int):=by
    have:=(bits_nat .i64 62 (by decide) hw (x / 2 ^ n) 1 hxd (by decide)).1
    rw [Nat.and_one_is_mod,← Nat.toNat_testBit] at this
    exact this
  have hip:(2:Nat) ^ i≤2 ^ 60:=Nat.pow_le_pow_right (by decide) hi
  have h60:(2:Nat) ^ 60=1152921504606846976:=by decide
  have hbl:(x.testBit n).toNat * 2 ^ i≤2 ^ i:=by cases x.testBit n <;> simp
  have h3:shl .i64 (((x.testBit n).toNat:Nat):Int) (i:Int)=(((x.testBit n).toNat * 2 ^ i:Nat):Int):=by
    unfold shl
    rw [hb,show min ((i:Int)).toNat 64=i by omega]
    have e:(((x.testBit n).toNat:Nat):Int) * 2 ^ i=(((x.testBit n).toNat * 2 ^ i:Nat):Int):=by simp
    rw [e]
    exact hw _ (by omega) (by have:(2:Int) ^ 62=4611686018427387904:=by decide
                              omega)
  rw [h1,h2,h3]
  have h62:(2:Nat) ^ 62=4611686018427387904:=by decide
  rw [(bits_nat .i64 62 (by decide) hw out _ (by omega) (by omega)).2]
  congr 1
  rw [Nat.or_comm,Nat.mul_comm,← Nat.two_pow_add_eq_or_of_lt ho,Nat.add_comm]
def rowF (a:Nat):List Int→Nat→Nat→Nat
  | [],_,out=>out
  | v :: vs,i,out=>rowF a vs (i+1) (out+(a.testBit v.toNat).toNat * 2 ^ i)
def asgF (r:Nat):List Int→Nat→Nat→Nat
  | [],_,out=>out
  | v :: vs,i,out=>asgF r vs (i+1) (out+(r.testBit i).toNat * 2 ^ v.toNat)
theorem rowF_lt (a:Nat):∀ (vs:List Int) (i out:Nat),out<2 ^ i→rowF a vs i out<2 ^ (i+vs.length)
  | [],_,_,h=>h
  | v :: vs,i,out,h=>by
    have:=rowF_lt a vs (i+1) _ (add_lt (a.testBit v.toNat) out i h)
    rw [rowF,List.length_cons,show i+(vs.length+1)=i+1+vs.length by omega]
    exact this
theorem rowF_bit (a:Nat):∀ (vs:List Int) (i out:Nat),out<2 ^ i→∀ j,((rowF a vs i out).testBit j=true↔out.testBit j=true∨∃ m v,vs[m]?=some v∧j=i+m∧a.testBit v.toNat=true)
  | [],_,_,_,j=>by simp [rowF]
  | v :: vs,i,out,h,j=>by
    rw [rowF,rowF_bit a vs (i+1) _ (add_lt (a.testBit v.toNat) out i h) j,bit_add _ _ _ h]
    constructor
    · rintro (h1|⟨m,u,h1,h2,h3⟩)
      · rcases Bool.or_eq_true_iff.1 h1 with h1|h1
        · exact .inl h1
        · rw [Bool.and_eq_true,decide_eq_true_eq] at h1
          exact .inr ⟨0,v,rfl,by omega,h1.1⟩
      · exact .inr ⟨m+1,u,by simpa using h1,by omega,h3⟩
    · rintro (h1|⟨m,u,h1,h2,h3⟩)
      · exact .inl (by rw [h1];rfl)
      · cases m with
        | zero=>
          obtain rfl:v=u:=by simpa using h1
          exact .inl (by rw [h3,decide_eq_true (show j=i by omega)];simp)
        | succ m=>exact .inr ⟨m,u,by simpa using h1,by omega,h3⟩
def Under (out:Nat):List Int→Prop
  | []=>True
  | v :: _=>out<2 ^ v.toNat
theorem under_next {hi:Int} {v:Int} {vs:List Int} (h:Chn hi (some v) vs) (h0:0≤v) {out:Nat} (ho:out<2 ^ (v.toNat+1)):Under out vs:=by
  cases vs with
  | nil=>trivial
  | cons u us=>
    have:=h.2.2.1 v rfl
    exact Nat.lt_of_lt_of_le ho (Nat.pow_le_pow_right (by decide) (by omega))
theorem asgF_bit (r:Nat) {hi:Int}:∀ (vs:List Int) (p:Option Int) (i out:Nat),Chn hi p vs→Under out vs→∀ j,((asgF r vs i out).testBit j=true↔out.testBit j=true∨∃ m v,vs[m]?=some v∧j=v.toNat∧r.testBit (i+m)=true)
  | [],_,_,_,_,_,j=>by simp [asgF]
  | v :: vs,p,i,out,⟨h0,h1,h2,h3⟩,hu,j=>by
    have hl:=add_lt (r.testBit i) out v.toNat hu
    rw [asgF,asgF_bit r vs (some v) (i+1) _ h3 (under_next h3 h0 hl) j,bit_add _ _ _ hu]
    constructor
    · rintro (h1|⟨m,u,h1,h2,h3⟩)
      · rcases Bool.or_eq_true_iff.1 h1 with h1|h1
        · exact .inl h1
        · rw [Bool.and_eq_true,decide_eq_true_eq] at h1
          exact .inr ⟨0,v,rfl,h1.2,h1.1⟩
      · exact .inr ⟨m+1,u,by simpa using h1,h2,by rw [show i+(m+1)=i+1+m by omega];exact h3⟩
    · rintro (h1|⟨m,u,h1,h2,h3⟩)
      · exact .inl (by rw [h1];rfl)
      · cases m with
        | zero=>
          obtain rfl:v=u:=by simpa using h1
          rw [Nat.add_zero] at h3
          exact .inl (by rw [h3,decide_eq_true h2];simp)
        | succ m=>exact .inr ⟨m,u,by simpa using h1,h2,by rw [show i+1+m=i+(m+1) by omega];exact h3⟩
theorem asgF_lt (r:Nat) {hi:Int} (hhi:0≤hi):∀ (vs:List Int) (p:Option Int) (i out:Nat),Chn hi p vs→Under out vs→out<2 ^ hi.toNat→asgF r vs i out<2 ^ hi.toNat
  | [],_,_,_,_,_,ho=>ho
  | v :: vs,p,i,out,⟨h0,h1,h2,h3⟩,hu,_=>by
    have hl:=add_lt (r.testBit i) out v.toNat hu
    rw [asgF]
    refine asgF_lt r hhi vs (some v) (i+1) _ h3 (under_next h3 h0 hl) (Nat.lt_of_lt_of_le hl (Nat.pow_le_pow_right (by decide) (by omega)))
def row (vs:List Int) (a:Nat):Nat:=rowF a vs 0 0
def asg (vs:List Int) (r:Nat):Nat:=asgF r vs 0 0
theorem row_lt (vs:List Int) (a:Nat):row vs a<2 ^ vs.length:=by
  have:=rowF_lt a vs 0 0 (by decide)
  rw [Nat.zero_add] at this
  exact this
theorem row_bit (vs:List Int) (a j:Nat):(row vs a).testBit j=true↔∃ v,vs[j]?=some v∧a.testBit v.toNat=true:=by
  unfold row
  rw [rowF_bit a vs 0 0 (by decide)]
  constructor
  · rintro (h|⟨m,v,h1,h2,h3⟩)
    · simp at h
    · obtain rfl:j=m:=by omega
      exact ⟨v,h1,h3⟩
  · rintro ⟨v,h1,h2⟩
    exact .inr ⟨j,v,h1,by omega,h2⟩
theorem under_zero (vs:List Int):Under 0 vs:=by cases vs <;> simp [Under,Nat.two_pow_pos]
theorem asg_bit {hi:Int} {vs:List Int} (h:Chn hi none vs) (r j:Nat):(asg vs r).testBit j=true↔∃ m v,vs[m]?=some v∧j=v.toNat∧r.testBit m=true:=by
  unfold asg
  rw [asgF_bit r vs none 0 0 h (under_zero vs)]
  simp
theorem asg_lt {vs:List Int} (h:Chn 24 none vs) (r:Nat):asg vs r<2 ^ 24:=asgF_lt r (by decide) vs none 0 0 h (under_zero vs) (Nat.two_pow_pos _)
theorem Chn.inj {hi:Int}:∀ {vs:List Int} {p:Option Int},Chn hi p vs→∀ (i j:Nat) (u v:Int),vs[i]?=some u→vs[j]?=some v→u.toNat=v.toNat→i=j
  | [],_,_,i,j,u,v,h,_,_=>by simp at h
  | x :: xs,p,⟨h0,h1,h2,h3⟩,i,j,u,v,hi,hj,e=>by
    cases i with
    | zero=>
      obtain rfl:x=u:=by simpa using hi
      cases j with
      | zero=>rfl
      | succ j=>
        have hj':xs[j]?=some v:=by simpa using hj
        have:=h3.mem v (List.mem_of_getElem? hj')
        have:=this.2.2 x rfl
        omega
    | succ i=>
      have hi':xs[i]?=some u:=by simpa using hi
      cases j with
      | zero=>
        obtain rfl:x=v:=by simpa using hj
        have:=h3.mem u (List.mem_of_getElem? hi')
        have:=this.2.2 x rfl
        omega
      | succ j=>rw [Chn.inj h3 i j u v hi' (by simpa using hj) e]
theorem row_asg {hi:Int} {vs:List Int} (h:Chn hi none vs) {r:Nat} (hr:r<2 ^ vs.length):row vs (asg vs r)=r:=by
  apply Nat.eq_of_testBit_eq
  intro j
  rw [Bool.eq_iff_iff,row_bit]
  constructor
  · rintro ⟨v,hv,hb⟩
    obtain ⟨m,u,hm,e,hr⟩:=(asg_bit h r _).1 hb
    rw [h.inj j m v u hv hm e];exact hr
  · intro hb
    have hj:j<vs.length:=by
      rcases Nat.lt_or_ge j vs.length with h1|h1
      · exact h1
      · rw [Nat.testBit_lt_two_pow (Nat.lt_of_lt_of_le hr (Nat.pow_le_pow_right (by decide) h1))] at hb;exact absurd hb (by simp)
    exact ⟨vs[j],List.getElem?_eq_getElem hj,(asg_bit h r _).2 ⟨j,vs[j],List.getElem?_eq_getElem hj,rfl,hb⟩⟩

theorem nat_of {v:Int} (h:0≤v):v=((v.toNat:Nat):Int):=by omega
theorem Chn.below {hi:Int}:∀ {xs:List Int} {p:Option Int},Chn hi p xs→∀ (i j:Nat) (x y:Int),i<j→xs[i]?=some x→xs[j]?=some y→x<y
  | [],_,_,i,j,x,y,_,h,_=>by simp at h
  | z :: zs,p,⟨_,_,_,h3⟩,i,j,x,y,hij,hx,hy=>by
    cases j with
    | zero=>omega
    | succ j=>
      have hy':zs[j]?=some y:=by simpa using hy
      cases i with
      | zero=>
        obtain rfl:z=x:=by simpa using hx
        exact (h3.mem y (List.mem_of_getElem? hy')).2.2 z rfl
      | succ i=>exact Chn.below h3 i j x y (by omega) (by simpa using hx) hy'
def hs (vs rs:List Int) (a:Nat):Bool:=decide (((row vs a:Nat):Int)∈rs)
theorem VT.vars' {vs rs:List Int} (h:VT vs rs):∀ v,v∈vs→0≤v∧v<24:=fun v hv=>by have:=h.vars.mem v hv;omega
theorem Chn.len1 {hi:Int}:∀ {xs:List Int} {q:Int},Chn hi (some q) xs→0≤q→q<hi→(xs.length:Int)≤hi - 1 - q
  | [],_,_,_,_=>by simp;omega
  | x :: xs,q,⟨h0,h1,h2,h3⟩,_,_=>by
    have:=Chn.len1 h3 h0 h1
    have:=h2 q rfl
    simp only [List.length_cons]
    omega
theorem Chn.len {hi:Int} {xs:List Int} (h:Chn hi none xs) (h0:0≤hi):(xs.length:Int)≤hi:=by
  cases xs with
  | nil=>simpa using h0
  | cons x xs=>
    have:=Chn.len1 h.2.2.2 h.1 h.2.1
    have:=h.1
    simp only [List.length_cons]
    omega
theorem pow10 {n:Nat} (h:n≤10):2 ^ n≤1024:=by
  have:(2:Nat) ^ n≤2 ^ 10:=Nat.pow_le_pow_right (by decide) h
  omega
theorem VT.rows_len {vs rs:List Int} (h:VT vs rs):(rs.length:Int)≤1024:=by
  have h1:=h.rows.len (Int.natCast_nonneg _)
  have h2:=pow10 h.len
  generalize (2:Nat) ^ vs.length=z at h1 h2
  omega
def flt (t:Nat→Bool):Nat→Nat→List Int
  | 0,_=>[]
  | d+1,r=>if t r=true then (r:Int) :: flt t d (r+1) else flt t d (r+1)
theorem flt_mem (t:Nat→Bool):∀ (d r:Nat) (x:Int),x∈flt t d r↔∃ m:Nat,r≤m∧m<r+d∧t m=true∧x=m
  | 0,r,x=>by simp [flt];omega
  | d+1,r,x=>by
    have ih:=flt_mem t d (r+1) x
    rw [flt]
    by_cases h:t r=true
    · rw [if_pos h,List.mem_cons,ih]
      constructor
      · rintro (rfl|⟨m,h1,h2,h3⟩)
        · exact ⟨r,by omega,by omega,h,rfl⟩
        · exact ⟨m,by omega,by omega,h3⟩
      · rintro ⟨m,h1,h2,h3,h4⟩
        by_cases e:m=r
        · exact .inl (by rw [h4,e])
        · exact .inr ⟨m,by omega,by omega,h3,h4⟩
    · rw [if_neg h,ih]
      constructor
      · rintro ⟨m,h1,h2,h3⟩;exact ⟨m,by omega,by omega,h3⟩
      · rintro ⟨m,h1,h2,h3,h4⟩
        by_cases e:m=r
        · subst e;exact absurd h3 h
        · exact ⟨m,by omega,by omega,h3,h4⟩
theorem flt_chn (t:Nat→Bool):∀ (d r:Nat) (p:Option Int),(∀ q,p=some q→q<r)→Chn ((r+d:Nat):Int) p (flt t d r)
  | 0,_,_,_=>trivial
  | d+1,r,p,hp=>by
    have e:((r+(d+1):Nat):Int)=((r+1+d:Nat):Int):=by omega
    rw [flt,e]
    by_cases h:t r=true
    · rw [if_pos h]
      exact ⟨by omega,by omega,hp,flt_chn t d (r+1) _ (fun q hq=>by injection hq;omega)⟩
    · rw [if_neg h]
      exact flt_chn t d (r+1) p (fun q hq=>by have:=hp q hq;omega)
theorem flt_len (t:Nat→Bool):∀ (d r:Nat),(flt t d r).length≤d
  | 0,_=>by simp [flt]
  | d+1,r=>by have:=flt_len t d (r+1);rw [flt];split <;> simp <;> omega
theorem chn_snoc {hi:Int} {x:Int} (h0:0≤x) (h1:x<hi):∀ {l:List Int} {p:Option Int},Chn hi p l→(∀ y,y∈l→y<x)→(∀ q,p=some q→q<x)→Chn hi p (l++[x])
  | [],_,_,_,hp=>⟨h0,h1,hp,trivial⟩
  | y :: l,p,⟨a0,a1,a2,a3⟩,hl,hp=>⟨a0,a1,a2,chn_snoc h0 h1 a3 (fun z hz=>hl z (List.mem_cons_of_mem _ hz)) (fun q hq=>by injection hq with hq;rw [← hq];exact hl y List.mem_cons_self)⟩
theorem compact_spec {hi:Int} (d:Array Int) (hd:∀ i j,i≤j→j<d.size→d[i]!≤d[j]!) (hr:∀ i,i<d.size→0≤d[i]!∧d[i]!<hi):∀ m,m≤d.size→Chn hi none (Lib.compactUpTo d m)∧∀ n,n∈Lib.compactUpTo d m↔∃ j,j<m∧d[j]! = n
  | 0,_=>⟨by simp [Lib.compactUpTo,Chn],fun n=>by simp [Lib.compactUpTo]⟩
  | m+1,hm=>by
    obtain ⟨h1,h2⟩:=compact_spec d hd hr m (by omega)
    have hrm:=hr m (by omega)
    rw [Lib.compactUpTo_succ]
    by_cases hk:Lib.keeps d m=true
    · rw [if_pos hk]
      have hk2:m=0∨d[m]!≠d[m - 1]!:=by simpa [Lib.keeps] using hk
      refine ⟨chn_snoc hrm.1 hrm.2 h1 (fun y hy=>?_) (fun q hq=>by cases hq),fun n=>?_⟩
      · obtain ⟨j,hj,rfl⟩:=(h2 y).1 hy
        have a1:=hd j (m - 1) (by omega) (by omega)
        have a2:=hd (m - 1) m (by omega) (by omega)
        rcases hk2 with h|h
        · omega
        · omega
      · rw [List.mem_append,h2]
        constructor
        · rintro (⟨j,hj,e⟩|h)
          · exact ⟨j,by omega,e⟩
          · exact ⟨m,by omega,by simpa using Eq.symm (List.mem_singleton.1 h)⟩
        · rintro ⟨j,hj,e⟩
          by_cases ej:j=m
          · subst ej;exact .inr (by simp [e])
          · exact .inl ⟨j,by omega,e⟩
    · rw [if_neg hk,List.append_nil]
      have hk2:¬ (m=0∨d[m]!≠d[m - 1]!):=by simpa [Lib.keeps] using hk
      refine ⟨h1,fun n=>?_⟩
      rw [h2]
      constructor
      · rintro ⟨j,hj,e⟩;exact ⟨j,by omega,e⟩
      · rintro ⟨j,hj,e⟩
        by_cases ej:j=m
        · subst ej
          exact ⟨j - 1,by omega,by rw [← e];exact (Classical.byContradiction fun hne=>hk2 (.inr (fun h=>hne h.symm)))⟩
        · exact ⟨j,by omega,e⟩
theorem sorted_compact {hi:Int} (l:List Int) (hr:∀ x,x∈l→0≤x∧x<hi):Chn hi none (Lib.compact (l.mergeSort fun x y=>decide (x≤y)))∧∀ n,n∈Lib.compact (l.mergeSort fun x y=>decide (x≤y))↔n∈l:=by
  have hp:=List.pairwise_mergeSort (le:=fun x y:Int=>decide (x≤y)) (fun a b c h1 h2=>by simp at *;omega) (fun a b=>by simp;omega) l
  have hperm:=List.mergeSort_perm l (fun x y:Int=>decide (x≤y))
  generalize hs:l.mergeSort (fun x y=>decide (x≤y))=s at hp hperm
  have hget:∀ i,i<s.length→s.toArray[i]! = s[i]!:=fun i hi=>by simp
  have key:=compact_spec (hi:=hi) s.toArray (fun i j hij hj=>by
    have hj':j<s.length:=by simpa using hj
    rw [hget i (by omega),hget j hj',List.getElem!_eq_getElem?_getD,List.getElem!_eq_getElem?_getD,List.getElem?_eq_getElem hj',List.getElem?_eq_getElem (show i<s.length by omega)]
    by_cases e:i=j
    · subst e;exact Int.le_refl _
    · have:=List.pairwise_iff_getElem.1 hp i j (by omega) hj' (by omega)
      simpa using this) (fun i hi2=>by
    have hi':i<s.length:=by simpa using hi2
    rw [hget i hi',List.getElem!_eq_getElem?_getD,List.getElem?_eq_getElem hi']
    exact hr _ (hperm.mem_iff.1 (List.getElem_mem hi'))) s.length (by simp)
  refine ⟨key.1,fun n=>?_⟩
  have h2:=key.2 n
  unfold Lib.compact
  rw [h2,← hperm.mem_iff]
  constructor
  · rintro ⟨j,hj,e⟩
    rw [hget j hj,List.getElem!_eq_getElem?_getD,List.getElem?_eq_getElem hj] at e
    exact e ▸ List.getElem_mem hj
  · intro hn
    obtain ⟨j,hj,e⟩:=List.getElem_of_mem hn
    exact ⟨j,hj,by rw [hget j hj,List.getElem!_eq_getElem?_getD,List.getElem?_eq_getElem hj];exact e⟩
theorem row_agree (vs:List Int) {x y:Nat} (h:∀ w,w∈vs→x.testBit w.toNat=y.testBit w.toNat):row vs x=row vs y:=by
  apply Nat.eq_of_testBit_eq
  intro j
  rw [Bool.eq_iff_iff,row_bit,row_bit]
  constructor
  · rintro ⟨v,hv,hb⟩;exact ⟨v,hv,by rw [← h v (List.mem_of_getElem? hv)];exact hb⟩
  · rintro ⟨v,hv,hb⟩;exact ⟨v,hv,by rw [h v (List.mem_of_getElem? hv)];exact hb⟩
theorem asg_at {hi:Int} {vs:List Int} (h:Chn hi none vs) (x:Nat) {w:Int} (hw:w∈vs):(asg vs (row vs x)).testBit w.toNat=x.testBit w.toNat:=by
  rw [Bool.eq_iff_iff,asg_bit h]
  obtain ⟨i,hi2⟩:=List.getElem?_of_mem hw
  constructor
  · rintro ⟨m,v,hv,e,hb⟩
    obtain ⟨u,hu,hb⟩:=(row_bit vs x m).1 hb
    rw [hv] at hu
    injection hu with hu
    rw [e,hu];exact hb
  · intro hb
    exact ⟨i,w,hi2,rfl,(row_bit vs x i).2 ⟨w,hi2,hb⟩⟩
theorem hs_agree (vs rs:List Int) {x y:Nat} (h:∀ w,w∈vs→x.testBit w.toNat=y.testBit w.toNat):hs vs rs x=hs vs rs y:=by
  unfold hs;rw [row_agree vs h]
theorem VT.row_of {vs rs:List Int} (h:VT vs rs) {r:Int} (hr:r∈rs):0≤r∧r.toNat<2 ^ vs.length∧row vs (asg vs r.toNat)=r.toNat:=by
  have h1:=h.rows.mem r hr
  have h2:r.toNat<2 ^ vs.length:=by
    have:=h1.2.1
    generalize 2 ^ vs.length=z at *
    omega
  exact ⟨h1.1,h2,row_asg h.vars h2⟩
theorem rasc_loop (vs:List Int) (hl:(vs.length:Int)≤9223372036854775807):∀ (d i:Nat),i+d=vs.length→Ev (fun k=>ancepsref38_Variables.l0 k vs i) (chk 24 (prv vs i) (vs.drop i))
  | 0,i,h=>by
    rw [List.drop_eq_nil_of_le (by omega)]
    refine Ev.step (f:=fun _=>some 0) (fun k=>by rw [ancepsref38_Variables.l0,if_neg (by omega)]) ?_
    cases prv vs i <;> exact Ev.now _
  | d+1,i,h=>by
    have hi:i<vs.length:=by omega
    have hw:=wrap_succ i vs.length hi hl
    have ih:=rasc_loop vs hl d (i+1) (by omega)
    rw [prv_succ] at ih
    rw [rd_at vs i hi]
    have hj:rd vs i<0∨24≤rd vs i→∀ p,chk 24 p (rd vs i :: vs.drop (i+1))=6:=fun h p=>by cases p <;> simp only [chk] <;> rw [if_pos h]
    by_cases h0:rd vs i<0
    · rw [hj (.inl h0)]
      exact Ev.step (f:=fun _=>some 6) (fun k=>by rw [ancepsref38_Variables.l0,if_pos (by omega),if_pos (by omega),if_pos h0]) (Ev.now _)
    · by_cases h1:rd vs i>23
      · rw [hj (.inr (by omega))]
        exact Ev.step (f:=fun _=>some 6) (fun k=>by rw [ancepsref38_Variables.l0,if_pos (by omega),if_pos (by omega),if_neg h0,if_pos h1]) (Ev.now _)
      · by_cases e:i=0
        · have ep:prv vs i=none:=by unfold prv;rw [if_pos e]
          rw [ep]
          simp only [chk]
          rw [if_neg (by omega)]
          refine Ev.step (fun k=>by rw [ancepsref38_Variables.l0,if_pos (by omega),if_pos (by omega),if_neg h0,if_neg h1,if_neg (by omega),hw]) ih
        · have ep:prv vs i=some (rd vs ((i:Int) - 1)):=by unfold prv;rw [if_neg e]
          rw [ep]
          simp only [chk]
          rw [if_neg (by omega)]
          by_cases h2:rd vs i≤rd vs ((i:Int) - 1)
          · rw [if_pos h2]
            exact Ev.step (f:=fun _=>some 18) (fun k=>by rw [ancepsref38_Variables.l0,if_pos (by omega),if_pos (by omega),if_neg h0,if_neg h1,if_pos (by omega),w64_in ((i:Int) - 1) (by omega),if_pos (by omega),if_pos (by omega),if_pos h2]) (Ev.now _)
          · rw [if_neg h2]
            refine Ev.step (fun k=>by rw [ancepsref38_Variables.l0,if_pos (by omega),if_pos (by omega),if_neg h0,if_neg h1,if_pos (by omega),w64_in ((i:Int) - 1) (by omega),if_pos (by omega),if_pos (by omega),if_neg h2,hw]) ih
theorem rasc_ev (vs:List Int) (hl:(vs.length:Int)≤9223372036854775807):Ev (fun k=>ancepsref38_Variables.f k vs) (asc vs):=by
  unfold asc ancepsref38_Variables.f
  refine ev_ite (fun _=>Ev.now _) (fun _=>?_)
  simpa [prv] using rasc_loop vs hl vs.length 0 (by omega)
theorem rvalid_loop (vs rs:List Int) (hv:vs.length≤10) (hl:(rs.length:Int)≤9223372036854775807):∀ (d i:Nat),i+d=rs.length→Ev (fun k=>ancepsref38_Valid.l0 k i vs rs) (chk ((2 ^ vs.length:Nat):Int) (prv rs i) (rs.drop i))
  | 0,i,h=>by
    rw [List.drop_eq_nil_of_le (by omega)]
    refine Ev.step (f:=fun _=>some 0) (fun k=>by rw [ancepsref38_Valid.l0,if_neg (by omega)]) ?_
    cases prv rs i <;> exact Ev.now _
  | d+1,i,h=>by
    have hi:i<rs.length:=by omega
    have hw:=wrap_succ i rs.length hi hl
    have ih:=rvalid_loop vs rs hv hl d (i+1) (by omega)
    have hs:=shl1 vs.length (by omega)
    rw [prv_succ] at ih
    rw [rd_at rs i hi]
    have hj:rd rs i<0∨((2 ^ vs.length:Nat):Int)≤rd rs i→∀ p,chk ((2 ^ vs.length:Nat):Int) p (rd rs i :: rs.drop (i+1))=6:=fun h p=>by cases p <;> simp only [chk] <;> rw [if_pos h]
    by_cases h0:rd rs i<0
    · rw [hj (.inl h0)]
      exact Ev.step (f:=fun _=>some 6) (fun k=>by rw [ancepsref38_Valid.l0,if_pos (by omega),if_pos (by omega),if_pos h0]) (Ev.now _)
    · by_cases h1:rd rs i≥((2 ^ vs.length:Nat):Int)
      · rw [hj (.inr h1)]
        exact Ev.step (f:=fun _=>some 6) (fun k=>by rw [ancepsref38_Valid.l0,if_pos (by omega),if_pos (by omega),if_neg h0,hs,if_pos h1]) (Ev.now _)
      · by_cases e:i=0
        · have ep:prv rs i=none:=by unfold prv;rw [if_pos e]
          rw [ep]
          simp only [chk]
          rw [if_neg (by omega)]
          refine Ev.step (fun k=>by rw [ancepsref38_Valid.l0,if_pos (by omega),if_pos (by omega),if_neg h0,hs,if_neg h1,if_neg (by omega),hw]) ih
        · have ep:prv rs i=some (rd rs ((i:Int) - 1)):=by unfold prv;rw [if_neg e]
          rw [ep]
          simp only [chk]
          rw [if_neg (by omega)]
          by_cases h2:rd rs i≤rd rs ((i:Int) - 1)
          · rw [if_pos h2]
            exact Ev.step (f:=fun _=>some 18) (fun k=>by rw [ancepsref38_Valid.l0,if_pos (by omega),if_pos (by omega),if_neg h0,hs,if_neg h1,if_pos (by omega),w64_in ((i:Int) - 1) (by omega),if_pos (by omega),if_pos (by omega),if_pos h2]) (Ev.now _)
          · rw [if_neg h2]
            refine Ev.step (fun k=>by rw [ancepsref38_Valid.l0,if_pos (by omega),if_pos (by omega),if_neg h0,hs,if_neg h1,if_pos (by omega),w64_in ((i:Int) - 1) (by omega),if_pos (by omega),if_pos (by omega),if_neg h2,hw]) ih
theorem rvalid_ev (vs rs:List Int) (hl:(vs.length:Int)≤9223372036854775807) (hr:(rs.length:Int)≤9223372036854775807):Ev (fun k=>ancepsref38_Valid.f k vs rs) (valid vs rs):=by
  unfold valid
  refine Ev.bind (rasc_ev vs hl) ?_
  refine ev_ite (fun h=>?_) (fun _=>Ev.now _)
  simpa [prv] using rvalid_loop vs rs (asc_len h) hr rs.length 0 (by omega)
theorem plus_bit (x n i out:Nat) (hn:n≤60) (hi:i≤30) (ho:out<2 ^ i):wrap64 ((out:Int)+shl .i64 (Int.tmod (shr .i64 (x:Int) (n:Int)) 2) (i:Int))=((out+(x.testBit n).toNat * 2 ^ i:Nat):Int):=by
  have hb:IntKind.i64.bits=64:=rfl
  have h1:shr .i64 (x:Int) (n:Int)=((x / 2 ^ n:Nat):Int):=by
    unfold shr
    rw [hb,show min ((n:Int)).toNat 64=n by omega]
    simp
  have h2:Int.tmod ((x / 2 ^ n:Nat):Int) 2=(((x.testBit n).toNat:Nat):Int):=by
    rw [Nat.toNat_testBit,Int.tmod_eq_emod_of_nonneg (Int.natCast_nonneg _)]
    simp
  have hip:(2:Nat) ^ i≤2 ^ 30:=Nat.pow_le_pow_right (by decide) hi
  have h30:(2:Nat) ^ 30=1073741824:=by decide
  have hbl:(x.testBit n).toNat * 2 ^ i≤2 ^ i:=by cases x.testBit n <;> simp
  have h3:shl .i64 (((x.testBit n).toNat:Nat):Int) (i:Int)=(((x.testBit n).toNat * 2 ^ i:Nat):Int):=by
    unfold shl
    rw [hb,show min ((i:Int)).toNat 64=i by omega]
    have e:(((x.testBit n).toNat:Nat):Int) * 2 ^ i=(((x.testBit n).toNat * 2 ^ i:Nat):Int):=by simp
    rw [e,IntKind.wrap_i64]
    omega
  rw [h1,h2,h3,w64_in _ (by omega)]
  omega
theorem rrow_loop (vs:List Int) (hv:∀ v,v∈vs→0≤v∧v<24) (hl:vs.length≤24) (a:Nat):∀ (d i out:Nat),i+d=vs.length→out<2 ^ i→
    Ev (fun k=>ancepsref38_Row.l0 k vs (a:Int) (out:Int) i) ((rowF a (vs.drop i) i out:Nat):Int)
  | 0,i,out,h,ho=>by
    rw [List.drop_eq_nil_of_le (by omega)]
    exact Ev.step (f:=fun _=>some (out:Int)) (fun k=>by rw [ancepsref38_Row.l0,if_neg (by omega)]) (Ev.now _)
  | d+1,i,out,h,ho=>by
    have hi:i<vs.length:=by omega
    have hw:=wrap_succ i vs.length hi (by omega)
    have hm:=hv _ (rd_mem vs i hi)
    have ih:=rrow_loop vs hv hl a d (i+1) _ (by omega) (add_lt (a.testBit (rd vs i).toNat) out i ho)
    rw [rd_at vs i hi,rowF]
    refine Ev.step (fun k=>?_) ih
    rw [ancepsref38_Row.l0,if_pos (by omega),if_pos (by omega),if_pos (by omega),hw]
    have hb:=plus_bit a (rd vs i).toNat i out (by omega) (by omega) ho
    rw [← nat_of hm.1] at hb
    rw [hb]
theorem rrow_ev (vs:List Int) (hv:∀ v,v∈vs→0≤v∧v<24) (hl:vs.length≤24) (a:Nat):Ev (fun k=>ancepsref38_Row.f k vs (a:Int)) ((row vs a:Nat):Int):=by
  have:=rrow_loop vs hv hl a vs.length 0 0 (by omega) (by decide)
  exact this
theorem rasg_loop {vs:List Int} (r:Nat) (hl:vs.length≤24):∀ (d i out:Nat) (p:Option Int),i+d=vs.length→Chn 24 p (vs.drop i)→Under out (vs.drop i)→
    Ev (fun k=>ancepsref38_Assignment.l0 k vs (r:Int) (out:Int) i) ((asgF r (vs.drop i) i out:Nat):Int)
  | 0,i,out,p,h,hc,ho=>by
    rw [List.drop_eq_nil_of_le (by omega)]
    exact Ev.step (f:=fun _=>some (out:Int)) (fun k=>by rw [ancepsref38_Assignment.l0,if_neg (by omega)]) (Ev.now _)
  | d+1,i,out,p,h,hc,ho=>by
    have hi:i<vs.length:=by omega
    have hw:=wrap_succ i vs.length hi (by omega)
    rw [rd_at vs i hi] at hc ho ⊢
    have hx:=add_lt (r.testBit i) out (rd vs i).toNat ho
    have ih:=rasg_loop r hl d (i+1) _ (some (rd vs i)) (by omega) hc.2.2.2 (under_next hc.2.2.2 hc.1 hx)
    rw [asgF]
    refine Ev.step (fun k=>?_) ih
    have h0:=hc.1
    have h1:=hc.2.1
    rw [ancepsref38_Assignment.l0,if_pos (by omega),if_pos (by omega),if_pos (by omega),hw]
    have hb:=plus_bit r i (rd vs i).toNat out (by omega) (by omega) ho
    rw [← nat_of h0] at hb
    rw [hb]
theorem rasg_ev {vs:List Int} (hc:Chn 24 none vs) (hl:vs.length≤24) (r:Nat):Ev (fun k=>ancepsref38_Assignment.f k vs (r:Int)) ((asg vs r:Nat):Int):=by
  have:=rasg_loop r hl vs.length 0 0 none (by omega) hc (under_zero _)
  exact this
theorem in_loop (rs:List Int) (hl:(rs.length:Int)≤9223372036854775807) (x:Int):∀ (d i:Nat),i+d=rs.length→Ev (fun k=>ancepsref38_in.l0 k rs x i) (decide (x∈rs.drop i))
  | 0,i,h=>by
    rw [List.drop_eq_nil_of_le (by omega)]
    exact Ev.step (f:=fun _=>some false) (fun k=>by rw [ancepsref38_in.l0,if_neg (by omega)]) (by simpa using Ev.now _)
  | d+1,i,h=>by
    have hi:i<rs.length:=by omega
    have hw:=wrap_succ i rs.length hi hl
    have ih:=in_loop rs hl x d (i+1) (by omega)
    rw [rd_at rs i hi]
    by_cases e:rd rs i=x
    · have:decide (x∈rd rs i :: rs.drop (i+1))=true:=by simp [e]
      rw [this]
      exact Ev.step (f:=fun _=>some true) (fun k=>by rw [ancepsref38_in.l0,if_pos (by omega),if_pos (by omega),if_pos e]) (Ev.now _)
    · have:decide (x∈rd rs i :: rs.drop (i+1))=decide (x∈rs.drop (i+1)):=by
        rw [decide_eq_decide,List.mem_cons]
        exact ⟨fun h=>by rcases h with h|h;exact absurd h.symm e;exact h,.inr⟩
      rw [this]
      exact Ev.step (fun k=>by rw [ancepsref38_in.l0,if_pos (by omega),if_pos (by omega),if_neg e,hw]) ih
theorem in_ev (rs:List Int) (hl:(rs.length:Int)≤9223372036854775807) (x:Int):Ev (fun k=>ancepsref38_in.f k rs x) (decide (x∈rs)):=by
  have:=in_loop rs hl x rs.length 0 (by omega)
  rw [List.drop_zero] at this
  exact this
theorem few_some (vs rs:List Int):∃ b,ancepsref38_Few.f vs rs=some b∧(b=true→vs.length≤12∧rs.length≤1030):=by
  unfold ancepsref38_Few.f
  by_cases h1:(vs.length:Int)≤12
  · rw [if_pos h1];exact ⟨_,rfl,fun h=>by have:=of_decide_eq_true h;omega⟩
  · rw [if_neg h1];exact ⟨_,rfl,fun h=>by simp at h⟩
theorem rdb_set (o:List Bool) (m n:Nat) (v:Bool) (hl:m<o.length):rdOf false (o.set m v) (n:Int)=if m=n then v else rdOf false o (n:Int):=by
  unfold rdOf
  rw [Int.toNat_natCast]
  by_cases h:m=n
  · subst h;rw [if_pos rfl,List.getD,List.getElem?_set_self hl];rfl
  · rw [if_neg h];simp [List.getD,List.getElem?_set_ne h]
theorem holds_ev {vs rs:List Int} (h:VT vs rs) (a:Nat):Ev (fun k=>ancepsref38_Holds.f k vs rs (a:Int)) (hs vs rs a):=by
  have h1:=h.rows_len
  have h2:=h.len
  exact Ev.bind (rrow_ev vs h.vars' (by omega) a) (Ev.bind (in_ev rs (by omega) _) (Ev.now _))
theorem srow_loop (vs rs:List Int) (hv:∀ v,v∈vs→0≤v∧v<24) (hl:vs.length≤24) (a:Nat) (ha:a<2 ^ 60):∀ (d i out:Nat),i+d=vs.length→out<2 ^ i→
    Ev (fun k=>solve_row.l0 k (a:Int) (out:Int) vs vs.length i) ((rowF a (vs.drop i) i out:Nat):Int)
  | 0,i,out,h,ho=>by
    rw [List.drop_eq_nil_of_le (by omega)]
    exact Ev.step (f:=fun _=>some (out:Int)) (fun k=>by rw [solve_row.l0,if_neg (by omega)]) (Ev.now _)
  | d+1,i,out,h,ho=>by
    have hi:i<vs.length:=by omega
    have hw:=wrap_succ i vs.length hi (by omega)
    have hm:=hv _ (rd_mem vs i hi)
    have ih:=srow_loop vs rs hv hl a ha d (i+1) _ (by omega) (add_lt (a.testBit (rd vs i).toNat) out i ho)
    rw [rd_at vs i hi,rowF]
    refine Ev.step (fun k=>?_) ih
    rw [solve_row.l0,if_pos (by omega),if_pos (by omega),if_pos (by omega),if_pos (by omega),hw]
    have hb:=or_bit a (rd vs i).toNat i out ha (by omega) (by omega) ho
    rw [← nat_of hm.1] at hb
    rw [hb]
theorem srow_ev (vs rs:List Int) (hv:∀ v,v∈vs→0≤v∧v<24) (hl:vs.length≤24) (a:Nat) (ha:a<2 ^ 60):Ev (fun k=>solve_row.f k vs rs (a:Int)) ((row vs a:Nat):Int):=by
  have:=srow_loop vs rs hv hl a ha vs.length 0 0 (by omega) (by decide)
  exact this
theorem rdT_at (l:List S63) (i:Nat) (hi:i<l.length):l.drop i=rd_T63 l i :: l.drop (i+1):=getD_drop l i z63 hi
theorem rdT_mem (l:List S63) (i:Nat) (hi:i<l.length):rd_T63 l i∈l:=by
  unfold rd_T63
  simp only [Int.toNat_natCast,List.getD,List.getElem?_eq_getElem hi,Option.getD_some]
  exact List.getElem_mem hi
def fstErr:List S63→Int
  | []=>0
  | t :: ts=>if valid t.f0 t.f1=0 then fstErr ts else valid t.f0 t.f1
def sysv (l:List S63):Int:=if (l.length:Int)>16 then 3 else fstErr l
def Sm (l:List S63):Prop:=∀ t,t∈l→t.f0.length≤1030∧t.f1.length≤1030
structure VS (l:List S63):Prop where
  len:l.length≤16
  tab:∀ t,t∈l→VT t.f0 t.f1
theorem fstErr_VT:∀ l:List S63,fstErr l=0↔∀ t,t∈l→VT t.f0 t.f1
  | []=>by simp [fstErr]
  | t :: ts=>by
    have ih:=fstErr_VT ts
    unfold fstErr
    by_cases h:valid t.f0 t.f1=0
    · rw [if_pos h,ih]
      exact ⟨fun h2 x hx=>by rcases List.mem_cons.1 hx with rfl|hx;exact (valid_VT _ _).1 h;exact h2 x hx,fun h2 x hx=>h2 x (List.mem_cons_of_mem _ hx)⟩
    · rw [if_neg h]
      exact ⟨fun h2=>absurd h2 h,fun h2=>absurd ((valid_VT _ _).2 (h2 t List.mem_cons_self)) h⟩
theorem sysv_VS (l:List S63):sysv l=0↔VS l:=by
  unfold sysv
  by_cases h:(l.length:Int)>16
  · rw [if_pos h];exact ⟨fun h2=>by omega,fun h2=>by have:=h2.len;omega⟩
  · rw [if_neg h,fstErr_VT];exact ⟨fun h2=>⟨by omega,h2⟩,fun h2=>h2.tab⟩
theorem svalid_loop (l:List S63) (hs:Sm l) (hl:l.length≤1000):∀ (d i:Nat),i+d=l.length→Ev (fun k=>solve_valid.l0 k l l.length i) (fstErr (l.drop i))
  | 0,i,h=>by
    rw [List.drop_eq_nil_of_le (by omega)]
    exact Ev.step (f:=fun _=>some 0) (fun k=>by rw [solve_valid.l0,if_neg (by omega)]) (Ev.now _)
  | d+1,i,h=>by
    have hi:i<l.length:=by omega
    have hw:=wrap_succ i l.length hi (by omega)
    have hm:=hs _ (rdT_mem l i hi)
    rw [rdT_at l i hi,fstErr]
    refine Ev.step (fun k=>by rw [solve_valid.l0,if_pos (by omega),if_pos (by omega),if_pos (by omega),hw]) (Ev.bind (valid_ev _ _ (by omega) (by omega)) ?_)
    exact ev_ite (fun _=>svalid_loop l hs hl d (i+1) (by omega)) (fun _=>Ev.now _)
theorem svalid_ev (l:List S63) (hs:Sm l) (hl:l.length≤1000):Ev (fun k=>solve_valid.f k l) (sysv l):=by
  unfold sysv solve_valid.f
  exact ev_ite (fun _=>Ev.now _) (fun _=>by simpa using svalid_loop l hs hl l.length 0 (by omega))
theorem rsvalid_loop (l:List S63) (hs:Sm l) (hl:l.length≤1000):∀ (d i:Nat),i+d=l.length→Ev (fun k=>ancepsref40_Valid.l0 k l i) (fstErr (l.drop i))
  | 0,i,h=>by
    rw [List.drop_eq_nil_of_le (by omega)]
    exact Ev.step (f:=fun _=>some 0) (fun k=>by rw [ancepsref40_Valid.l0,if_neg (by omega)]) (Ev.now _)
  | d+1,i,h=>by
    have hi:i<l.length:=by omega
    have hw:=wrap_succ i l.length hi (by omega)
    have hm:=hs _ (rdT_mem l i hi)
    rw [rdT_at l i hi,fstErr]
    refine Ev.step (fun k=>by rw [ancepsref40_Valid.l0,if_pos (by omega),if_pos (by omega),hw]) (Ev.bind (rvalid_ev _ _ (by omega) (by omega)) ?_)
    exact ev_ite (fun _=>rsvalid_loop l hs hl d (i+1) (by omega)) (fun _=>Ev.now _)
theorem rsvalid_ev (l:List S63) (hs:Sm l) (hl:l.length≤1000):Ev (fun k=>ancepsref40_Valid.f k l) (sysv l):=by
  unfold sysv ancepsref40_Valid.f
  exact ev_ite (fun _=>Ev.now _) (fun _=>by simpa using rsvalid_loop l hs hl l.length 0 (by omega))
theorem few_in (l:List S63) (Q:Prop) (rows:Int) (i:Nat) (hi:i<l.length) (hl:l.length≤18) (hv:(rd_T63 l i).f0.length≤1030)
    (H:∀ (seen:List Bool) (n:Int),seen.length=24→∃ b,Ev (fun k=>ancepsref40_Few.l0 k l seen n rows ((i+1:Nat):Int)) b∧(b=true→Q)) :
    ∀ (d j:Nat) (seen:List Bool) (n:Int),j+d=(rd_T63 l i).f0.length→seen.length=24→∃ b,Ev (fun k=>ancepsref40_Few.l1 k l seen n rows i j) b∧(b=true→Q)
  | 0,j,seen,n,h,hs=>by
    obtain ⟨b,hb,hq⟩:=H seen n hs
    have hw:=wrap_succ i l.length hi (by omega)
    exact ⟨b,Ev.step (fun k=>by rw [ancepsref40_Few.l1,if_pos (by omega),if_pos (by omega),if_neg (by omega),hw]) hb,hq⟩
  | d+1,j,seen,n,h,hs=>by
    have hj:j<(rd_T63 l i).f0.length:=by omega
    have hw:=wrap_succ j _ hj (by omega)
    by_cases h0:rd (rd_T63 l i).f0 j≥0
    · by_cases h1:rd (rd_T63 l i).f0 j<24
      · by_cases hb:rdOf false seen (rd (rd_T63 l i).f0 j)=true
        · obtain ⟨b,e,hq⟩:=few_in l Q rows i hi hl hv H d (j+1) seen n (by omega) hs
          exact ⟨b,Ev.step (fun k=>by rw [ancepsref40_Few.l1,if_pos (by omega),if_pos (by omega),if_pos (by omega),if_pos (by omega),if_pos h0,if_pos h1,if_pos (by omega),if_pos (by omega),if_pos hb,hw]) e,hq⟩
        · obtain ⟨b,e,hq⟩:=few_in l Q rows i hi hl hv H d (j+1) (seen.set (rd (rd_T63 l i).f0 j).toNat true) (wrap64 (n+1)) (by omega) (by rw [List.length_set];exact hs)
          exact ⟨b,Ev.step (fun k=>by rw [ancepsref40_Few.l1,if_pos (by omega),if_pos (by omega),if_pos (by omega),if_pos (by omega),if_pos h0,if_pos h1,if_pos (by omega),if_pos (by omega),if_neg hb,hw]) e,hq⟩
      · obtain ⟨b,e,hq⟩:=few_in l Q rows i hi hl hv H d (j+1) seen n (by omega) hs
        exact ⟨b,Ev.step (fun k=>by rw [ancepsref40_Few.l1,if_pos (by omega),if_pos (by omega),if_pos (by omega),if_pos (by omega),if_pos h0,if_neg h1,hw]) e,hq⟩
    · obtain ⟨b,e,hq⟩:=few_in l Q rows i hi hl hv H d (j+1) seen n (by omega) hs
      exact ⟨b,Ev.step (fun k=>by rw [ancepsref40_Few.l1,if_pos (by omega),if_pos (by omega),if_pos (by omega),if_pos (by omega),if_neg h0,hw]) e,hq⟩
theorem few_out (l:List S63) (hl:l.length≤18):∀ (d i:Nat) (seen:List Bool) (n rows:Int),i+d=l.length→seen.length=24→∃ b,Ev (fun k=>ancepsref40_Few.l0 k l seen n rows i) b∧(b=true→Sm (l.drop i))
  | 0,i,seen,n,rows,h,hs=>by
    rw [List.drop_eq_nil_of_le (by omega)]
    have hq:Sm []:=fun t ht=>by simp at ht
    by_cases hn:n≤10
    · exact ⟨_,Ev.step (f:=fun _=>some (decide (rows≤2000))) (fun k=>by rw [ancepsref40_Few.l0,if_neg (by omega),if_pos hn]) (Ev.now _),fun _=>hq⟩
    · exact ⟨false,Ev.step (f:=fun _=>some false) (fun k=>by rw [ancepsref40_Few.l0,if_neg (by omega),if_neg hn]) (Ev.now _),fun h=>by cases h⟩
  | d+1,i,seen,n,rows,h,hs=>by
    have hi:i<l.length:=by omega
    obtain ⟨b,hb,hf⟩:=few_some (rd_T63 l i).f0 (rd_T63 l i).f1
    cases b with
    | false=>exact ⟨false,Ev.step (f:=fun _=>some false) (fun k=>by rw [ancepsref40_Few.l0,if_pos (by omega),if_pos (by omega),hb];rfl) (Ev.now _),fun h=>by cases h⟩
    | true=>
      obtain ⟨f1,f2⟩:=hf rfl
      obtain ⟨b,e,hq⟩:=few_in l (Sm (l.drop (i+1))) (wrap64 (rows+((rd_T63 l i).f1.length:Int))) i hi hl (by omega)
        (fun seen n hs=>few_out l hl d (i+1) seen n _ (by omega) hs) (rd_T63 l i).f0.length 0 seen n (by omega) hs
      refine ⟨b,Ev.step (fun k=>by rw [ancepsref40_Few.l0,if_pos (by omega),if_pos (by omega),hb];rfl) e,fun h=>?_⟩
      rw [rdT_at l i hi]
      intro t ht
      rcases List.mem_cons.1 ht with rfl|ht
      · omega
      · exact hq h t ht
theorem sfew_ev (l:List S63):∃ b,Ev (fun k=>ancepsref40_Few.f k l) b∧(b=true→Sm l∧l.length≤18):=by
  unfold ancepsref40_Few.f
  by_cases h:(l.length:Int)>18
  · exact ⟨false,ev_pos h (Ev.now _),fun h=>by cases h⟩
  · obtain ⟨b,e,hq⟩:=few_out l (by omega) l.length 0 (List.replicate 24 false) 0 0 (by omega) (by simp)
    exact ⟨b,ev_neg h (ev_pos (by decide) (by simpa using e)),fun h2=>⟨by simpa using hq h2,by omega⟩⟩
def flat (l:List S63):List Int:=l.flatMap (·.f0)
def occ (l:List S63):List Int:=Lib.compact ((flat l).mergeSort fun x y=>decide (x≤y))
theorem VS.flat {l:List S63} (h:VS l):∀ v,v∈flat l→0≤v∧v<24:=fun v hv=>by
  obtain ⟨t,ht,hv⟩:=List.mem_flatMap.1 hv
  exact (h.tab t ht).vars' v hv
theorem VS.occ {l:List S63} (h:VS l):Chn 24 none (occ l)∧∀ v,v∈occ l↔v∈Pure.flat l:=sorted_compact (Pure.flat l) h.flat
theorem flat_cons (t:S63) (l:List S63):flat (t :: l)=t.f0++flat l:=by simp [flat]
theorem occ_loop (l:List S63) (hs:Sm l) (hl:l.length≤1000):∀ (d i:Nat) (acc:List Int),i+d=l.length→acc.length≤1030 * i→Ev (fun k=>solve_occurring.l0 k acc l l.length i) (Lib.compact ((acc++flat (l.drop i)).mergeSort fun x y=>decide (x≤y)))
  | 0,i,acc,h,ha=>by
    rw [List.drop_eq_nil_of_le (by omega),show flat []=[] from rfl,List.append_nil]
    refine Ev.step (fun k=>by rw [solve_occurring.l0,if_neg (by omega)]) ?_
    have hs:slices_Sort_int_int.f acc=some (acc.mergeSort fun x y=>decide (x≤y)):=by
      unfold slices_Sort_int_int.f
      rw [if_pos (by omega)]
    simp only [hs,Option.bind_some]
    exact Ev.now _
  | d+1,i,acc,h,ha=>by
    have hi:i<l.length:=by omega
    have hw:=wrap_succ i l.length hi (by omega)
    have hm:=hs _ (rdT_mem l i hi)
    have ih:=occ_loop l hs hl d (i+1) (acc++(rd_T63 l i).f0) (by omega) (by rw [List.length_append];omega)
    rw [rdT_at l i hi,flat_cons,← List.append_assoc]
    exact Ev.step (fun k=>by rw [solve_occurring.l0,if_pos (by omega),if_pos (by omega),if_pos (by omega),if_pos (by omega),hw]) ih
theorem occ_ev (l:List S63) (hs:Sm l) (hl:l.length≤1000):Ev (fun k=>solve_occurring.f k l) (occ l):=by
  have:=occ_loop l hs hl l.length 0 [] (by omega) (by simp)
  rw [List.nil_append,List.drop_zero] at this
  exact this
def fillV:List Int→List Bool→List Bool
  | [],s=>s
  | v :: vs,s=>fillV vs (s.set v.toNat true)
theorem fillV_length:∀ (vs:List Int) (s:List Bool),(fillV vs s).length=s.length
  | [],_=>rfl
  | v :: vs,s=>by rw [fillV,fillV_length,List.length_set]
theorem fillV_at:∀ (vs:List Int) (s:List Bool),(∀ v,v∈vs→0≤v∧v<(s.length:Int))→∀ m:Nat,rdOf false (fillV vs s) (m:Int)=(rdOf false s (m:Int)||decide ((m:Int)∈vs))
  | [],s,_,m=>by simp [fillV]
  | v :: vs,s,h,m=>by
    have hv:=h v List.mem_cons_self
    rw [fillV,fillV_at vs _ (fun x hx=>by rw [List.length_set];exact h x (List.mem_cons_of_mem _ hx)),rdb_set s v.toNat m true (by omega)]
    by_cases e:v.toNat=m
    · rw [if_pos e,Bool.true_or]
      have:(m:Int)=v:=by omega
      simp [this]
    · rw [if_neg e]
      have:(m:Int)≠v:=by omega
      simp [this]
theorem vars_in (l:List S63) (i:Nat) (hi:i<l.length) (hl:l.length≤16) (hv:(rd_T63 l i).f0.length≤1030) (hr:∀ v,v∈(rd_T63 l i).f0→0≤v∧v<24) (r:List Int) :
    ∀ (d j:Nat) (seen:List Bool),j+d=(rd_T63 l i).f0.length→seen.length=24→Ev (fun k=>ancepsref40_Vars.l0 k l (fillV ((rd_T63 l i).f0.drop j) seen) ((i+1:Nat):Int)) r→Ev (fun k=>ancepsref40_Vars.l1 k l seen i j) r
  | 0,j,seen,h,hs,H=>by
    rw [List.drop_eq_nil_of_le (by omega)] at H
    have hw:=wrap_succ i l.length hi (by omega)
    exact Ev.step (fun k=>by rw [ancepsref40_Vars.l1,if_pos (by omega),if_pos (by omega),if_neg (by omega),hw];rfl) H
  | d+1,j,seen,h,hs,H=>by
    have hj:j<(rd_T63 l i).f0.length:=by omega
    have hw:=wrap_succ j _ hj (by omega)
    have hm:=hr _ (rd_mem (rd_T63 l i).f0 j hj)
    rw [rd_at _ j hj,fillV] at H
    have ih:=vars_in l i hi hl hv hr r d (j+1) (seen.set (rd (rd_T63 l i).f0 j).toNat true) (by omega) (by rw [List.length_set];exact hs) H
    exact Ev.step (fun k=>by rw [ancepsref40_Vars.l1,if_pos (by omega),if_pos (by omega),if_pos (by omega),if_pos (by omega),if_pos (by omega),if_pos (by omega),hw]) ih
theorem vars_out (seen:List Bool) (hs:seen.length=24):∀ (d v:Nat) (acc:List Int),v+d=24→acc.length≤v→Ev (fun k=>ancepsref40_Vars.l2 k seen acc v) (acc++flt (fun m=>rdOf false seen (m:Int)) d v)
  | 0,v,acc,h,ha=>by
    exact Ev.step (f:=fun _=>some acc) (fun k=>by rw [ancepsref40_Vars.l2,if_neg (by omega)]) (by simpa [flt] using Ev.now _)
  | d+1,v,acc,h,ha=>by
    have hw:wrap64 ((v:Int)+1)=((v+1:Nat):Int):=by rw [w64_in _ (by omega)];omega
    rw [flt]
    by_cases e:rdOf false seen (v:Int)=true
    · have ih:=vars_out seen hs d (v+1) (acc++[(v:Int)]) (by omega) (by simp;omega)
      rw [if_pos e]
      rw [List.append_assoc,List.singleton_append] at ih
      exact Ev.step (fun k=>by rw [ancepsref40_Vars.l2,if_pos (by omega),if_pos (by omega),if_pos (by omega),if_pos e,if_pos (by omega),hw]) ih
    · have ih:=vars_out seen hs d (v+1) acc (by omega) (by omega)
      rw [if_neg e]
      exact Ev.step (fun k=>by rw [ancepsref40_Vars.l2,if_pos (by omega),if_pos (by omega),if_pos (by omega),if_neg e,hw]) ih
theorem vars_loop (l:List S63) (h:VS l):∀ (d i:Nat) (seen:List Bool),i+d=l.length→seen.length=24→Ev (fun k=>ancepsref40_Vars.l0 k l seen i) (flt (fun m=>rdOf false (fillV (flat (l.drop i)) seen) (m:Int)) 24 0)
  | 0,i,seen,hd,hs=>by
    rw [List.drop_eq_nil_of_le (by omega)]
    have:=vars_out seen hs 24 0 [] (by omega) (by simp)
    rw [List.nil_append] at this
    exact Ev.step (fun k=>by rw [ancepsref40_Vars.l0,if_neg (by omega)];rfl) this
  | d+1,i,seen,hd,hs=>by
    have hi:i<l.length:=by omega
    have hm:=h.tab _ (rdT_mem l i hi)
    have ih:=vars_loop l h d (i+1) (fillV (rd_T63 l i).f0 seen) (by omega) (by rw [fillV_length];exact hs)
    have hap:∀ (a b:List Int) (s:List Bool),fillV (a++b) s=fillV b (fillV a s):=by
      intro a
      induction a with
      | nil=>intro b s;rfl
      | cons x xs ihx=>intro b s;rw [List.cons_append,fillV,fillV,ihx]
    rw [rdT_at l i hi,flat_cons,hap]
    have key:=vars_in l i hi h.len (by have:=hm.len;omega) hm.vars' _ (rd_T63 l i).f0.length 0 seen (by omega) hs (by rw [List.drop_zero];exact ih)
    exact Ev.step (fun k=>by rw [ancepsref40_Vars.l0,if_pos (by omega)];rfl) key
theorem rvars_ev {l:List S63} (h:VS l) (hs:Sm l):Ev (fun k=>ancepsref40_Vars.f k l) (occ l):=by
  have hl:=h.len
  refine Ev.bind (rsvalid_ev l hs (by omega)) (ev_pos ((sysv_VS l).2 h) (ev_pos (by decide) ?_))
  refine ev_eq (vars_loop l h l.length 0 (List.replicate 24 false) (by omega) (by simp)) ?_
  rw [List.drop_zero]
  have h24:=flt_chn (fun m=>rdOf false (fillV (flat l) (List.replicate 24 false)) (m:Int)) 24 0 none (fun q hq=>by cases hq)
  refine Chn.same h24 h.occ.1 (fun n=>?_)
  rw [h.occ.2,flt_mem]
  have hat:=fillV_at (flat l) (List.replicate 24 false) (fun v hv=>by have:=h.flat v hv;simp;omega)
  have hz:∀ m:Nat,rdOf false (List.replicate 24 false) (m:Int)=false:=by
    intro m
    unfold rdOf
    simp only [Int.toNat_natCast,List.getD_eq_getElem?_getD,List.getElem?_replicate]
    split <;> rfl
  constructor
  · rintro ⟨m,_,hm,ht,rfl⟩
    rw [hat,hz,Bool.false_or,decide_eq_true_eq] at ht
    exact ht
  · intro hn
    have:=h.flat n hn
    refine ⟨n.toNat,by omega,by omega,?_,by omega⟩
    rw [hat,hz,Bool.false_or,decide_eq_true_eq,← nat_of this.1]
    exact hn

theorem index_loop (l:List Int) (hl:(l.length:Int)≤9223372036854775807) (x:Int):∀ (d i:Nat),i+d=l.length→∃ q:Int,Ev (fun k=>slices_Index_int_int.l0 k l x l.length i) q∧decide (q≥0)=decide (x∈l.drop i)
  | 0,i,h=>by
    rw [List.drop_eq_nil_of_le (by omega)]
    exact ⟨-1,Ev.step (f:=fun _=>some (-1)) (fun k=>by rw [slices_Index_int_int.l0,if_neg (by omega)]) (Ev.now _),by simp⟩
  | d+1,i,h=>by
    have hi:i<l.length:=by omega
    have hw:=wrap_succ i l.length hi hl
    obtain ⟨q,hq,hq2⟩:=index_loop l hl x d (i+1) (by omega)
    rw [rd_at l i hi]
    by_cases e:x=rd l i
    · exact ⟨i,Ev.step (f:=fun _=>some (i:Int)) (fun k=>by rw [slices_Index_int_int.l0,if_pos (by omega),if_pos (by omega),if_pos (by omega),if_pos e]) (Ev.now _),decide_eq_decide.2 ⟨fun _=>by rw [e];exact List.mem_cons_self,fun _=>by omega⟩⟩
    · refine ⟨q,Ev.step (fun k=>by rw [slices_Index_int_int.l0,if_pos (by omega),if_pos (by omega),if_pos (by omega),if_neg e,hw]) hq,?_⟩
      rw [hq2,decide_eq_decide,List.mem_cons]
      exact ⟨.inr,fun h=>by rcases h with h|h;exact absurd h e;exact h⟩
theorem contains_ev (l:List Int) (hl:(l.length:Int)≤9223372036854775807) (x:Int):Ev (fun k=>slices_Contains_int_int.f k l x) (decide (x∈l)):=by
  obtain ⟨q,hq,hq2⟩:=index_loop l hl x l.length 0 (by omega)
  rw [List.drop_zero] at hq2
  rw [← hq2]
  exact Ev.bind hq (Ev.now _)

theorem bits_andNot (a b:Nat) (ha:a<2 ^ 62) (hb:b<2 ^ 62):Go.bits .andNot .i64 (a:Int) (b:Int)=((a&&& (a ^^^ b):Nat):Int):=by
  have h62:(2:Nat) ^ 62=4611686018427387904:=by decide
  have h64:(2:Nat) ^ IntKind.i64.bits=18446744073709551616:=by decide
  have hx:a&&& (a ^^^ b)≤a:=Nat.and_le_left
  have ha':a % 2 ^ IntKind.i64.bits=a:=Nat.mod_eq_of_lt (by omega)
  have hb':b % 2 ^ IntKind.i64.bits=b:=Nat.mod_eq_of_lt (by omega)
  have e:∀ x y:BitVec IntKind.i64.bits,x&&& ~~~y=x&&& (x ^^^ y):=by
    intro x y
    ext i hi
    simp only [BitVec.getElem_and,BitVec.getElem_not,BitVec.getElem_xor]
    cases x[i] <;> cases y[i] <;> rfl
  simp only [Go.bits,BitVec.ofInt_natCast,e,BitVec.toNat_and,BitVec.toNat_xor,BitVec.toNat_ofNat,ha',hb']
  rw [IntKind.wrap_i64]
  omega
def mask:List Int→Nat→Nat
  | [],m=>m
  | v :: vs,m=>mask vs (m||| 2 ^ v.toNat)
theorem mask_bit:∀ (vs:List Int) (m j:Nat),(mask vs m).testBit j=(m.testBit j||vs.any fun v=>v.toNat == j)
  | [],m,j=>by simp [mask]
  | v :: vs,m,j=>by
    rw [mask,mask_bit vs,Nat.testBit_or,Nat.testBit_two_pow,List.any_cons,Bool.or_assoc]
    congr 1
theorem mask_lt:∀ (vs:List Int) (m:Nat),(∀ v,v∈vs→0≤v∧v<24)→m<2 ^ 24→mask vs m<2 ^ 24
  | [],m,_,h=>h
  | v :: vs,m,hv,h=>mask_lt vs _ (fun x hx=>hv x (List.mem_cons_of_mem _ hx)) (Nat.or_lt_two_pow h (Nat.pow_lt_pow_right (by decide) (by have:=hv v List.mem_cons_self;omega)))
theorem asgrow_bit {hi:Int} {vs:List Int} (h:Chn hi none vs) (a j:Nat):(asg vs (row vs a)).testBit j=(a.testBit j&&(mask vs 0).testBit j):=by
  rw [mask_bit,Nat.zero_testBit,Bool.false_or,Bool.eq_iff_iff,asg_bit h,Bool.and_eq_true,List.any_eq_true]
  constructor
  · rintro ⟨m,v,hv,rfl,hb⟩
    obtain ⟨u,hu,hb⟩:=(row_bit vs a m).1 hb
    rw [hv] at hu
    injection hu with hu
    exact ⟨by rw [hu];exact hb,v,List.mem_of_getElem? hv,by simp⟩
  · rintro ⟨hb,v,hv,e⟩
    obtain ⟨i,hi2⟩:=List.getElem?_of_mem hv
    have e2:v.toNat=j:=by simpa using e
    exact ⟨i,v,hi2,e2.symm,(row_bit vs a i).2 ⟨v,hi2,by rw [e2];exact hb⟩⟩
theorem asgrow_iff {hi:Int} {vs:List Int} (h:Chn hi none vs) (a:Nat):asg vs (row vs a)=a↔a&&& (a ^^^ mask vs 0)=0:=by
  constructor
  · intro e
    apply Nat.eq_of_testBit_eq
    intro j
    have:=asgrow_bit h a j
    rw [e] at this
    rw [Nat.testBit_and,Nat.testBit_xor,Nat.zero_testBit]
    revert this
    cases a.testBit j <;> cases (mask vs 0).testBit j <;> simp
  · intro e
    apply Nat.eq_of_testBit_eq
    intro j
    rw [asgrow_bit h]
    have:=congrArg (fun z=>z.testBit j) e
    simp only [Nat.testBit_and,Nat.testBit_xor,Nat.zero_testBit] at this
    revert this
    cases a.testBit j <;> cases (mask vs 0).testBit j <;> simp
theorem hmask_loop (l:List S63) (vs:List Int) (hv:∀ v,v∈vs→0≤v∧v<24) (hl:vs.length≤24) (a:Int) (r:Bool):∀ (d i m:Nat),i+d=vs.length→m<2 ^ 24→
    Ev (fun k=>if (Go.bits .andNot .i64 a ((mask (vs.drop i) m:Nat):Int))=0 then ((api_Table_solve_Holds_1.f k l a).bind fun t=>(some (!t))) else (some false)) r→Ev (fun k=>solve_Holds.l0 k l (m:Int) vs vs.length i a) r
  | 0,i,m,h,hm,H=>by
    rw [List.drop_eq_nil_of_le (by omega)] at H
    exact Ev.step (fun k=>by rw [solve_Holds.l0,if_neg (by omega)];rfl) H
  | d+1,i,m,h,hm,H=>by
    have hi:i<vs.length:=by omega
    have hw:=wrap_succ i vs.length hi (by omega)
    have h1:=hv _ (rd_mem vs i hi)
    rw [rd_at vs i hi,mask] at H
    have ih:=hmask_loop l vs hv hl a r d (i+1) _ (by omega) (Nat.or_lt_two_pow hm (Nat.pow_lt_pow_right (by decide) (by omega))) H
    refine Ev.step (fun k=>?_) ih
    rw [solve_Holds.l0,if_pos (by omega),if_pos (by omega),if_pos (by omega),if_pos (by omega),hw]
    have e:=shl1 (rd vs i).toNat (by omega)
    rw [← nat_of h1.1] at e
    have hp:2 ^ (rd vs i).toNat<2 ^ 24:=Nat.pow_lt_pow_right (by decide) (by omega)
    have hw2:∀ z:Int,0≤z→z<2 ^ 62→IntKind.i64.wrap z=z:=fun z h0 h1=>by
      rw [IntKind.wrap_i64]
      have:(2:Int) ^ 62=4611686018427387904:=by decide
      omega
    have h62:(2:Nat) ^ 24≤2 ^ 62:=by decide
    rw [e,(bits_nat .i64 62 (by decide) hw2 m _ (by omega) (by omega)).2]
theorem shold_loop {l:List S63} (h:VS l) (a:Nat) (ha:a<2 ^ 24):∀ (d i:Nat),i+d=l.length→∃ q:Int,Ev (fun k=>api_Table_solve_Holds_1_v2.l0 k l l.length i (a:Int)) q∧decide (q≥0)=(l.drop i).any fun t=>!hs t.f0 t.f1 a
  | 0,i,hd=>by
    rw [List.drop_eq_nil_of_le (by omega)]
    exact ⟨-1,Ev.step (f:=fun _=>some (-1)) (fun k=>by rw [api_Table_solve_Holds_1_v2.l0,if_neg (by omega)]) (Ev.now _),rfl⟩
  | d+1,i,hd=>by
    have hi:i<l.length:=by omega
    have hl:=h.len
    have hw:=wrap_succ i l.length hi (by omega)
    have hm:=h.tab _ (rdT_mem l i hi)
    have hr:=hm.rows_len
    obtain ⟨q,hq,hq2⟩:=shold_loop h a ha d (i+1) (by omega)
    have h1:Ev (fun k=>solve_Holds_1_v1.f k (rd_T63 l i).f0 (rd_T63 l i).f1 (a:Int)) (!hs (rd_T63 l i).f0 (rd_T63 l i).f1 a):=
      Ev.bind (srow_ev _ _ hm.vars' (by have:=hm.len;omega) a (Nat.lt_of_lt_of_le ha (by decide))) (Ev.bind (contains_ev _ (by omega) _) (Ev.now _))
    rw [rdT_at l i hi,List.any_cons]
    by_cases e:(!hs (rd_T63 l i).f0 (rd_T63 l i).f1 a)=true
    · rw [e] at h1 ⊢
      exact ⟨i,Ev.step (fun k=>by rw [api_Table_solve_Holds_1_v2.l0,if_pos (by omega),if_pos (by omega),if_pos (by omega)]) (Ev.bind h1 (ev_pos rfl (Ev.now _))),by rw [Bool.true_or];exact decide_eq_true (by omega)⟩
    · rw [Bool.not_eq_true] at e
      rw [e] at h1 ⊢
      exact ⟨q,Ev.step (fun k=>by rw [api_Table_solve_Holds_1_v2.l0,if_pos (by omega),if_pos (by omega),if_pos (by omega),hw]) (Ev.bind h1 (ev_neg Bool.false_ne_true hq)),by rw [Bool.false_or];exact hq2⟩
def hsS (l:List S63) (a:Nat):Bool:=decide (asg (occ l) (row (occ l) a)=a)&&l.all fun t=>hs t.f0 t.f1 a
def hld (l:List S63) (a:Int):Bool:=if sysv l=0 then if a<0 then false else if a≥16777216 then false else hsS l a.toNat else false
theorem VS.occ' {l:List S63} (h:VS l):∀ v,v∈Pure.occ l→0≤v∧v<24:=fun v hv=>by have:=h.occ.1.mem v hv;omega
theorem VS.occ_len {l:List S63} (h:VS l):(Pure.occ l).length≤24:=by have:=h.occ.1.len (by decide);omega
theorem dhold_ev (l:List S63) (hs':Sm l) (hl:l.length≤1000) (a:Int):Ev (fun k=>solve_Holds.f k l a) (hld l a):=by
  refine Ev.bind (svalid_ev l hs' hl) (ev_ite (fun h=>ev_ite (fun _=>Ev.now _) (fun h0=>?_)) (fun _=>Ev.now _))
  have hv:=(sysv_VS l).1 h
  by_cases h1:a≥16777216
  · rw [if_pos h1];exact ev_pos h1 (Ev.now _)
  · rw [if_neg h1]
    refine ev_neg h1 (Ev.bind (occ_ev l hs' hl) ?_)
    have h24:(2:Nat) ^ 24=16777216:=by decide
    have ha:a.toNat<2 ^ 24:=by omega
    refine hmask_loop l (occ l) hv.occ' hv.occ_len a _ (occ l).length 0 0 (by omega) (by decide) ?_
    rw [List.drop_zero]
    have hm:=mask_lt (occ l) 0 hv.occ' (by decide)
    have e:Go.bits .andNot .i64 a ((mask (occ l) 0:Nat):Int)=((a.toNat&&& (a.toNat ^^^ mask (occ l) 0):Nat):Int):=by
      have:=bits_andNot a.toNat (mask (occ l) 0) (Nat.lt_of_lt_of_le ha (by decide)) (Nat.lt_of_lt_of_le hm (by decide))
      rw [← nat_of (by omega)] at this
      exact this
    have iff:=asgrow_iff hv.occ.1 a.toNat
    unfold hsS
    by_cases c:asg (occ l) (row (occ l) a.toNat)=a.toNat
    · have c2:=iff.1 c
      rw [decide_eq_true c,Bool.true_and]
      refine ev_pos (by rw [e,c2];rfl) ?_
      obtain ⟨q,hq,hq2⟩:=shold_loop hv a.toNat ha l.length 0 (by omega)
      rw [← nat_of (by omega),List.drop_zero] at *
      refine Ev.bind (show Ev (fun k=>api_Table_solve_Holds_1.f k l a) (decide (q≥0)) from Ev.bind hq (Ev.now _)) ?_
      rw [hq2]
      refine ev_eq (Ev.now _) ?_
      rw [List.any_eq_not_all_not,Bool.not_not]
      (try simp only [Bool.not_not])
    · rw [decide_eq_false c,Bool.false_and]
      refine ev_neg (fun h2=>c (iff.2 ?_)) (Ev.now _)
      rw [e] at h2
      exact_mod_cast h2
def fl (t:S63) (C V:Nat):Bool:=!(t.f1.any fun r=>r.toNat&&& row t.f0 C == row t.f0 V)
theorem w62:∀ z:Int,0≤z→z<2 ^ 62→IntKind.i64.wrap z=z:=fun z h0 h1=>by
  rw [IntKind.wrap_i64]
  have:(2:Int) ^ 62=4611686018427387904:=by decide
  omega
theorem ifun_loop (rs:List Int) (hl:(rs.length:Int)≤9223372036854775807) (hr:∀ r,r∈rs→0≤r∧r.toNat<2 ^ 62) (m w:Nat) (hm:m<2 ^ 62):∀ (d i:Nat),i+d=rs.length→
    ∃ q:Int,Ev (fun k=>slices_IndexFunc_int_int_solve_choices_fails_1.l0 k rs rs.length i (m:Int) (w:Int)) q∧decide (q≥0)=(rs.drop i).any fun r=>r.toNat&&& m == w
  | 0,i,h=>by
    rw [List.drop_eq_nil_of_le (by omega)]
    exact ⟨-1,Ev.step (f:=fun _=>some (-1)) (fun k=>by rw [slices_IndexFunc_int_int_solve_choices_fails_1.l0,if_neg (by omega)]) (Ev.now _),rfl⟩
  | d+1,i,h=>by
    have hi:i<rs.length:=by omega
    have hw:=wrap_succ i rs.length hi hl
    obtain ⟨q,hq,hq2⟩:=ifun_loop rs hl hr m w hm d (i+1) (by omega)
    have h1:=hr _ (rd_mem rs i hi)
    have hb:=(bits_nat .i64 62 (by decide) w62 (rd rs i).toNat m h1.2 hm).1
    rw [← nat_of h1.1] at hb
    have hf:solve_choices_fails_1_v1.f (rd rs i) (m:Int) (w:Int)=some ((rd rs i).toNat&&& m == w):=by
      unfold solve_choices_fails_1_v1.f
      rw [hb]
      congr 1
      rw [Bool.eq_iff_iff,beq_iff_eq,beq_iff_eq]
      omega
    rw [rd_at rs i hi,List.any_cons]
    by_cases e:((rd rs i).toNat&&& m == w)=true
    · rw [e] at hf ⊢
      exact ⟨i,Ev.step (fun k=>by rw [slices_IndexFunc_int_int_solve_choices_fails_1.l0,if_pos (by omega),if_pos (by omega),if_pos (by omega),hf];rfl) (Ev.now (i:Int)),by rw [Bool.true_or];exact decide_eq_true (by omega)⟩
    · rw [Bool.not_eq_true] at e
      rw [e] at hf ⊢
      exact ⟨q,Ev.step (fun k=>by rw [slices_IndexFunc_int_int_solve_choices_fails_1.l0,if_pos (by omega),if_pos (by omega),if_pos (by omega),hf,hw];rfl) hq,by rw [Bool.false_or];exact hq2⟩
theorem p62 {a n:Nat} (h:a<2 ^ n) (hn:n≤62):a<2 ^ 62:=Nat.lt_of_lt_of_le h (Nat.pow_le_pow_right (by decide) hn)
theorem fails_ev {t:S63} (h:VT t.f0 t.f1) (C V:Nat) (hC:C<2 ^ 24) (hV:V<2 ^ 24):Ev (fun k=>solve_choices_fails.f k (C:Int) (V:Int) t.f0 t.f1) (fl t C V):=by
  have hl:=h.len
  have hr:=h.rows_len
  refine Ev.bind (srow_ev _ _ h.vars' (by omega) C (p62 hC (by decide) |> fun _=>Nat.lt_of_lt_of_le hC (by decide))) (Ev.bind (srow_ev _ _ h.vars' (by omega) V (Nat.lt_of_lt_of_le hV (by decide))) ?_)
  obtain ⟨q,hq,hq2⟩:=ifun_loop t.f1 (by omega) (fun r hr=>⟨(h.row_of hr).1,p62 (h.row_of hr).2.1 (by omega)⟩) (row t.f0 C) (row t.f0 V) (p62 (row_lt _ _) (by omega)) t.f1.length 0 (by omega)
  rw [List.drop_zero] at hq2
  refine Ev.bind (show Ev (fun k=>slices_ContainsFunc_int_int_solve_choices_fails_1.f k t.f1 ((row t.f0 C:Nat):Int) ((row t.f0 V:Nat):Int)) (decide (q≥0)) from Ev.bind hq (Ev.now _)) ?_
  rw [hq2]
  exact Ev.now _
def ffl (C V:Nat):List S63→Nat→Int
  | [],_=>-1
  | t :: ts,i=>if fl t C V=true then (i:Int) else ffl C V ts (i+1)
theorem ffl_neg (C V:Nat):∀ (l:List S63) (i:Nat),0≤ffl C V l i↔(l.any fun t=>fl t C V)=true
  | [],i=>by simp [ffl]
  | t :: ts,i=>by
    have ih:=ffl_neg C V ts (i+1)
    rw [ffl,List.any_cons]
    by_cases h:fl t C V=true
    · rw [if_pos h,h];simp
    · rw [if_neg h,ih];rw [Bool.not_eq_true] at h;rw [h,Bool.false_or]
theorem failing_loop {l:List S63} (h:VS l) (C V:Nat) (hC:C<2 ^ 24) (hV:V<2 ^ 24):∀ (d i:Nat),i+d=l.length→Ev (fun k=>api_Table_solve_choices_fails.l0 k l l.length i (C:Int) (V:Int)) (ffl C V (l.drop i) i)
  | 0,i,hd=>by
    rw [List.drop_eq_nil_of_le (by omega)]
    exact Ev.step (f:=fun _=>some (-1)) (fun k=>by rw [api_Table_solve_choices_fails.l0,if_neg (by omega)]) (Ev.now _)
  | d+1,i,hd=>by
    have hi:i<l.length:=by omega
    have hl:=h.len
    have hw:=wrap_succ i l.length hi (by omega)
    have ih:=failing_loop h C V hC hV d (i+1) (by omega)
    rw [rdT_at l i hi,ffl]
    refine Ev.step (fun k=>by rw [api_Table_solve_choices_fails.l0,if_pos (by omega),if_pos (by omega),if_pos (by omega),hw]) (Ev.bind (fails_ev (h.tab _ (rdT_mem l i hi)) C V hC hV) ?_)
    exact ev_ite (fun _=>Ev.now _) (fun _=>ih)
theorem failing_ev {l:List S63} (h:VS l) (C V:Nat) (hC:C<2 ^ 24) (hV:V<2 ^ 24):Ev (fun k=>solve_choices_failing.f k (C:Int) (V:Int) l) (ffl C V l 0):=by
  have:=failing_loop h C V hC hV l.length 0 (by omega)
  rw [List.drop_zero] at this
  exact Ev.bind this (Ev.now _)
def wC (C:Nat) (v:Int):Nat:=C||| 2 ^ v.toNat
def wV (V:Nat) (v:Int) (b:Bool):Nat:=(V&&& (V ^^^ 2 ^ v.toNat))||| b.toNat * 2 ^ v.toNat
theorem wC_lt {C:Nat} {v:Int} (h:C<2 ^ 24) (h0:0≤v) (h1:v<24):wC C v<2 ^ 24:=Nat.or_lt_two_pow h (Nat.pow_lt_pow_right (by decide) (by omega))
theorem wV_lt {V:Nat} {v:Int} (b:Bool) (h:V<2 ^ 24) (h0:0≤v) (h1:v<24):wV V v b<2 ^ 24:=by
  have hp:2 ^ v.toNat<2 ^ 24:=Nat.pow_lt_pow_right (by decide) (by omega)
  refine Nat.or_lt_two_pow (Nat.lt_of_le_of_lt Nat.and_le_left h) ?_
  cases b
  · simp
  · simpa using hp
theorem wC_bit (C:Nat) (v:Int) (j:Nat):(wC C v).testBit j=(C.testBit j||v.toNat == j):=by
  unfold wC
  rw [Nat.testBit_or,Nat.testBit_two_pow]
  congr 1
theorem wV_bit (V:Nat) (v:Int) (b:Bool) (j:Nat):(wV V v b).testBit j=((V.testBit j&&!(v.toNat == j))||(b&&v.toNat == j)):=by
  unfold wV
  rw [Nat.testBit_or,Nat.testBit_and,Nat.testBit_xor,Nat.testBit_two_pow]
  have h1:(b.toNat * 2 ^ v.toNat).testBit j=(b&&v.toNat == j):=by
    cases b
    · simp
    · simp only [Bool.toNat_true,Nat.one_mul,Nat.testBit_two_pow,Bool.true_and]
      rfl
  rw [h1]
  congr 1
  have e:decide (v.toNat=j)=(v.toNat == j):=rfl
  rw [e]
  cases V.testBit j <;> cases (v.toNat == j) <;> rfl
theorem with_eq {C V:Nat} {v:Int} (b:Bool) (hC:C<2 ^ 24) (hV:V<2 ^ 24) (h0:0≤v) (h1:v<24):solve_choices_with.f (C:Int) (V:Int) v ((b.toNat:Nat):Int)=some (((wC C v:Nat):Int),((wV V v b:Nat):Int)):=by
  unfold solve_choices_with.f
  rw [if_pos h0]
  have hp:2 ^ v.toNat<2 ^ 24:=Nat.pow_lt_pow_right (by decide) (by omega)
  have e1:=shl1 v.toNat (by omega)
  rw [← nat_of h0] at e1
  have e2:shl .i64 ((b.toNat:Nat):Int) v=((b.toNat * 2 ^ v.toNat:Nat):Int):=by
    cases b
    · simp only [Bool.toNat_false,Nat.zero_mul]
      unfold shl
      rw [show ((0:Nat):Int)=0 from rfl,Int.zero_mul]
      rfl
    · simp only [Bool.toNat_true,Nat.one_mul]
      exact e1
  have hbp:b.toNat * 2 ^ v.toNat<2 ^ 24:=by
    cases b
    · simp
    · simpa using hp
  have k1:=(bits_nat .i64 62 (by decide) w62 C (2 ^ v.toNat) (p62 hC (by decide)) (p62 hp (by decide))).2
  have k2:=bits_andNot V (2 ^ v.toNat) (p62 hV (by decide)) (p62 hp (by decide))
  have k3:=(bits_nat .i64 62 (by decide) w62 (V&&& (V ^^^ 2 ^ v.toNat)) (b.toNat * 2 ^ v.toNat) (p62 (Nat.lt_of_le_of_lt Nat.and_le_left hV) (by decide)) (p62 hbp (by decide))).2
  rw [e1,e2,k1,k2,k3]
  rfl
def sols (l:List S63):List Int→Nat→Nat→List Int
  | [],C,V=>if (l.any fun t=>fl t C V)=true then [] else [(V:Int)]
  | v :: us,C,V=>if (l.any fun t=>fl t C V)=true then [] else sols l us (wC C v) (wV V v false)++sols l us (wC C v) (wV V v true)
theorem search_ev {l:List S63} (h:VS l):∀ (us:List Int) (C V:Nat),C<2 ^ 24→V<2 ^ 24→us.length≤24→(∀ v,v∈us→0≤v∧v<24)→Ev (fun k=>solve_search.f k l us.reverse (C:Int) (V:Int)) (sols l us C V)
  | [],C,V,hC,hV,hl,hv=>by
    refine Ev.step (fun k=>by rw [solve_search.f]) (Ev.bind (failing_ev h C V hC hV) ?_)
    have hn:=ffl_neg C V l 0
    rw [sols]
    by_cases e:(l.any fun t=>fl t C V)=true
    · rw [if_pos e];exact ev_pos (hn.2 e) (Ev.now _)
    · rw [if_neg e];exact ev_neg (fun h2=>e (hn.1 h2)) (ev_pos rfl (Ev.now _))
  | v :: us,C,V,hC,hV,hl,hv=>by
    refine Ev.step (fun k=>by rw [solve_search.f]) (Ev.bind (failing_ev h C V hC hV) ?_)
    have hn:=ffl_neg C V l 0
    have h1:=hv v List.mem_cons_self
    rw [List.length_cons] at hl
    rw [sols]
    by_cases e:(l.any fun t=>fl t C V)=true
    · rw [if_pos e];exact ev_pos (hn.2 e) (Ev.now _)
    · rw [if_neg e]
      have hlen:((v :: us).reverse.length:Int)=(us.length:Int)+1:=by simp
      have hwr:wrap64 (((v :: us).reverse.length:Int) - 1)=(us.length:Int):=by rw [hlen,w64_in _ (by omega)];omega
      have hrd:rd (v :: us).reverse (us.length:Int)=v:=by
        unfold rd
        simp [List.getD]
      have htk:(v :: us).reverse.take ((us.length:Int)).toNat=us.reverse:=by
        rw [List.reverse_cons,Int.toNat_natCast,List.take_append_of_le_length (by simp),List.take_of_length_le (by simp)]
      have ih0:=search_ev h us (wC C v) (wV V v false) (wC_lt hC h1.1 h1.2) (wV_lt false hV h1.1 h1.2) (by omega) (fun x hx=>hv x (List.mem_cons_of_mem _ hx))
      have ih1:=search_ev h us (wC C v) (wV V v true) (wC_lt hC h1.1 h1.2) (wV_lt true hV h1.1 h1.2) (by omega) (fun x hx=>hv x (List.mem_cons_of_mem _ hx))
      have w0:=with_eq (v:=v) false hC hV h1.1 h1.2
      have w1:=with_eq (v:=v) true hC hV h1.1 h1.2
      refine ev_neg (fun h2=>e (hn.1 h2)) (ev_neg (by omega) ?_)
      rw [hwr,hrd,htk]
      refine ev_pos (by omega) (ev_pos (by omega) (ev_pos (by omega) ?_))
      rw [show (0:Int)=((false.toNat:Nat):Int) from rfl,w0]
      refine Ev.bind (Ev.now _) (Ev.bind ih0 ?_)
      rw [show (1:Int)=((true.toNat:Nat):Int) from rfl,w1]
      exact Ev.bind (Ev.now _) (Ev.bind ih1 (Ev.now _))
theorem fl_full {t:S63} (h:VT t.f0 t.f1) {C V:Nat} (hc:∀ w,w∈t.f0→C.testBit w.toNat=true):fl t C V=!hs t.f0 t.f1 V:=by
  unfold fl hs
  congr 1
  rw [Bool.eq_iff_iff,List.any_eq_true,decide_eq_true_eq]
  have key:∀ r:Nat,r<2 ^ t.f0.length→r&&& row t.f0 C=r:=by
    intro r hr
    apply Nat.eq_of_testBit_eq
    intro j
    rw [Nat.testBit_and]
    by_cases hj:j<t.f0.length
    · have:(row t.f0 C).testBit j=true:=(row_bit _ _ _).2 ⟨_,List.getElem?_eq_getElem hj,hc _ (List.getElem_mem hj)⟩
      rw [this,Bool.and_true]
    · rw [Nat.testBit_lt_two_pow (Nat.lt_of_lt_of_le hr (Nat.pow_le_pow_right (by decide) (by omega))),Bool.false_and]
  constructor
  · rintro ⟨r,hr,e⟩
    have hro:=h.row_of hr
    rw [key _ hro.2.1,beq_iff_eq] at e
    rw [← e,← nat_of hro.1];exact hr
  · intro hm
    exact ⟨_,hm,by rw [Int.toNat_natCast,key _ (row_lt _ _)];simp⟩
theorem fl_sound {t:S63} {C V a:Nat} (hf:fl t C V=true) (ha:∀ w,w∈t.f0→V.testBit w.toNat=(a.testBit w.toNat&&C.testBit w.toNat)):hs t.f0 t.f1 a=false:=by
  rw [Bool.eq_false_iff]
  intro hh
  unfold fl at hf
  rw [Bool.not_eq_true',List.any_eq_false] at hf
  have hm:((row t.f0 a:Nat):Int)∈t.f1:=by simpa [hs] using hh
  refine hf _ hm ?_
  rw [Int.toNat_natCast,beq_iff_eq]
  apply Nat.eq_of_testBit_eq
  intro j
  rw [Nat.testBit_and,Bool.eq_iff_iff,Bool.and_eq_true,row_bit,row_bit,row_bit]
  constructor
  · rintro ⟨⟨v,hv,h1⟩,u,hu,h2⟩
    rw [hv] at hu
    injection hu with hu
    subst hu
    exact ⟨v,hv,by rw [ha v (List.mem_of_getElem? hv),h1,h2];rfl⟩
  · rintro ⟨v,hv,h1⟩
    rw [ha v (List.mem_of_getElem? hv),Bool.and_eq_true] at h1
    exact ⟨⟨v,hv,h1.1⟩,v,hv,h1.2⟩
def sat (l:List S63) (a:Nat):Bool:=l.all fun t=>hs t.f0 t.f1 a
def sl (l:List S63) (us:List Int) (V:Nat):List Nat:=((List.range (2 ^ us.length)).map fun i=>asg us i||| V).filter (sat l)
theorem chn_left {hi:Int}:∀ {us ws:List Int} {p:Option Int},Chn hi p (us++ws)→Chn hi p us
  | [],_,_,_=>trivial
  | _ :: us,ws,_,⟨h0,h1,h2,h3⟩=>⟨h0,h1,h2,chn_left h3⟩
theorem asg_snoc {hi:Int} {us:List Int} {v:Int} (h:Chn hi none (us++[v])) (i:Nat) (V:Nat) :
    (i<2 ^ us.length→asg (us++[v]) i||| V=asg us i||| V)∧(i<2 ^ us.length→asg (us++[v]) (2 ^ us.length+i)||| V=asg us i||| (V||| 2 ^ v.toNat)):=by
  have hu:=chn_left h
  have gl:∀ (m:Nat) (w:Int),(us++[v])[m]?=some w↔us[m]?=some w∨(m=us.length∧w=v):=by
    intro m w
    by_cases hm:m<us.length
    · rw [List.getElem?_append_left hm]
      exact ⟨.inl,fun hh=>hh.elim id (fun ⟨e,_⟩=>by omega)⟩
    · rw [List.getElem?_append_right (by omega),List.getElem?_eq_none (by omega:us.length≤m)]
      by_cases e:m=us.length
      · subst e;simp [eq_comm]
      · rw [List.getElem?_eq_none (by simp;omega)];simp [e]
  have gb:∀ m,us[m]?≠none→m<us.length:=fun m hm=>by
    rcases Nat.lt_or_ge m us.length with h|h
    · exact h
    · exact absurd (List.getElem?_eq_none h) hm
  constructor
  · intro hi2
    apply Nat.eq_of_testBit_eq
    intro j
    rw [Nat.testBit_or,Nat.testBit_or]
    congr 1
    rw [Bool.eq_iff_iff,asg_bit h,asg_bit hu]
    constructor
    · rintro ⟨m,w,hm,rfl,hb⟩
      rcases (gl m w).1 hm with h1|⟨rfl,rfl⟩
      · exact ⟨m,w,h1,rfl,hb⟩
      · rw [Nat.testBit_lt_two_pow hi2] at hb;exact absurd hb (by simp)
    · rintro ⟨m,w,hm,rfl,hb⟩
      exact ⟨m,w,(gl m w).2 (.inl hm),rfl,hb⟩
  · intro hi2
    have hbit:∀ m,(2 ^ us.length+i).testBit m=(i.testBit m||m == us.length):=by
      intro m
      have:=bit_add true i us.length hi2 m
      simp only [Bool.toNat_true,Nat.one_mul,Bool.true_and] at this
      rw [Nat.add_comm]
      exact this
    apply Nat.eq_of_testBit_eq
    intro j
    rw [Nat.testBit_or,Nat.testBit_or,Nat.testBit_or,Nat.testBit_two_pow]
    have e:(asg (us++[v]) (2 ^ us.length+i)).testBit j=((asg us i).testBit j||decide (v.toNat=j)):=by
      rw [Bool.eq_iff_iff,asg_bit h,Bool.or_eq_true,asg_bit hu,decide_eq_true_eq]
      constructor
      · rintro ⟨m,w,hm,rfl,hb⟩
        rcases (gl m w).1 hm with h1|⟨rfl,rfl⟩
        · rw [hbit] at hb
          have:=gb m (by rw [h1];simp)
          rw [show (m == us.length)=false from by simp;omega,Bool.or_false] at hb
          exact .inl ⟨m,w,h1,rfl,hb⟩
        · exact .inr rfl
      · rintro (⟨m,w,hm,rfl,hb⟩|rfl)
        · exact ⟨m,w,(gl m w).2 (.inl hm),rfl,by rw [hbit,hb,Bool.true_or]⟩
        · exact ⟨us.length,v,(gl _ _).2 (.inr ⟨rfl,rfl⟩),rfl,by rw [hbit];simp⟩
    rw [e]
    cases (asg us i).testBit j <;> cases V.testBit j <;> cases decide (v.toNat=j) <;> rfl
theorem sl_snoc (l:List S63) {hi:Int} {us:List Int} {v:Int} (h:Chn hi none (us++[v])) (V:Nat):sl l (us++[v]) V=sl l us V++sl l us (V||| 2 ^ v.toNat):=by
  unfold sl
  rw [List.length_append,List.length_singleton,Nat.pow_succ,Nat.mul_two,List.range_add,List.map_append,List.filter_append,List.map_map]
  congr 1
  · congr 1
    exact List.map_congr_left (fun i hi2=>(asg_snoc h i V).1 (List.mem_range.1 hi2))
  · congr 1
    exact List.map_congr_left (fun i hi2=>(asg_snoc h i V).2 (List.mem_range.1 hi2))
theorem mask_cons_bit (v:Int) (ws:List Int) (j:Nat):(mask (v :: ws) 0).testBit j=((mask ws 0).testBit j||v.toNat == j):=by
  rw [mask_bit,mask_bit,List.any_cons,Nat.zero_testBit,Bool.false_or,Bool.false_or,Bool.or_comm]
theorem sols_sl {l:List S63} (h:VS l):∀ (us ws:List Int) (V:Nat),occ l=us.reverse++ws→(∀ j,V.testBit j=true→(mask ws 0).testBit j=true)→sols l us (mask ws 0) V=(sl l us.reverse V).map fun a:Nat=>(a:Int)
  | [],ws,V,ho,hv=>by
    have hw:ws=occ l:=by simpa using ho.symm
    have e:(l.any fun t=>fl t (mask ws 0) V)=!sat l V:=by
      unfold sat
      rw [List.not_all_eq_any_not,Bool.eq_iff_iff,List.any_eq_true,List.any_eq_true]
      have hx:∀ t,t∈l→fl t (mask ws 0) V=!hs t.f0 t.f1 V:=fun t ht=>fl_full (h.tab t ht) (fun w hw2=>by
        rw [mask_bit,Nat.zero_testBit,Bool.false_or,List.any_eq_true]
        exact ⟨w,by rw [hw,h.occ.2];exact List.mem_flatMap.2 ⟨t,ht,hw2⟩,by simp⟩)
      exact ⟨fun ⟨t,ht,h2⟩=>⟨t,ht,by rw [← hx t ht];exact h2⟩,fun ⟨t,ht,h2⟩=>⟨t,ht,by rw [hx t ht];exact h2⟩⟩
    rw [sols,e]
    have hz:sl l [] V=if sat l V=true then [V] else []:=by
      unfold sl
      have:asg [] 0=0:=rfl
      simp only [List.length_nil,Nat.pow_zero,List.range_one,List.map_cons,List.map_nil,this,Nat.zero_or,List.filter_cons,List.filter_nil]
    rw [List.reverse_nil,hz]
    cases sat l V <;> simp
  | v :: us,ws,V,ho,hv=>by
    have ho2:occ l=us.reverse++(v :: ws):=by rw [ho];simp
    have hc:=h.occ.1
    rw [ho] at hc
    have hch:=chn_left hc
    rw [List.reverse_cons] at hch
    rw [sols]
    have hvb:V.testBit v.toNat=false:=by
      rw [Bool.eq_false_iff]
      intro hb
      have hm:=hv _ hb
      rw [mask_bit,Nat.zero_testBit,Bool.false_or,List.any_eq_true] at hm
      obtain ⟨w,hw,e⟩:=hm
      have hw2:w.toNat=v.toNat:=by simpa using e
      have hall:=h.occ.1
      rw [ho2] at hall
      obtain ⟨m,hm⟩:=List.getElem?_of_mem hw
      have i1:(us.reverse++(v :: ws))[us.reverse.length]?=some v:=by rw [List.getElem?_append_right (by omega)];simp
      have i2:(us.reverse++(v :: ws))[us.reverse.length+(m+1)]?=some w:=by rw [List.getElem?_append_right (by omega)];simpa using hm
      have:=hall.inj _ _ _ _ i1 i2 hw2.symm
      omega
    have eC:wC (mask ws 0) v=mask (v :: ws) 0:=by
      apply Nat.eq_of_testBit_eq
      intro j
      rw [wC_bit,mask_cons_bit]
    have e0:wV V v false=V:=by
      apply Nat.eq_of_testBit_eq
      intro j
      rw [wV_bit,Bool.false_and,Bool.or_false]
      by_cases e:v.toNat=j
      · subst e;rw [hvb,Bool.false_and]
      · have:(v.toNat == j)=false:=by simpa using e
        rw [this];simp
    have e1:wV V v true=V||| 2 ^ v.toNat:=by
      apply Nat.eq_of_testBit_eq
      intro j
      rw [wV_bit,Bool.true_and,Nat.testBit_or,Nat.testBit_two_pow]
      have e:decide (v.toNat=j)=(v.toNat == j):=rfl
      rw [e]
      cases V.testBit j <;> cases (v.toNat == j) <;> rfl
    have ih0:=sols_sl h us (v :: ws) V ho2 (fun j hj=>by rw [mask_cons_bit,hv j hj,Bool.true_or])
    have ih1:=sols_sl h us (v :: ws) (V||| 2 ^ v.toNat) ho2 (fun j hj=>by
      rw [mask_cons_bit]
      rw [Nat.testBit_or,Nat.testBit_two_pow,Bool.or_eq_true] at hj
      rcases hj with hj|hj
      · rw [hv j hj,Bool.true_or]
      · have e:(v.toNat == j)=true:=hj
        rw [e,Bool.or_true])
    rw [List.reverse_cons,sl_snoc l hch,List.map_append,eC,e0,e1,ih0,ih1]
    by_cases e:(l.any fun t=>fl t (mask ws 0) V)=true
    · rw [if_pos e,← List.map_append,← sl_snoc l hch]
      obtain ⟨t,ht,hf⟩:=List.any_eq_true.1 e
      have hnil:sl l (us.reverse++[v]) V=[]:=by
        unfold sl
        rw [List.filter_eq_nil_iff]
        intro a ha
        obtain ⟨i,hi2,rfl⟩:=List.mem_map.1 ha
        have:hs t.f0 t.f1 (asg (us.reverse++[v]) i||| V)=false:=by
          refine fl_sound hf (fun w hw=>?_)
          rw [Nat.testBit_or]
          by_cases hm:(mask ws 0).testBit w.toNat=true
          · rw [hm,Bool.and_true]
            have:(asg (us.reverse++[v]) i).testBit w.toNat=false:=by
              rw [Bool.eq_false_iff]
              intro hb
              obtain ⟨m,u,hu,eu,_⟩:=(asg_bit hch i _).1 hb
              rw [mask_bit,Nat.zero_testBit,Bool.false_or,List.any_eq_true] at hm
              obtain ⟨x,hx,ex⟩:=hm
              have ex2:x.toNat=w.toNat:=by simpa using ex
              obtain ⟨n,hn⟩:=List.getElem?_of_mem hx
              have hml:m<(us.reverse++[v]).length:=(List.getElem?_eq_some_iff.1 hu).1
              have hall:=h.occ.1
              rw [ho,List.reverse_cons] at hall
              have i1:((us.reverse++[v])++ws)[m]?=some u:=by rw [List.getElem?_append_left hml];exact hu
              have i2:((us.reverse++[v])++ws)[(us.reverse++[v]).length+n]?=some x:=by rw [List.getElem?_append_right (by omega)];simpa using hn
              have:=hall.inj _ _ _ _ i1 i2 (by omega)
              omega
            rw [this,Bool.false_or]
          · rw [Bool.not_eq_true] at hm
            have hvf:V.testBit w.toNat=false:=by
              rw [Bool.eq_false_iff]
              intro hb
              rw [hv _ hb] at hm
              exact absurd hm (by simp)
            rw [hm,Bool.and_false,hvf]
        unfold sat
        rw [Bool.not_eq_true,List.all_eq_false]
        exact ⟨t,ht,by rw [this];simp⟩
      rw [hnil];rfl
    · rw [if_neg e]
def SS (l:List S63):List Int:=(sl l (occ l) 0).map fun a:Nat=>(a:Int)
theorem allsearch_ev {l:List S63} (h:VS l):Ev (fun k=>solve_search.f k l (occ l) 0 0) (SS l):=by
  have h1:=search_ev h (occ l).reverse 0 0 (by decide) (by decide) (by rw [List.length_reverse];exact h.occ_len) (fun v hv=>h.occ' v (List.mem_reverse.1 hv))
  rw [List.reverse_reverse] at h1
  refine ev_eq h1 ?_
  have:=sols_sl h (occ l).reverse [] 0 (by simp) (fun j hj=>by simp at hj)
  rw [List.reverse_reverse] at this
  exact this

def solve_All.of (s:List Int):List Int×Int:=if s.length≤1000 then (s,0) else ([],3)

def fst1 (l:List S63):Int×Int:=if sysv l=0 then solve_First.of (SS l) else (0,sysv l)
theorem dfirst_ev (l:List S63) (hs:Sm l) (hl:l.length≤1000):Ev (fun k=>solve_First.f k l) (fst1 l):=
  Ev.bind (svalid_ev l hs hl) (ev_ite (fun h=>Ev.bind (occ_ev l hs hl) (Ev.bind (allsearch_ev ((sysv_VS l).1 h)) (Ev.now _))) (fun _=>Ev.now _))
theorem sequal_loop (l:List Int) (hl:(l.length:Int)≤9223372036854775807):∀ (d i:Nat),i+d=l.length→Ev (fun k=>slices_Equal_int_int.l0 k l l l.length i) true
  | 0,i,h=>Ev.step (f:=fun _=>some true) (fun k=>by rw [slices_Equal_int_int.l0,if_neg (by omega)]) (Ev.now _)
  | d+1,i,h=>by
    have hw:=wrap_succ i l.length (by omega) hl
    exact Ev.step (fun k=>by rw [slices_Equal_int_int.l0,if_pos (by omega),if_pos (by omega),if_pos (by omega),if_pos (by omega),if_pos rfl,hw]) (sequal_loop l hl d (i+1) (by omega))
theorem sequal_ev (l:List Int) (hl:(l.length:Int)≤9223372036854775807):Ev (fun k=>slices_Equal_int_int.f k l l) true:=ev_pos rfl (sequal_loop l hl l.length 0 (by omega))

theorem SS_mem {l:List S63} (h:VS l) (a:Nat):(a:Int)∈SS l↔sat l a=true∧a&&& (a ^^^ mask (occ l) 0)=0:=by
  unfold SS sl
  constructor
  · intro hm
    obtain ⟨b,hb,e⟩:=List.mem_map.1 hm
    have e':b=a:=by omega
    subst e'
    obtain ⟨h1,h2⟩:=List.mem_filter.1 hb
    refine ⟨h2,?_⟩
    obtain ⟨i,hi,rfl⟩:=List.mem_map.1 h1
    have hi':=List.mem_range.1 hi
    rw [Nat.or_zero]
    rw [← asgrow_iff h.occ.1,row_asg h.occ.1 hi']
  · rintro ⟨h1,h2⟩
    rw [← asgrow_iff h.occ.1] at h2
    exact List.mem_map.2 ⟨a,List.mem_filter.2 ⟨List.mem_map.2 ⟨row (occ l) a,List.mem_range.2 (row_lt _ _),by rw [Nat.or_zero];exact h2⟩,h1⟩,rfl⟩
inductive Tr where
  | leaf (t:Int)
  | node (v:Int) (a b:Tr)
namespace Tr
def sz:Tr→Nat
  | leaf _=>1
  | node _ a b=>1+a.sz+b.sz
def nod:Tr→Nat→List S103
  | leaf t,_=>[⟨-1,0,0,t⟩]
  | node v a b,p=>⟨v,((p+1:Nat):Int),((p+1+a.sz:Nat):Int),0⟩ :: (a.nod (p+1)++b.nod (p+1+a.sz))
def full:Tr→Bool
  | leaf t=>decide (0≤t)
  | node _ a b=>a.full&&b.full
theorem sz_pos:∀ T:Tr,1≤T.sz
  | leaf _=>Nat.le_refl _
  | node _ a b=>by simp only [sz];omega
theorem nod_len:∀ (T:Tr) (p:Nat),(T.nod p).length=T.sz
  | leaf _,_=>rfl
  | node _ a b,p=>by simp only [nod,sz,List.length_cons,List.length_append,nod_len a,nod_len b];omega
end Tr
def tree (l:List S63):List Int→Nat→Nat→Tr
  | [],C,V=>.leaf (ffl C V l 0)
  | v :: vs,C,V=>if 0≤ffl C V l 0 then .leaf (ffl C V l 0) else .node v (tree l vs (wC C v) (wV V v false)) (tree l vs (wC C v) (wV V v true))
def Free (C V:Nat) (vs:List Int):Prop:=(∀ j,V.testBit j=true→C.testBit j=true)∧∀ v,v∈vs→C.testBit v.toNat=false
theorem Free.step {C V:Nat} {v:Int} {vs:List Int} {hi:Int} {p:Option Int} (h:Free C V (v :: vs)) (hc:Chn hi p (v :: vs)) (h0:∀ w,w∈v :: vs→0≤w) (b:Bool):Free (wC C v) (wV V v b) vs:=by
  refine ⟨fun j hj=>?_,fun w hw=>?_⟩
  · rw [wV_bit] at hj
    rw [wC_bit]
    by_cases e:v.toNat=j
    · simp [e]
    · simp [e] at hj
      rw [h.1 j hj];rfl
  · have hlt:v<w:=by
      obtain ⟨i,hi',e⟩:=List.getElem_of_mem hw
      exact hc.below 0 (i+1) v w (by omega) rfl (by simp [List.getElem?_eq_getElem hi',e])
    have h1:=h0 v (.head _)
    rw [wC_bit,h.2 w (.tail _ hw)]
    simp;omega
theorem wV_or {C V:Nat} {v:Int} {vs:List Int} (h:Free C V (v :: vs)) (b:Bool):wV V v b=V||| b.toNat * 2 ^ v.toNat:=by
  apply Nat.eq_of_testBit_eq
  intro j
  have hv:V.testBit v.toNat=false:=by
    cases e:V.testBit v.toNat
    · rfl
    · exact absurd (h.2 v (.head _)) (by rw [h.1 _ e];decide)
  have e2:(b.toNat * 2 ^ v.toNat).testBit j=(b&&v.toNat == j):=by
    cases b
    · simp
    · rw [Bool.eq_iff_iff];simp [Nat.testBit_two_pow]
  rw [wV_bit,Nat.testBit_or,e2]
  by_cases e:v.toNat=j
  · subst e;simp [hv]
  · rw [show (v.toNat == j)=false by simpa using e];simp
theorem set_at {α:Type} (l:List α) (x y:α) (r:List α):(l++x :: r).set l.length y=l++y :: r:=by
  induction l with
  | nil=>rfl
  | cons z l ih=>exact congrArg (z :: ·) ih
theorem rdT_mid (l r:List S103) (x:S103):rd_T103 (l++x :: r) (l.length:Int)=x:=by
  show (l++x :: r).getD l.length z103=x
  simp [List.getD]
theorem with_ev {C V:Nat} {v:Int} {vs:List Int} (b:Bool) (hC:C<2 ^ 24) (hV:V<2 ^ 24) (h:0≤v∧v<24):Ev (fun _=>solve_choices_with.f (C:Int) (V:Int) (rd (v :: vs) 0) ((b.toNat:Nat):Int)) (((wC C v:Nat):Int),((wV V v b:Nat):Int)):=by
  rw [show rd (v :: vs) 0=v from rfl,with_eq b hC hV h.1 h.2]
  exact Ev.now _
theorem split_leaf {l:List S63} (h:VS l) (vs:List Int) (C V:Nat) (acc:List S103) (hC:C<2 ^ 24) (hV:V<2 ^ 24) (ha:acc.length<2000) (hf:0≤ffl C V l 0) :
    Ev (fun k=>solve_split.f k l vs (C:Int) (V:Int) acc) (acc++[⟨-1,0,0,ffl C V l 0⟩],true):=by
  refine Ev.step (fun k=>by rw [solve_split.f,if_neg (by omega)]) ?_
  refine Ev.bind (failing_ev h C V hC hV) ?_
  refine ev_pos hf ?_
  refine ev_pos (by omega) ?_
  exact Ev.now _
theorem split_two (l:List S63) (vs:List Int) (C V:Nat) (acc:List S103) (ha:acc.length=2000):Ev (fun k=>solve_split.f k l vs (C:Int) (V:Int) acc) (acc,false):=by
  refine Ev.step (fun k=>by rw [solve_split.f,if_pos (by omega)]) ?_
  exact Ev.now _
theorem split_node {l:List S63} (h:VS l) (v:Int) (vs:List Int) (C V:Nat) (acc:List S103) (hC:C<2 ^ 24) (hV:V<2 ^ 24) (ha:acc.length<2000) (hf:¬ 0≤ffl C V l 0) (hv:0≤v∧v<24) {q1:List S103×Bool} {r:List S103×Bool}
    (e1:Ev (fun k=>solve_split.f k l vs ((wC C v:Nat):Int) ((wV V v false:Nat):Int) (acc++[⟨v,((acc.length+1:Nat):Int),0,0⟩])) q1)
    (e2:if q1.2=true then acc.length<q1.1.length∧Ev (fun k=>solve_split.f k l vs ((wC C v:Nat):Int) ((wV V v true:Nat):Int) (q1.1.set acc.length (⟨(rd_T103 q1.1 (acc.length:Int)).f0,(rd_T103 q1.1 (acc.length:Int)).f1,(q1.1.length:Int),(rd_T103 q1.1 (acc.length:Int)).f3⟩:S103))) r else r=(q1.1,false)) :
    Ev (fun k=>solve_split.f k l (v :: vs) (C:Int) (V:Int) acc) r:=by
  refine Ev.step (fun k=>by rw [solve_split.f,if_neg (by omega)]) ?_
  refine Ev.bind (failing_ev h C V hC hV) ?_
  refine ev_neg hf ?_
  refine ev_neg (by simp only [List.length_cons];omega) ?_
  refine ev_pos (by omega) ?_
  refine Ev.bind (with_ev false hC hV hv) ?_
  have e1':Ev (fun k=>solve_split.f k l ((v :: vs).drop 1) ((wC C v:Nat):Int) ((wV V v false:Nat):Int) (acc++[(⟨rd (v :: vs) 0,wrap64 ((acc.length:Int)+1),0,0⟩:S103)])) q1:=by
    rw [show rd (v :: vs) 0=v from rfl,w64_in _ (by omega)]
    exact e1
  refine Ev.bind e1' ?_
  by_cases hq:q1.2=true
  · rw [if_pos hq] at e2
    refine ev_pos hq ?_
    refine ev_pos (by omega) ?_
    refine Ev.bind (with_ev true hC hV hv) ?_
    exact e2.2
  · rw [if_neg hq] at e2
    refine ev_neg hq ?_
    rw [e2]
    exact Ev.now _
theorem split_ev {l:List S63} (h:VS l):∀ (vs:List Int) (C V:Nat) (acc:List S103),C<2 ^ 24→V<2 ^ 24→(∀ v,v∈vs→0≤v∧v<24)→(tree l vs C V).full=true→acc.length≤2000→
    ∃ q,Ev (fun k=>solve_split.f k l vs (C:Int) (V:Int) acc) q∧q.2=decide (acc.length+(tree l vs C V).sz≤2000)∧(q.2=true→q.1=acc++(tree l vs C V).nod acc.length)
  | [],C,V,acc,hC,hV,hv,hf,ha=>by
    by_cases h2:acc.length=2000
    · exact ⟨(acc,false),split_two _ _ _ _ _ h2,by rw [eq_comm,decide_eq_false_iff_not];have:=(tree l [] C V).sz_pos;omega,by simp⟩
    · have hf':0≤ffl C V l 0:=by simpa [tree,Tr.full] using hf
      exact ⟨_,split_leaf h _ _ _ _ hC hV (by omega) hf',by rw [eq_comm,decide_eq_true_iff];simp only [tree,Tr.sz];omega,fun _=>rfl⟩
  | v :: vs,C,V,acc,hC,hV,hv,hf,ha=>by
    by_cases h2:acc.length=2000
    · exact ⟨(acc,false),split_two _ _ _ _ _ h2,by rw [eq_comm,decide_eq_false_iff_not];have:=(tree l (v :: vs) C V).sz_pos;omega,by simp⟩
    by_cases hf':0≤ffl C V l 0
    · rw [tree,if_pos hf']
      exact ⟨_,split_leaf h _ _ _ _ hC hV (by omega) hf',by rw [eq_comm,decide_eq_true_iff];simp only [Tr.sz];omega,fun _=>rfl⟩
    have hv0:=hv v (.head _)
    rw [tree,if_neg hf'] at hf ⊢
    simp only [Tr.full,Bool.and_eq_true] at hf
    obtain ⟨q1,e1,f1,g1⟩:=split_ev h vs (wC C v) (wV V v false) (acc++[⟨v,((acc.length+1:Nat):Int),0,0⟩]) (wC_lt hC hv0.1 hv0.2) (wV_lt _ hV hv0.1 hv0.2) (fun w hw=>hv w (.tail _ hw)) hf.1 (by simp only [List.length_append,List.length_singleton];omega)
    simp only [List.length_append,List.length_singleton] at f1 g1
    by_cases hq:q1.2=true
    · have g:=g1 hq
      rw [hq,eq_comm,decide_eq_true_iff] at f1
      have hlen:q1.1.length=acc.length+1+(tree l vs (wC C v) (wV V v false)).sz:=by rw [g];simp only [List.length_append,List.length_singleton,Tr.nod_len]
      have es:q1.1.set acc.length (⟨(rd_T103 q1.1 (acc.length:Int)).f0,(rd_T103 q1.1 (acc.length:Int)).f1,(q1.1.length:Int),(rd_T103 q1.1 (acc.length:Int)).f3⟩:S103)=acc++⟨v,((acc.length+1:Nat):Int),((acc.length+1+(tree l vs (wC C v) (wV V v false)).sz:Nat):Int),0⟩ :: (tree l vs (wC C v) (wV V v false)).nod (acc.length+1):=by
        rw [hlen,g,List.append_assoc,List.singleton_append,set_at,rdT_mid]
      have hl3:(acc++(⟨v,((acc.length+1:Nat):Int),((acc.length+1+(tree l vs (wC C v) (wV V v false)).sz:Nat):Int),0⟩:S103) :: (tree l vs (wC C v) (wV V v false)).nod (acc.length+1)).length=acc.length+1+(tree l vs (wC C v) (wV V v false)).sz:=by simp only [List.length_append,List.length_cons,Tr.nod_len];omega
      obtain ⟨q2,e2,f2,g2⟩:=split_ev h vs (wC C v) (wV V v true) _ (wC_lt hC hv0.1 hv0.2) (wV_lt _ hV hv0.1 hv0.2) (fun w hw=>hv w (.tail _ hw)) hf.2 (show (acc++(⟨v,((acc.length+1:Nat):Int),((acc.length+1+(tree l vs (wC C v) (wV V v false)).sz:Nat):Int),0⟩:S103) :: (tree l vs (wC C v) (wV V v false)).nod (acc.length+1)).length≤2000 by omega)
      rw [hl3] at f2 g2
      refine ⟨q2,split_node h v vs C V acc hC hV (by omega) hf' hv0 e1 (by rw [if_pos hq,es];exact ⟨by omega,e2⟩),?_,?_⟩
      · rw [f2]
        congr 1
        simp only [Tr.sz,eq_iff_iff]
        omega
      · intro hq2
        rw [g2 hq2]
        simp only [Tr.nod,List.append_assoc,List.cons_append]
    · have hq':q1.2=false:=by simpa using hq
      rw [hq',eq_comm,decide_eq_false_iff_not] at f1
      refine ⟨(q1.1,false),split_node h v vs C V acc hC hV (by omega) hf' hv0 e1 (by rw [if_neg hq]),?_,by simp⟩
      rw [eq_comm,decide_eq_false_iff_not]
      simp only [Tr.sz]
      omega
theorem rinner_loop {t:S63} (h:VT t.f0 t.f1) {C V:Nat} (hC:C<2 ^ 24) (hV:V<2 ^ 24) (x5:Int) (a:Nat) (ha:a<2 ^ 24) (r:Bool):∀ (d i:Nat) (b:Bool),i+d=t.f0.length→
    ((b&&(t.f0.drop i).all fun v=>!C.testBit v.toNat||a.testBit v.toNat == V.testBit v.toNat)=true→r=false)→
    ((b&&(t.f0.drop i).all fun v=>!C.testBit v.toNat||a.testBit v.toNat == V.testBit v.toNat)=false→Ev (fun k=>ancepsref40_fails.l0 k (wrap64 (x5+1)) t.f0 t.f1 (C:Int) (V:Int)) r)→
    Ev (fun k=>ancepsref40_fails.l1 k x5 (a:Int) b i t.f0 t.f1 (C:Int) (V:Int)) r
  | 0,i,b,hi,h1,h2=>by
    rw [List.drop_eq_nil_of_le (by omega)] at h1 h2
    refine Ev.step (fun k=>by rw [ancepsref40_fails.l1,if_neg (by omega)]) ?_
    cases b
    · exact ev_neg (by decide) (h2 rfl)
    · refine ev_pos rfl ?_
      rw [h1 rfl]
      exact Ev.now _
  | d+1,i,b,hi,h1,h2=>by
    have hl:=h.len
    have hi':i<t.f0.length:=by omega
    have hv:=h.vars' _ (rd_mem t.f0 i hi')
    have hw:=wrap_succ i t.f0.length hi' (by omega)
    have hs:shl .i64 1 (rd t.f0 i)=((2 ^ (rd t.f0 i).toNat:Nat):Int):=by
      have:=shl1 (rd t.f0 i).toNat (by omega)
      rw [← nat_of hv.1] at this
      exact this
    have hp:2 ^ (rd t.f0 i).toNat<2 ^ 62:=Nat.pow_lt_pow_right (by decide) (by omega)
    have ba:=fun x (hx:x<2 ^ 24)=>(bits_nat .i64 62 (by decide) w62 x (2 ^ (rd t.f0 i).toNat) (p62 hx (by decide)) hp).1
    have hb:∀ x y:Nat,(x&&& 2 ^ (rd t.f0 i).toNat=y&&& 2 ^ (rd t.f0 i).toNat)↔x.testBit (rd t.f0 i).toNat=y.testBit (rd t.f0 i).toNat:=fun x y=>by
      constructor
      · intro e
        have:=congrArg (fun z=>z.testBit (rd t.f0 i).toNat) e
        simpa [Nat.testBit_and,Nat.testBit_two_pow] using this
      · intro e
        apply Nat.eq_of_testBit_eq
        intro j
        rw [Nat.testBit_and,Nat.testBit_and,Nat.testBit_two_pow]
        by_cases e':(rd t.f0 i).toNat=j
        · rw [← e',e]
        · simp [e']
    rw [rd_at t.f0 i hi',List.all_cons] at h1 h2
    refine Ev.step (fun k=>by rw [ancepsref40_fails.l1,if_pos (by omega)]) ?_
    refine ev_pos (by omega) ?_
    refine ev_pos hv.1 ?_
    rw [hs,ba C hC,ba a ha,ba V hV,hw]
    cases b
    · refine ev_neg (by decide) ?_
      exact rinner_loop h hC hV x5 a ha r d (i+1) false (by omega) (fun e=>by simp at e) (fun _=>h2 rfl)
    · refine ev_pos rfl ?_
      have hc:=hb C 0
      rw [Nat.zero_and,Nat.zero_testBit] at hc
      by_cases e:C.testBit (rd t.f0 i).toNat=true
      · refine ev_neg (fun e'=>by have:=hc.1 (by omega);rw [e] at this;cases this) ?_
        have hav:=hb a V
        refine ev_eq (rinner_loop h hC hV x5 a ha r d (i+1) _ (by omega) (fun e2=>h1 ?_) (fun e2=>h2 ?_)) rfl
        · refine Eq.trans ?_ e2;rw [e,Bool.not_true,Bool.false_or,Bool.true_and];congr 1;rw [Bool.eq_iff_iff,beq_iff_eq,beq_iff_eq,← hav];omega
        · refine Eq.trans ?_ e2;rw [e,Bool.not_true,Bool.false_or,Bool.true_and];congr 1;rw [Bool.eq_iff_iff,beq_iff_eq,beq_iff_eq,← hav];omega
      · rw [Bool.not_eq_true] at e
        refine ev_pos (by have:=hc.2 e;omega) ?_
        rw [e] at h1 h2
        exact rinner_loop h hC hV x5 a ha r d (i+1) true (by omega) (fun e2=>h1 (by simpa using e2)) (fun e2=>h2 (by simpa using e2))
theorem fl_all {t:S63} (h:VT t.f0 t.f1) {C V:Nat} (hs:∀ j,V.testBit j=true→C.testBit j=true) {x:Int} (hx:x∈t.f1):(x.toNat&&& row t.f0 C == row t.f0 V)=t.f0.all fun v=>!C.testBit v.toNat||(asg t.f0 x.toNat).testBit v.toNat == V.testBit v.toNat:=by
  have hx':=h.row_of hx
  rw [Bool.eq_iff_iff,beq_iff_eq,List.all_eq_true]
  have key:∀ m v,t.f0[m]?=some v→((x.toNat&&& row t.f0 C).testBit m=(row t.f0 V).testBit m↔(!C.testBit v.toNat||(asg t.f0 x.toNat).testBit v.toNat == V.testBit v.toNat)=true):=fun m v hm=>by
    have r1:∀ y:Nat,(row t.f0 y).testBit m=y.testBit v.toNat:=fun y=>by
      rw [Bool.eq_iff_iff,row_bit]
      constructor
      · rintro ⟨w,hw,hb⟩
        rw [hm] at hw;cases hw;exact hb
      · exact fun hb=>⟨v,hm,hb⟩
    have r2:(asg t.f0 x.toNat).testBit v.toNat=x.toNat.testBit m:=by
      rw [Bool.eq_iff_iff,asg_bit h.vars]
      constructor
      · rintro ⟨m',v',hm',e,hb⟩
        have:=h.vars.inj m m' v v' hm hm' e
        subst this;exact hb
      · exact fun hb=>⟨m,v,hm,rfl,hb⟩
    rw [Nat.testBit_and,r1,r1,r2]
    have:=hs v.toNat
    revert this
    cases C.testBit v.toNat <;> cases V.testBit v.toNat <;> cases x.toNat.testBit m <;> simp
  constructor
  · intro e v hv
    obtain ⟨m,hm,e'⟩:=List.getElem_of_mem hv
    exact (key m v (by rw [List.getElem?_eq_getElem hm,e'])).1 (by rw [e])
  · intro ha
    apply Nat.eq_of_testBit_eq
    intro m
    by_cases hm:m<t.f0.length
    · exact (key m _ (List.getElem?_eq_getElem hm)).2 (ha _ (List.getElem_mem hm))
    · have r:∀ y:Nat,(row t.f0 y).testBit m=false:=fun y=>Nat.testBit_lt_two_pow (Nat.lt_of_lt_of_le (row_lt _ _) (Nat.pow_le_pow_right (by decide) (by omega)))
      rw [Nat.testBit_and,r,r,Bool.and_false]
theorem rfails_loop {t:S63} (h:VT t.f0 t.f1) {C V:Nat} (hC:C<2 ^ 24) (hV:V<2 ^ 24) (hs:∀ j,V.testBit j=true→C.testBit j=true):∀ (d i:Nat),i+d=t.f1.length→
    Ev (fun k=>ancepsref40_fails.l0 k i t.f0 t.f1 (C:Int) (V:Int)) (!((t.f1.drop i).any fun r=>r.toNat&&& row t.f0 C == row t.f0 V))
  | 0,i,hi=>by
    rw [List.drop_eq_nil_of_le (by omega)]
    refine Ev.step (fun k=>by rw [ancepsref40_fails.l0,if_neg (by omega)]) ?_
    exact Ev.now _
  | d+1,i,hi=>by
    have hr:=h.rows_len
    have hl:=h.len
    have hi':i<t.f1.length:=by omega
    have hx:=rd_mem t.f1 i hi'
    have hw:=wrap_succ i t.f1.length hi' (by omega)
    have ih:=rfails_loop h hC hV hs d (i+1) (by omega)
    refine Ev.step (fun k=>by rw [ancepsref40_fails.l0,if_pos (by omega)]) ?_
    refine ev_pos (by omega) ?_
    have ea:=rasg_ev h.vars (by omega) (rd t.f1 i).toNat
    rw [← nat_of (h.row_of hx).1] at ea
    refine Ev.bind ea ?_
    rw [rd_at t.f1 i hi',List.any_cons,fl_all h hs hx]
    refine rinner_loop h hC hV i _ (asg_lt h.vars _) _ t.f0.length 0 true (by omega) (fun e=>?_) (fun e=>?_)
    · rw [List.drop_zero,Bool.true_and] at e
      rw [e,Bool.true_or,Bool.not_true]
    · rw [List.drop_zero,Bool.true_and] at e
      rw [e,Bool.false_or,hw]
      exact ih
theorem rfails_ev {t:S63} (h:VT t.f0 t.f1) {C V:Nat} (hC:C<2 ^ 24) (hV:V<2 ^ 24) (hs:∀ j,V.testBit j=true→C.testBit j=true):Ev (fun k=>ancepsref40_fails.f k t.f0 t.f1 (C:Int) (V:Int)) (fl t C V):=
  rfails_loop h hC hV hs t.f1.length 0 (by omega)

theorem rsplit_loop {l:List S63} (h:VS l) (vs:List Int) {C V:Nat} (hC:C<2 ^ 24) (hV:V<2 ^ 24) (hs:∀ j,V.testBit j=true→C.testBit j=true) (acc:List S103) (ha:acc.length<4398046511104) (r:List S103) :
    ∀ (d i:Nat),i+d=l.length→(0≤ffl C V (l.drop i) i→r=acc++[⟨-1,0,0,ffl C V (l.drop i) i⟩])→(¬ 0≤ffl C V (l.drop i) i→Ev (fun k=>ancepsref40_split.l0 k l vs acc (l.length:Int) (C:Int) (V:Int)) r)→
    Ev (fun k=>ancepsref40_split.l0 k l vs acc i (C:Int) (V:Int)) r
  | 0,i,hi,h1,h2=>by
    have e:i=l.length:=by omega
    subst e
    rw [List.drop_eq_nil_of_le (Nat.le_refl _)] at h1 h2
    exact h2 (by simp [ffl])
  | d+1,i,hi,h1,h2=>by
    have hi':i<l.length:=by omega
    have h16:=h.len
    have hw:=wrap_succ i l.length hi' (by omega)
    have hT:=h.tab _ (rdT_mem l i hi')
    rw [rdT_at l i hi',ffl] at h1 h2
    refine Ev.step (fun k=>by rw [ancepsref40_split.l0,if_pos (by omega)]) ?_
    refine ev_pos (by omega) ?_
    refine Ev.bind (rfails_ev hT hC hV hs) ?_
    by_cases e:fl (rd_T63 l i) C V=true
    · rw [if_pos e] at h1
      refine ev_pos e ?_
      refine ev_pos ha ?_
      rw [h1 (by omega)]
      exact Ev.now _
    · rw [if_neg e] at h1 h2
      refine ev_neg e ?_
      rw [hw]
      exact rsplit_loop h vs hC hV hs acc ha r d (i+1) (by omega) h1 h2
theorem rwith_ev {C V:Nat} {v:Int} {vs:List Int} (b:Bool) (hC:C<2 ^ 24) (hV:V<2 ^ 24) (h:0≤v∧v<24) (hf:Free C V (v :: vs)):Ev (fun _=>ancepsref40_choices_with.f (C:Int) (V:Int) (rd (v :: vs) 0) ((b.toNat:Nat):Int)) (((wC C v:Nat):Int),((wV V v b:Nat):Int)):=by
  have e:=with_eq b hC hV h.1 h.2
  rw [show rd (v :: vs) 0=v from rfl]
  have hs:shl .i64 1 v=((2 ^ v.toNat:Nat):Int):=by
    have:=shl1 v.toNat (by omega)
    rw [← nat_of h.1] at this
    exact this
  have hp:2 ^ v.toNat<2 ^ 62:=Nat.pow_lt_pow_right (by decide) (by omega)
  have hb:shl .i64 ((b.toNat:Nat):Int) v=((b.toNat * 2 ^ v.toNat:Nat):Int):=by
    cases b
    · show shl .i64 0 v=_
      have hz:shl .i64 0 v=0:=by
        have:v=((v.toNat:Nat):Int):=nat_of h.1
        rw [this]
        simp [shl];rfl
      rw [hz];simp
    · rw [Bool.toNat_true,Nat.one_mul];exact hs
  have hp2:b.toNat * 2 ^ v.toNat<2 ^ 62:=by
    cases b
    · simp
    · simpa using hp
  unfold ancepsref40_choices_with.f
  rw [if_pos h.1,hs,hb,(bits_nat .i64 62 (by decide) w62 C _ (p62 hC (by decide)) hp).2,(bits_nat .i64 62 (by decide) w62 V _ (p62 hV (by decide)) hp2).2,wV_or hf b]
  exact Ev.now _
theorem rsplit_ev {l:List S63} (h:VS l):∀ (vs:List Int) (C V:Nat) (p:Option Int) (acc:List S103),C<2 ^ 24→V<2 ^ 24→Free C V vs→Chn 24 p vs→(tree l vs C V).full=true→acc.length≤2001→
    ∃ r,Ev (fun k=>ancepsref40_split.f k l vs (C:Int) (V:Int) acc) r∧acc.length≤r.length∧r.length≤2001∧(acc.length+(tree l vs C V).sz≤2000→r=acc++(tree l vs C V).nod acc.length)∧(2000<acc.length+(tree l vs C V).sz→2000<r.length)
  | vs,C,V,p,acc,hC,hV,hfr,hc,hf,ha=>by
    by_cases h2:2000<acc.length
    · refine ⟨acc,?_,Nat.le_refl _,ha,fun e=>by have:=(tree l vs C V).sz_pos;omega,fun _=>h2⟩
      refine Ev.step (fun k=>by rw [ancepsref40_split.f,if_pos (by omega)]) ?_
      exact Ev.now _
    by_cases hf':0≤ffl C V l 0
    · have et:tree l vs C V=.leaf (ffl C V l 0):=by
        cases vs with
        | nil=>rfl
        | cons v vs=>rw [tree,if_pos hf']
      rw [et]
      refine ⟨acc++[⟨-1,0,0,ffl C V l 0⟩],?_,by simp,by simp;omega,fun _=>rfl,fun e=>by simp only [Tr.sz] at e;simp only [List.length_append,List.length_singleton];omega⟩
      refine Ev.step (fun k=>by rw [ancepsref40_split.f,if_neg (by omega)]) ?_
      exact rsplit_loop h vs hC hV hfr.1 acc (by omega) _ l.length 0 (by omega) (fun _=>rfl) (fun e=>absurd hf' e)
    match vs,hfr,hc,hf with
    | [],hfr,hc,hf=>exact absurd (by simpa [tree,Tr.full] using hf) hf'
    | v :: vs,hfr,hc,hf=>
      have hv0:0≤v∧v<24:=⟨hc.1,hc.2.1⟩
      have hall:∀ w,w∈v :: vs→0≤w:=fun w hw=>(hc.mem w hw).1
      rw [tree,if_neg hf'] at hf ⊢
      simp only [Tr.full,Bool.and_eq_true] at hf
      obtain ⟨r1,e1,l1,m1,f1,g1⟩:=rsplit_ev h vs (wC C v) (wV V v false) (some v) (acc++[⟨v,((acc.length+1:Nat):Int),0,0⟩]) (wC_lt hC hv0.1 hv0.2) (wV_lt _ hV hv0.1 hv0.2) (hfr.step hc hall false) hc.2.2.2 hf.1 (by simp only [List.length_append,List.length_singleton];omega)
      simp only [List.length_append,List.length_singleton] at l1 f1 g1
      obtain ⟨r2,e2,l2,m2,f2,g2⟩:=rsplit_ev h vs (wC C v) (wV V v true) (some v) (r1.set ((acc.length:Int)).toNat (⟨(rd_T103 r1 (acc.length:Int)).f0,(rd_T103 r1 (acc.length:Int)).f1,(r1.length:Int),(rd_T103 r1 (acc.length:Int)).f3⟩:S103)) (wC_lt hC hv0.1 hv0.2) (wV_lt _ hV hv0.1 hv0.2) (hfr.step hc hall true) hc.2.2.2 hf.2 (by rw [List.length_set];omega)
      rw [List.length_set] at l2 f2 g2
      refine ⟨r2,?_,by omega,m2,?_,?_⟩
      · refine Ev.step (fun k=>by rw [ancepsref40_split.f,if_neg (by omega)]) ?_
        refine rsplit_loop h (v :: vs) hC hV hfr.1 acc (by omega) _ l.length 0 (by omega) (fun e=>absurd (by rw [List.drop_zero] at e;exact e) hf') (fun _=>?_)
        refine Ev.step (fun k=>by rw [ancepsref40_split.l0,if_neg (by omega)]) ?_
        refine ev_pos (by simp only [List.length_cons];omega) ?_
        refine ev_pos (by omega) ?_
        refine ev_pos (by simp only [List.length_cons];omega) ?_
        refine Ev.bind (rwith_ev false hC hV hv0 hfr) ?_
        have e1':Ev (fun k=>ancepsref40_split.f k l ((v :: vs).drop 1) ((wC C v:Nat):Int) ((wV V v false:Nat):Int) (acc++[(⟨rd (v :: vs) 0,wrap64 ((acc.length:Int)+1),0,0⟩:S103)])) r1:=by
          rw [show rd (v :: vs) 0=v from rfl,w64_in _ (by omega)]
          exact e1
        refine Ev.bind e1' ?_
        refine ev_pos (by omega) ?_
        refine ev_pos (by omega) ?_
        refine Ev.bind (rwith_ev true hC hV hv0 hfr) ?_
        refine Ev.bind e2 ?_
        exact Ev.now _
      · intro e
        simp only [Tr.sz] at e
        have e3:=f1 (by omega)
        have hlen:r1.length=acc.length+1+(tree l vs (wC C v) (wV V v false)).sz:=by rw [e3];simp only [List.length_append,List.length_singleton,Tr.nod_len]
        rw [f2 (by omega),hlen,Int.toNat_natCast,e3,List.append_assoc,List.singleton_append,set_at,rdT_mid]
        simp only [Tr.nod,List.append_assoc,List.cons_append]
      · intro e
        simp only [Tr.sz] at e
        by_cases e3:2000<acc.length+1+(tree l vs (wC C v) (wV V v false)).sz
        · have:=g1 e3
          omega
        · have e4:=f1 (by omega)
          have hlen:r1.length=acc.length+1+(tree l vs (wC C v) (wV V v false)).sz:=by rw [e4];simp only [List.length_append,List.length_singleton,Tr.nod_len]
          exact g2 (by omega)
  termination_by vs=>vs.length
theorem full_of {l:List S63} (h:VS l) (hn:SS l=[]):∀ (vs:List Int) (C V:Nat),(∀ w,w∈occ l→C.testBit w.toNat=true∨w∈vs)→(∀ v,v∈vs→v∈occ l)→(∀ j,V.testBit j=true→(mask (occ l) 0).testBit j=true)→(tree l vs C V).full=true
  | [],C,V,ho,hm,hv=>by
    simp only [tree,Tr.full,decide_eq_true_iff]
    rw [ffl_neg]
    cases e:l.any fun t=>fl t C V
    · have hin:(V:Int)∈SS l:=by
        rw [SS_mem h]
        constructor
        · unfold sat
          rw [List.all_eq_true]
          intro t ht
          rw [List.any_eq_false] at e
          have:=e t ht
          have hw:∀ w,w∈t.f0→C.testBit w.toNat=true:=fun w hw=>by
            rcases ho w ((h.occ.2 w).2 (List.mem_flatMap.2 ⟨t,ht,hw⟩)) with h1|h1
            · exact h1
            · cases h1
          rw [fl_full (h.tab t ht) hw] at this
          simpa using this
        · apply Nat.eq_of_testBit_eq
          intro j
          rw [Nat.testBit_and,Nat.testBit_xor,Nat.zero_testBit]
          cases e':V.testBit j
          · rfl
          · rw [hv j e'];rfl
      rw [hn] at hin;cases hin
    · rfl
  | v :: vs,C,V,ho,hm,hv=>by
    rw [tree]
    by_cases hf:0≤ffl C V l 0
    · rw [if_pos hf];simpa [Tr.full] using hf
    · have sub:∀ b,(tree l vs (wC C v) (wV V v b)).full=true:=fun b=>full_of h hn vs _ _ (fun w hw=>by
        rw [wC_bit]
        rcases ho w hw with h1|h1
        · rw [h1];exact .inl rfl
        · rcases List.mem_cons.1 h1 with rfl|h1
          · left;simp
          · exact .inr h1) (fun w hw=>hm w (.tail _ hw)) (fun j hj=>by
        rw [wV_bit] at hj
        by_cases e:v.toNat=j
        · rw [mask_bit,Nat.zero_testBit,Bool.false_or,List.any_eq_true]
          exact ⟨v,hm v (.head _),by simpa using e⟩
        · exact hv j (by simp [e] at hj;exact hj))
      rw [if_neg hf,Tr.full,sub false,sub true]
      rfl

theorem rsat_loop {l:List S63} (h:VS l) (most:Int) (vars out:List Int) (i a:Nat) (hi:i<16777216) (ho:out.length<17592186044416) (r:List Int):∀ (d j:Nat),j+d=l.length→
    (sat (l.drop j) a=true→Ev (fun k=>ancepsref40_solutions.l0 k l most vars (out++[(a:Int)]) ((i+1:Nat):Int)) r)→(sat (l.drop j) a=false→Ev (fun k=>ancepsref40_solutions.l0 k l most vars out ((i+1:Nat):Int)) r)→
    Ev (fun k=>ancepsref40_solutions.l1 k l most vars out i (a:Int) true j) r
  | 0,j,hd,h1,h2=>by
    rw [List.drop_eq_nil_of_le (by omega)] at h1
    have hw:wrap64 ((i:Int)+1)=((i+1:Nat):Int):=by rw [w64_in _ (by omega)];omega
    exact Ev.step (fun k=>by rw [ancepsref40_solutions.l1,if_neg (by omega),if_pos rfl,if_pos ho,hw]) (h1 rfl)
  | d+1,j,hd,h1,h2=>by
    have hj:j<l.length:=by omega
    have hl:=h.len
    have hw:wrap64 ((i:Int)+1)=((i+1:Nat):Int):=by rw [w64_in _ (by omega)];omega
    have hwj:=wrap_succ j l.length hj (by omega)
    have hm:=h.tab _ (rdT_mem l j hj)
    have e:sat (l.drop j) a=(hs (rd_T63 l j).f0 (rd_T63 l j).f1 a&&sat (l.drop (j+1)) a):=by
      unfold sat
      rw [rdT_at l j hj,List.all_cons]
    rw [e] at h1 h2
    refine Ev.step (fun k=>by rw [ancepsref40_solutions.l1,if_pos (by omega),if_pos rfl,if_pos (by omega),hwj]) (Ev.bind (holds_ev hm a) ?_)
    cases c:hs (rd_T63 l j).f0 (rd_T63 l j).f1 a
    · rw [c] at h2
      have h2:=h2 rfl
      by_cases hj2:((j+1:Nat):Int)<(l.length:Int)
      · exact Ev.step (fun k=>by rw [ancepsref40_solutions.l1,if_pos hj2,if_neg Bool.false_ne_true,hw]) h2
      · exact Ev.step (fun k=>by rw [ancepsref40_solutions.l1,if_neg hj2,if_neg Bool.false_ne_true,hw]) h2
    · rw [c,Bool.true_and] at h1 h2
      exact rsat_loop h most vars out i a hi ho r d (j+1) (by omega) h1 h2
theorem rsol_loop {l:List S63} (h:VS l) {vars:List Int} (hc:Chn 24 none vars) (hv:vars.length≤24) (most:Nat) (hm:most≤40000000):∀ (d i:Nat) (out:List Int),i+d=2 ^ vars.length→out.length≤i→out.length≤most→
    Ev (fun k=>ancepsref40_solutions.l0 k l (most:Int) vars out i) ((out++(((List.range' i d).map fun i=>asg vars i).filter (sat l)).map fun a:Nat=>(a:Int)).take most)
  | 0,i,out,hd,ho,hom=>by
    have hs1:=shl1 vars.length (by omega)
    have hp:2 ^ vars.length≤16777216:=Nat.le_trans (Nat.pow_le_pow_right (by decide) hv) (by decide)
    rw [show List.range' i 0=[] from rfl,List.map_nil,List.filter_nil,List.map_nil,List.append_nil,List.take_of_length_le hom]
    exact Ev.step (f:=fun _=>some out) (fun k=>by rw [ancepsref40_solutions.l0,hs1,if_neg (by omega)]) (Ev.now _)
  | d+1,i,out,hd,ho,hom=>by
    have hs1:=shl1 vars.length (by omega)
    have hp:2 ^ vars.length≤16777216:=Nat.le_trans (Nat.pow_le_pow_right (by decide) hv) (by decide)
    by_cases hlt:(out.length:Int)<(most:Int)
    · refine Ev.step (fun k=>by rw [ancepsref40_solutions.l0,hs1,if_pos (by omega),if_pos hlt]) (Ev.bind (rasg_ev hc hv i) ?_)
      rw [List.range'_succ,List.map_cons,List.filter_cons]
      refine rsat_loop h _ vars out i (asg vars i) (by omega) (by omega) _ l.length 0 (by omega) (fun e=>?_) (fun e=>?_)
      · rw [List.drop_zero] at e
        have ih:=rsol_loop h hc hv most hm d (i+1) (out++[((asg vars i:Nat):Int)]) (by omega) (by simp;omega) (by simp;omega)
        rw [if_pos e,List.map_cons]
        rw [List.append_assoc,List.singleton_append] at ih
        exact ih
      · rw [List.drop_zero] at e
        have ih:=rsol_loop h hc hv most hm d (i+1) out (by omega) (by omega) hom
        rw [if_neg (by rw [e];simp)]
        exact ih
    · refine ev_eq (Ev.step (f:=fun _=>some out) (fun k=>by rw [ancepsref40_solutions.l0,hs1,if_pos (by omega),if_neg hlt]) (Ev.now _)) ?_
      rw [List.take_append_of_le_length (by omega),List.take_of_length_le (by omega)]
theorem rsol_ev {l:List S63} (h:VS l) (hs:Sm l) (most:Nat) (hm:most≤40000000):Ev (fun k=>ancepsref40_solutions.f k l (most:Int)) ((SS l).take most):=by
  refine Ev.bind (rvars_ev h hs) ?_
  have:=rsol_loop h h.occ.1 h.occ_len most hm (2 ^ (occ l).length) 0 [] (by omega) (by simp) (by simp)
  rw [List.nil_append,← List.range_eq_range'] at this
  refine ev_eq this ?_
  unfold SS sl
  simp only [Nat.or_zero]

theorem rfirst_ev (l:List S63) (hs:Sm l) (hl:l.length≤1000):Ev (fun k=>ancepsref40_First.f k l) (fst1 l):=by
  refine Ev.bind (rsvalid_ev l hs hl) (ev_ite (fun h=>Ev.bind (show Ev (fun k=>ancepsref40_solutions.f k l 1) ((SS l).take 1) from rsol_ev ((sysv_VS l).1 h) hs 1 (by decide)) ?_) (fun _=>Ev.now _))
  cases SS l with
  | nil=>exact ev_pos rfl (Ev.now _)
  | cons x xs=>exact ev_neg (by simp) (ev_pos (by simp) (Ev.now _))
def vrs (l:List S63):List Int:=if sysv l=0 then occ l else []
theorem dvars_ev (l:List S63) (hs:Sm l) (hl:l.length≤1000):Ev (fun k=>solve_Vars.f k l) (vrs l):=
  Ev.bind (svalid_ev l hs hl) (ev_ite (fun _=>Ev.bind (occ_ev l hs hl) (Ev.now _)) (fun _=>Ev.now _))
theorem rvars1_ev (l:List S63) (hs:Sm l) (hl:l.length≤1000):Ev (fun k=>ancepsref40_Vars.f k l) (vrs l):=by
  unfold vrs
  by_cases h:sysv l=0
  · rw [if_pos h];exact rvars_ev ((sysv_VS l).1 h) hs
  · rw [if_neg h];exact Ev.bind (rsvalid_ev l hs hl) (ev_neg h (Ev.now _))
theorem vrs_len (l:List S63):(vrs l).length≤1000:=by
  unfold vrs
  split
  · rename_i h;have:=((sysv_VS l).1 h).occ_len;omega
  · simp
def lf (L:Nat) (b:S103):Bool:=decide (b.f1=0)&&decide (b.f2=0)&&decide (0≤b.f3)&&decide (b.f3<(L:Int))
def nd (b:S103):Bool:=decide (0≤b.f0)&&decide (b.f0<24)&&decide (b.f3=0)
def mrk (n i:Nat):List Int→List Bool→Option (List Bool)
  | [],M=>some M
  | k :: ks,M=>if (i:Int)<k∧k<(n:Int)∧rdOf false M k=false then mrk n i ks (M.set k.toNat true) else none
def shp (L n:Nat):List S103→Nat→List Bool→Option (List Bool)
  | [],_,M=>some M
  | b :: bs,i,M=>if b.f0=-1 then (if lf L b=true then shp L n bs (i+1) M else none) else if nd b=true then (mrk n i [b.f1,b.f2] M).bind (shp L n bs (i+1)) else none
def fin:Option (List Bool)→Bool
  | none=>false
  | some M=>(M.drop 1).all id
theorem rdN_at (l:List S103) (i:Nat) (hi:i<l.length):l.drop i=rd_T103 l i :: l.drop (i+1):=getD_drop l i z103 hi
theorem bidx_loop (M:List Bool) (hl:(M.length:Int)≤9223372036854775807):∀ (d i:Nat),i+d=M.length→∃ q:Int,Ev (fun k=>slices_Index_bool_bool.l0 k M false M.length i) q∧decide (q≥0)=!(M.drop i).all id
  | 0,i,h=>by
    refine ⟨-1,?_,by rw [List.drop_eq_nil_of_le (by omega)];rfl⟩
    refine Ev.step (fun k=>by rw [slices_Index_bool_bool.l0,if_neg (by omega)]) ?_
    exact Ev.now _
  | d+1,i,h=>by
    have hi:i<M.length:=by omega
    have hw:=wrap_succ i M.length hi hl
    obtain ⟨q,hq,hq2⟩:=bidx_loop M hl d (i+1) (by omega)
    have hd:M.drop i=rdOf false M (i:Int) :: M.drop (i+1):=getD_drop M i false hi
    rw [hd,List.all_cons]
    cases e:rdOf false M (i:Int)
    · refine ⟨i,?_,by simp⟩
      refine Ev.step (fun k=>by rw [slices_Index_bool_bool.l0,if_pos (by omega),if_pos (by omega),if_pos (by omega),e]) ?_
      refine ev_pos rfl ?_
      exact Ev.now _
    · refine ⟨q,?_,by rw [hq2];simp⟩
      refine Ev.step (fun k=>by rw [slices_Index_bool_bool.l0,if_pos (by omega),if_pos (by omega),if_pos (by omega),e,hw]) ?_
      refine ev_neg (by decide) ?_
      exact hq
theorem inner_loop (l:List S63) (N:List S103) (hn:N.length≤2000) (i:Nat) (ks:List Int) (hk:ks.length≤2) (R:List Bool→Bool)
    (hR:∀ M,M.length=N.length→Ev (fun k=>solve_shape.l0 k l N.length M N N.length (wrap64 ((i:Int)+1))) (R M)) :
    ∀ (d j:Nat) (M:List Bool),j+d=ks.length→M.length=N.length→
    Ev (fun k=>solve_shape.l1 k l N.length M i N N.length i ks ks.length j) (match mrk N.length i (ks.drop j) M with|none=>false|some M'=>R M')
  | 0,j,M,h,hM=>by
    rw [List.drop_eq_nil_of_le (by omega)]
    refine Ev.step (fun k=>by rw [solve_shape.l1,if_neg (by omega)]) ?_
    exact hR M hM
  | d+1,j,M,h,hM=>by
    have hj:j<ks.length:=by omega
    have hw:=wrap_succ j ks.length hj (by omega)
    rw [rd_at ks j hj,mrk]
    refine Ev.step (fun k=>by rw [solve_shape.l1,if_pos (by omega),if_pos (by omega),if_pos (by omega)]) ?_
    by_cases h1:rd ks j≤(i:Int)
    · rw [if_neg (by omega)]
      refine ev_pos h1 ?_
      exact Ev.now _
    refine ev_neg h1 ?_
    by_cases h2:rd ks j≥(N.length:Int)
    · rw [if_neg (by omega)]
      refine ev_pos h2 ?_
      exact Ev.now _
    refine ev_neg h2 ?_
    refine ev_pos (by omega) ?_
    refine ev_pos (by omega) ?_
    cases h3:rdOf false M (rd ks j)
    · rw [if_pos ⟨by omega,by omega,rfl⟩]
      refine ev_neg (by decide) ?_
      rw [hw]
      exact inner_loop l N hn i ks hk R hR d (j+1) _ (by omega) (by rw [List.length_set];exact hM)
    · rw [if_neg (by rintro ⟨_,_,h⟩;cases h)]
      refine ev_pos rfl ?_
      exact Ev.now _
theorem shape_loop (l:List S63) (hL:l.length≤1000) (N:List S103) (hn:N.length≤2000) (h0:1≤N.length):∀ (d i:Nat) (M:List Bool),i+d=N.length→M.length=N.length→
    Ev (fun k=>solve_shape.l0 k l N.length M N N.length i) (fin (shp l.length N.length (N.drop i) i M))
  | 0,i,M,h,hM=>by
    rw [List.drop_eq_nil_of_le (by omega)]
    refine Ev.step (fun k=>by rw [solve_shape.l0,if_neg (by omega)]) ?_
    refine ev_pos (by omega) ?_
    obtain ⟨q,hq,hq2⟩:=bidx_loop (M.drop 1) (by rw [List.length_drop];omega) (M.drop 1).length 0 (by omega)
    refine Ev.bind (show Ev (fun k=>slices_Contains_bool_bool.f k (M.drop 1) false) (decide (q≥0)) from Ev.bind hq (Ev.now _)) ?_
    rw [hq2,List.drop_zero,Bool.not_not]
    exact Ev.now _
  | d+1,i,M,h,hM=>by
    have hi:i<N.length:=by omega
    have hw:=wrap_succ i N.length hi (by omega)
    have ih:=fun M' hM'=>shape_loop l hL N hn h0 d (i+1) M' (by omega) hM'
    rw [rdN_at N i hi,shp]
    refine Ev.step (fun k=>by rw [solve_shape.l0,if_pos (by omega),if_pos (by omega),if_pos (by omega)]) ?_
    by_cases c0:(rd_T103 N i).f0=-1
    · rw [if_pos c0]
      refine ev_pos c0 ?_
      unfold lf
      by_cases c1:(rd_T103 N i).f1=0
      · refine ev_pos c1 ?_
        by_cases c2:(rd_T103 N i).f2=0
        · refine ev_pos c2 ?_
          by_cases c3:(rd_T103 N i).f3<0
          · refine ev_pos c3 ?_
            rw [if_neg (by simp;omega)]
            exact Ev.now _
          · refine ev_neg c3 ?_
            by_cases c4:(rd_T103 N i).f3≥(l.length:Int)
            · refine ev_pos c4 ?_
              rw [if_neg (by simp;omega)]
              exact Ev.now _
            · refine ev_neg c4 ?_
              rw [if_pos (by simp;omega),hw]
              exact ih M hM
        · refine ev_neg c2 ?_
          rw [if_neg (by simp;omega)]
          exact Ev.now _
      · refine ev_neg c1 ?_
        rw [if_neg (by simp;omega)]
        exact Ev.now _
    · rw [if_neg c0]
      refine ev_neg c0 ?_
      have hfin:∀ o:Option (List Bool),fin (o.bind (shp l.length N.length (N.drop (i+1)) (i+1)))=match o with|none=>false|some M'=>fin (shp l.length N.length (N.drop (i+1)) (i+1) M'):=fun o=>by cases o <;> rfl
      unfold nd
      by_cases c1:(rd_T103 N i).f0<0
      · refine ev_pos c1 ?_
        rw [if_neg (by simp;omega)]
        exact Ev.now _
      · refine ev_neg c1 ?_
        by_cases c2:(rd_T103 N i).f0≥24
        · refine ev_pos c2 ?_
          rw [if_neg (by simp;omega)]
          exact Ev.now _
        · refine ev_neg c2 ?_
          by_cases c3:(rd_T103 N i).f3=0
          · rw [if_pos (by simp;omega),hfin]
            refine ev_pos c3 (Ev.bind (Ev.now [(rd_T103 N i).f1,(rd_T103 N i).f2]) ?_)
            exact inner_loop l N hn i [(rd_T103 N i).f1,(rd_T103 N i).f2] (by simp) _ (fun M' hM'=>by rw [hw];exact ih M' hM') 2 0 M rfl hM
          · rw [if_neg (by simp;omega)]
            exact ev_neg c3 (Ev.now _)
def shpB (L:Nat) (N:List S103):Bool:=decide (1≤N.length)&&decide (N.length≤2000)&&fin (shp L N.length N 0 (List.replicate N.length false))
theorem shape_ev (l:List S63) (hL:l.length≤1000) (N:List S103):Ev (fun k=>solve_shape.f k l N) (shpB l.length N):=by
  unfold shpB
  by_cases h0:(N.length:Int)=0
  · refine ev_pos h0 ?_
    rw [decide_eq_false (show ¬ 1≤N.length by omega),Bool.false_and,Bool.false_and]
    exact Ev.now _
  · refine ev_neg h0 ?_
    by_cases h1:(N.length:Int)>2000
    · refine ev_pos h1 ?_
      rw [decide_eq_false (show ¬ N.length≤2000 by omega),Bool.and_false,Bool.false_and]
      exact Ev.now _
    · refine ev_neg h1 (ev_pos (by omega) (ev_pos (by omega) ?_))
      rw [decide_eq_true (show 1≤N.length by omega),decide_eq_true (show N.length≤2000 by omega),Bool.true_and,Bool.true_and,Int.toNat_natCast]
      have h:=shape_loop l hL N (by omega) (by omega) N.length 0 (List.replicate N.length false) (by omega) (by simp)
      rwa [List.drop_zero] at h
def vis (l:List S63) (N:List S103):Nat→Nat→Nat→Nat→Option (List Nat)
  | 0,_,_,_=>none
  | k+1,p,C,V=>if p<N.length then (if (rd_T103 N p).f0=-1 then (if lf l.length (rd_T103 N p)=true∧fl (rd_T63 l (rd_T103 N p).f3) C V=true then some [p] else none)
    else if nd (rd_T103 N p)=true∧(p:Int)<(rd_T103 N p).f1∧(p:Int)<(rd_T103 N p).f2∧C.testBit (rd_T103 N p).f0.toNat=false then
      (vis l N k (rd_T103 N p).f1.toNat (wC C (rd_T103 N p).f0) (wV V (rd_T103 N p).f0 false)).bind fun a=>(vis l N k (rd_T103 N p).f2.toNat (wC C (rd_T103 N p).f0) (wV V (rd_T103 N p).f0 true)).bind fun b=>some (p :: (a++b)) else none) else none
theorem bit_of (C:Nat) (hC:C<2 ^ 24) (v:Int) (h0:0≤v) (h1:v<24):Go.bits .and .i64 (shr .i64 (C:Int) v) 1=(((C.testBit v.toNat).toNat:Nat):Int):=by
  have e1:shr .i64 (C:Int) v=((C / 2 ^ v.toNat:Nat):Int):=by
    obtain ⟨n,rfl⟩:∃ n:Nat,v=n:=⟨v.toNat,nat_of h0⟩
    unfold shr
    rw [show IntKind.i64.bits=64 from rfl,show min ((n:Int)).toNat 64=n by omega]
    simp
  rw [e1]
  have hd:C / 2 ^ v.toNat<2 ^ 62:=Nat.lt_of_le_of_lt (Nat.div_le_self _ _) (p62 hC (by decide))
  have:=(bits_nat .i64 62 (by decide) w62 (C / 2 ^ v.toNat) 1 hd (by decide)).1
  rw [Nat.and_one_is_mod,← Nat.toNat_testBit] at this
  exact this
theorem ov_rd {l:List S63} (h:VS l) {i:Int} (h0:0≤i) (h1:i<(l.length:Int)):VT (rd_T63 l i).f0 (rd_T63 l i).f1:=by
  have:=rdT_mem l i.toNat (by omega)
  rw [← nat_of h0] at this
  exact h.tab _ this
def Flds (L:Nat) (N:List S103):Prop:=∀ i:Nat,i<N.length→((rd_T103 N i).f0=-1→lf L (rd_T103 N i)=true)∧((rd_T103 N i).f0≠-1→nd (rd_T103 N i)=true∧(i:Int)<(rd_T103 N i).f1∧(rd_T103 N i).f1<(N.length:Int)∧(i:Int)<(rd_T103 N i).f2∧(rd_T103 N i).f2<(N.length:Int))
theorem lf_iff (L:Nat) (b:S103):lf L b=true↔b.f1=0∧b.f2=0∧0≤b.f3∧b.f3<(L:Int):=by unfold lf;simp [and_assoc]
theorem nd_iff (b:S103):nd b=true↔0≤b.f0∧b.f0<24∧b.f3=0:=by unfold nd;simp [and_assoc]
theorem right_ev {l:List S63} (h:VS l) {N:List S103} (hF:Flds l.length N):∀ (d p C V:Nat),p<N.length→N.length≤p+d→C<2 ^ 24→V<2 ^ 24→
    Ev (fun k=>solve_right.f k l N p (C:Int) (V:Int)) (vis l N d p C V).isSome
  | 0,p,C,V,hp,hd,hC,hV=>by omega
  | d+1,p,C,V,hp,hd,hC,hV=>by
    have hf:=hF p hp
    rw [vis,if_pos hp]
    refine Ev.step (fun k=>by rw [solve_right.f,if_pos (by omega),if_pos (by omega)]) ?_
    by_cases c0:(rd_T103 N p).f0=-1
    · have h1:=(lf_iff _ _).1 (hf.1 c0)
      rw [if_pos c0]
      refine ev_pos (by omega) ?_
      refine ev_pos h1.2.2.1 ?_
      refine ev_pos h1.2.2.2 ?_
      refine Ev.bind (fails_ev (ov_rd h h1.2.2.1 h1.2.2.2) C V hC hV) ?_
      refine ev_eq (Ev.now _) ?_
      by_cases e:fl (rd_T63 l (rd_T103 N p).f3) C V=true
      · rw [if_pos ⟨hf.1 c0,e⟩,e];rfl
      · rw [if_neg (fun e'=>e e'.2),(Bool.not_eq_true _).mp e];rfl
    · obtain ⟨h1,h2,h3,h4,h5⟩:=hf.2 c0
      have h1':=(nd_iff _).1 h1
      have wl:=wC_lt hC h1'.1 h1'.2.1
      have wv:=fun b=>wV_lt b hV h1'.1 h1'.2.1
      rw [if_neg c0]
      refine ev_neg (by omega) ?_
      refine ev_pos h1'.1 ?_
      rw [bit_of C hC _ h1'.1 h1'.2.1]
      cases e:C.testBit (rd_T103 N p).f0.toNat
      · rw [if_pos ⟨h1,h2,h4,rfl⟩]
        refine ev_pos rfl ?_
        have w:=fun b=>with_eq b hC hV h1'.1 h1'.2.1
        refine Ev.bind (show Ev (fun _=>solve_choices_with.f (C:Int) (V:Int) (rd_T103 N p).f0 0) _ from (w false) ▸ Ev.now _) ?_
        have i1:=right_ev h hF d (rd_T103 N p).f1.toNat _ _ (by omega) (by omega) wl (wv false)
        rw [← nat_of (by omega:0≤(rd_T103 N p).f1)] at i1
        refine Ev.bind i1 ?_
        cases v1:vis l N d (rd_T103 N p).f1.toNat (wC C (rd_T103 N p).f0) (wV V (rd_T103 N p).f0 false) with
        | none=>
          refine ev_neg (by decide) ?_
          exact Ev.now _
        | some a=>
          refine ev_pos rfl ?_
          refine Ev.bind (show Ev (fun _=>solve_choices_with.f (C:Int) (V:Int) (rd_T103 N p).f0 1) _ from (w true) ▸ Ev.now _) ?_
          have i2:=right_ev h hF d (rd_T103 N p).f2.toNat _ _ (by omega) (by omega) wl (wv true)
          rw [← nat_of (by omega:0≤(rd_T103 N p).f2)] at i2
          refine Ev.bind i2 ?_
          refine ev_eq (Ev.now _) ?_
          cases v2:vis l N d (rd_T103 N p).f2.toNat (wC C (rd_T103 N p).f0) (wV V (rd_T103 N p).f0 true) <;> simp [v2]
      · rw [if_neg (by rintro ⟨_,_,_,h⟩;cases h)]
        refine ev_neg (by decide) ?_
        exact Ev.now _
theorem mrk_bounds (n i:Nat):∀ (ks:List Int) (M M':List Bool),mrk n i ks M=some M'→∀ k,k∈ks→(i:Int)<k∧k<(n:Int)
  | [],_,_,_=>fun _ hk=>by cases hk
  | x :: ks,M,M',h=>fun k hk=>by
    rw [mrk] at h
    split at h
    · next hc=>
      rcases List.mem_cons.1 hk with rfl|hk
      · exact ⟨hc.1,hc.2.1⟩
      · exact mrk_bounds n i ks _ _ h k hk
    · cases h
theorem shp_flds (L:Nat) (N:List S103):∀ (d i:Nat) (M M':List Bool),i+d=N.length→shp L N.length (N.drop i) i M=some M'→∀ j:Nat,i≤j→j<N.length→((rd_T103 N j).f0=-1→lf L (rd_T103 N j)=true)∧((rd_T103 N j).f0≠-1→nd (rd_T103 N j)=true∧(j:Int)<(rd_T103 N j).f1∧(rd_T103 N j).f1<(N.length:Int)∧(j:Int)<(rd_T103 N j).f2∧(rd_T103 N j).f2<(N.length:Int))
  | 0,i,M,M',h,hs=>fun j h1 h2=>by omega
  | d+1,i,M,M',h,hs=>fun j h1 h2=>by
    have hi:i<N.length:=by omega
    rw [rdN_at N i hi,shp] at hs
    by_cases c0:(rd_T103 N i).f0=-1
    · rw [if_pos c0] at hs
      by_cases c1:lf L (rd_T103 N i)=true
      · rw [if_pos c1] at hs
        by_cases e:j=i
        · subst e;exact ⟨fun _=>c1,fun c=>absurd c0 c⟩
        · exact shp_flds L N d (i+1) M M' (by omega) hs j (by omega) h2
      · rw [if_neg c1] at hs;cases hs
    · rw [if_neg c0] at hs
      by_cases c1:nd (rd_T103 N i)=true
      · rw [if_pos c1] at hs
        cases e2:mrk N.length i [(rd_T103 N i).f1,(rd_T103 N i).f2] M with
        | none=>rw [e2] at hs;cases hs
        | some M1=>
          rw [e2] at hs
          by_cases e:j=i
          · subst e
            have b:=mrk_bounds _ _ _ _ _ e2
            have b1:=b _ (.head _)
            have b2:=b _ (.tail _ (.head _))
            exact ⟨fun c=>absurd c c0,fun _=>⟨c1,b1.1,b1.2,b2.1,b2.2⟩⟩
          · exact shp_flds L N d (i+1) M1 M' (by omega) hs j (by omega) h2
      · rw [if_neg c1] at hs;cases hs
def chk1 (l:List S63) (N:List S103):Bool:=if sysv l=0 then shpB l.length N&&(vis l N N.length 0 0 0).isSome else false
theorem scheck_ev (l:List S63) (hs:Sm l) (hl:l.length≤1000) (N:List S103):Ev (fun k=>solve_Check.f k l N) (chk1 l N):=by
  refine Ev.bind (svalid_ev l hs hl) ?_
  unfold chk1
  refine ev_ite (fun h=>?_) (fun h=>Ev.now _)
  have hv:=(sysv_VS l).1 h
  refine Ev.bind (shape_ev l hl N) ?_
  cases e:shpB l.length N
  · refine ev_neg (by decide) ?_
    exact Ev.now _
  · refine ev_pos rfl ?_
    unfold shpB at e
    simp only [Bool.and_eq_true,decide_eq_true_iff] at e
    cases e2:shp l.length N.length N 0 (List.replicate N.length false) with
    | none=>rw [e2] at e;simp [fin] at e
    | some M=>
      have hF:Flds l.length N:=fun j hj=>shp_flds l.length N N.length 0 _ M (by omega) (by rw [List.drop_zero];exact e2) j (by omega) hj
      refine Ev.bind (right_ev hv hF N.length 0 0 0 (by omega) (by omega) (by decide) (by decide)) ?_
      rw [Bool.true_and]
      exact Ev.now _

theorem ffl_spec (C V:Nat):∀ (l:List S63) (i:Nat),0≤ffl C V l i→∃ j,j<l.length∧ffl C V l i=((i+j:Nat):Int)∧fl (rd_T63 l (j:Int)) C V=true
  | [],i,h=>by simp [ffl] at h
  | t :: ts,i,h=>by
    rw [ffl] at h ⊢
    by_cases e:fl t C V=true
    · rw [if_pos e]
      exact ⟨0,by simp,rfl,e⟩
    · rw [if_neg e] at h ⊢
      obtain ⟨j,h1,h2,h3⟩:=ffl_spec C V ts (i+1) h
      refine ⟨j+1,by simpa using h1,by rw [h2];omega,?_⟩
      rw [show rd_T63 (t :: ts) ((j+1:Nat):Int)=rd_T63 ts (j:Int) by simp [rd_T63,List.getD]]
      exact h3
namespace Tr
def ok (L:Nat):Tr→Prop
  | leaf t=>0≤t∧t<(L:Int)
  | node v a b=>(0≤v∧v<24)∧a.ok L∧b.ok L
end Tr
theorem tree_ok (l:List S63):∀ (vs:List Int) (C V:Nat),(∀ v,v∈vs→0≤v∧v<24)→(tree l vs C V).full=true→(tree l vs C V).ok l.length:=by
  have lfk:∀ C V,0≤ffl C V l 0→(Tr.leaf (ffl C V l 0)).ok l.length:=fun C V h=>by
    obtain ⟨j,h1,h2,_⟩:=ffl_spec C V l 0 h
    exact ⟨h,by rw [h2];omega⟩
  intro vs
  induction vs with
  | nil=>exact fun C V _ hf=>lfk C V (by simpa [tree,Tr.full] using hf)
  | cons v vs ih=>
    intro C V hv hf
    rw [tree] at hf ⊢
    by_cases h:0≤ffl C V l 0
    · rw [if_pos h];exact lfk C V h
    · rw [if_neg h] at hf ⊢
      simp only [Tr.full,Bool.and_eq_true] at hf
      exact ⟨hv v (.head _),ih _ _ (fun w hw=>hv w (.tail _ hw)) hf.1,ih _ _ (fun w hw=>hv w (.tail _ hw)) hf.2⟩
def upto (M:List Bool) (lo hi:Nat):List Bool:=M.mapIdx fun j b=>b||(decide (lo<j)&&decide (j<hi))
theorem upto_len (M:List Bool) (lo hi:Nat):(upto M lo hi).length=M.length:=by simp [upto]
theorem bl_ext {M M':List Bool} (hl:M.length=M'.length) (h:∀ j:Nat,j<M.length→rdOf false M (j:Int)=rdOf false M' (j:Int)):M=M':=by
  apply List.ext_getElem hl
  intro j h1 h2
  have:=h j h1
  simpa [rdOf,List.getD,List.getElem?_eq_getElem h1,List.getElem?_eq_getElem h2] using this
theorem upto_at (M:List Bool) (lo hi j:Nat) (hj:j<M.length):rdOf false (upto M lo hi) (j:Int)=(rdOf false M (j:Int)||(decide (lo<j)&&decide (j<hi))):=by
  have:j<(upto M lo hi).length:=by rw [upto_len];exact hj
  simp [rdOf,List.getD,upto,hj]
theorem std_shp (L n:Nat):∀ (T:Tr) (p:Nat) (M:List Bool) (suf:List S103),T.ok L→M.length=n→p+T.sz≤n→(∀ j:Nat,p<j→j<p+T.sz→rdOf false M (j:Int)=false)→
    shp L n (T.nod p++suf) p M=shp L n suf (p+T.sz) (upto M p (p+T.sz))
  | .leaf t,p,M,suf,ho,hM,hp,hu=>by
    show shp L n (⟨-1,0,0,t⟩ :: suf) p M=_
    rw [shp,if_pos rfl,if_pos ((lf_iff _ _).2 ⟨rfl,rfl,ho.1,ho.2⟩)]
    simp only [Tr.sz]
    congr 1
    refine bl_ext (by rw [upto_len]) (fun j hj=>?_)
    rw [upto_at _ _ _ _ hj]
    rw [show (decide (p<j)&&decide (j<p+1))=false by simp;omega,Bool.or_false]
  | .node v a b,p,M,suf,ho,hM,hp,hu=>by
    obtain ⟨hv,ha,hb⟩:=ho
    have sa:=a.sz_pos
    have sb:=b.sz_pos
    simp only [Tr.sz] at hp hu ⊢
    show shp L n (⟨v,((p+1:Nat):Int),((p+1+a.sz:Nat):Int),0⟩ :: ((a.nod (p+1)++b.nod (p+1+a.sz))++suf)) p M=_
    have h1:=hu (p+1) (by omega) (by omega)
    have h2:rdOf false (M.set (p+1) true) ((p+1+a.sz:Nat):Int)=false:=by
      rw [rdb_set _ _ _ _ (by omega),if_neg (by omega)]
      exact hu _ (by omega) (by omega)
    rw [shp,if_neg (by show ¬ v=-1;omega),if_pos ((nd_iff _).2 ⟨hv.1,hv.2,rfl⟩)]
    have hm:mrk n p [((p+1:Nat):Int),((p+1+a.sz:Nat):Int)] M=some ((M.set (p+1) true).set (p+1+a.sz) true):=by
      rw [mrk,if_pos ⟨by omega,by omega,h1⟩,Int.toNat_natCast,mrk,if_pos ⟨by omega,by omega,h2⟩,Int.toNat_natCast,mrk]
    show (mrk n p [((p+1:Nat):Int),((p+1+a.sz:Nat):Int)] M).bind _=_
    rw [hm,Option.bind_some,List.append_assoc]
    have at1:∀ j:Nat,rdOf false ((M.set (p+1) true).set (p+1+a.sz) true) (j:Int)=if p+1+a.sz=j then true else if p+1=j then true else rdOf false M (j:Int):=fun j=>by
      rw [rdb_set _ _ _ _ (by rw [List.length_set];omega),rdb_set _ _ _ _ (by omega)]
    rw [std_shp L n a (p+1) _ _ ha (by rw [List.length_set,List.length_set];exact hM) (by omega) (fun j k1 k2=>by
      rw [at1,if_neg (by omega),if_neg (by omega)];exact hu j (by omega) (by omega))]
    rw [std_shp L n b (p+1+a.sz) _ _ hb (by rw [upto_len,List.length_set,List.length_set];exact hM) (by omega) (fun j k1 k2=>by
      rw [upto_at _ _ _ _ (by rw [List.length_set,List.length_set];omega),at1,if_neg (by omega),if_neg (by omega),hu j (by omega) (by omega)];simp;omega)]
    rw [show p+(1+a.sz+b.sz)=p+1+a.sz+b.sz by omega]
    congr 1
    refine bl_ext (by simp only [upto_len,List.length_set]) (fun j hj=>?_)
    simp only [upto_len,List.length_set] at hj
    rw [upto_at _ _ _ _ (by simp only [upto_len,List.length_set];exact hj),upto_at _ _ _ _ (by simp only [List.length_set];exact hj),at1,upto_at _ _ _ _ hj]
    by_cases e1:p+1+a.sz=j
    · rw [if_pos e1]
      simp;right;omega
    · rw [if_neg e1]
      by_cases e2:p+1=j
      · rw [if_pos e2]
        simp;right;omega
      · rw [if_neg e2]
        cases rdOf false M (j:Int)
        · simp only [Bool.false_or]
          rw [Bool.eq_iff_iff]
          simp
          omega
        · simp
def Lies (N:List S103) (T:Tr) (p:Nat):Prop:=∃ suf,N.drop p=T.nod p++suf
theorem Lies.lt {N:List S103} {T:Tr} {p:Nat} (h:Lies N T p):p+T.sz≤N.length:=by
  obtain ⟨suf,h⟩:=h
  have:=congrArg List.length h
  rw [List.length_drop,List.length_append,T.nod_len] at this
  have:=T.sz_pos
  omega
theorem Lies.rd {N:List S103} {T:Tr} {p:Nat} (h:Lies N T p):(∀ t,T=.leaf t→rd_T103 N p=⟨-1,0,0,t⟩)∧(∀ v a b,T=.node v a b→rd_T103 N p=⟨v,((p+1:Nat):Int),((p+1+a.sz:Nat):Int),0⟩∧Lies N a (p+1)∧Lies N b (p+1+a.sz)):=by
  have hl:=h.lt
  have hs:=T.sz_pos
  obtain ⟨suf,h⟩:=h
  rw [rdN_at N p (by omega)] at h
  constructor
  · rintro t rfl
    exact (List.cons.inj h).1
  · rintro v a b rfl
    obtain ⟨h1,h2⟩:=List.cons.inj h
    change _=(a.nod (p+1)++b.nod (p+1+a.sz))++suf at h2
    rw [List.append_assoc] at h2
    refine ⟨h1,⟨_,h2⟩,⟨suf,?_⟩⟩
    have:=congrArg (List.drop a.sz) h2
    have e:(a.nod (p+1)).drop a.sz=[]:=List.drop_eq_nil_of_le (by rw [a.nod_len];omega)
    rw [List.drop_drop,List.drop_append_of_le_length (by rw [a.nod_len];omega),e,List.nil_append] at this
    exact this
theorem std_vis {l:List S63} {N:List S103}:∀ (vs:List Int) (k C V p:Nat) (q:Option Int),Chn 24 q vs→Free C V vs→(tree l vs C V).full=true→Lies N (tree l vs C V) p→N.length≤p+k→(vis l N k p C V).isSome=true:=by
  have hleaf:∀ (k C V p:Nat),Lies N (.leaf (ffl C V l 0)) p→0≤ffl C V l 0→(vis l N (k+1) p C V).isSome=true:=fun k C V p h hf=>by
    have hl:=h.lt
    simp only [Tr.sz] at hl
    obtain ⟨j,h1,h2,h3⟩:=ffl_spec C V l 0 hf
    rw [Nat.zero_add] at h2
    rw [vis,if_pos (by omega),h.rd.1 _ rfl,if_pos rfl,if_pos ⟨(lf_iff _ _).2 ⟨rfl,rfl,hf,by show ffl C V l 0<_;rw [h2];omega⟩,by show fl (rd_T63 l (ffl C V l 0)) C V=true;rw [h2];exact h3⟩]
    rfl
  intro vs
  induction vs with
  | nil=>
    intro k C V p q hc hfr hf h hk
    have hl:=h.lt
    simp only [tree,Tr.sz] at hl
    obtain ⟨k,rfl⟩:∃ k',k=k'+1:=⟨k - 1,by omega⟩
    exact hleaf k C V p h (by simpa [tree,Tr.full] using hf)
  | cons v vs ih=>
    intro k C V p q hc hfr hf h hk
    have hl:=h.lt
    have hs:=(tree l (v :: vs) C V).sz_pos
    obtain ⟨k,rfl⟩:∃ k',k=k'+1:=⟨k - 1,by omega⟩
    by_cases hf':0≤ffl C V l 0
    · rw [tree,if_pos hf'] at h
      exact hleaf k C V p h hf'
    · rw [tree,if_neg hf'] at h hf
      simp only [Tr.full,Bool.and_eq_true] at hf
      have hall:∀ w,w∈v :: vs→0≤w:=fun w hw=>(hc.mem w hw).1
      obtain ⟨h1,h2,h3⟩:=h.rd.2 _ _ _ rfl
      have v1:=ih k _ _ _ _ hc.2.2.2 (hfr.step hc hall false) hf.1 h2 (by omega)
      have v2:=ih k _ _ _ _ hc.2.2.2 (hfr.step hc hall true) hf.2 h3 (by omega)
      obtain ⟨x1,e1⟩:=Option.isSome_iff_exists.1 v1
      obtain ⟨x2,e2⟩:=Option.isSome_iff_exists.1 v2
      rw [vis,if_pos (by omega),h1,if_neg (by show ¬ v=-1;have:=hc.1;omega),if_pos ⟨(nd_iff _).2 ⟨hc.1,hc.2.1,rfl⟩,by show (p:Int)<((p+1:Nat):Int);omega,by show (p:Int)<((p+1+_:Nat):Int);omega,hfr.2 v (.head _)⟩]
      simp only [Int.toNat_natCast]
      rw [e1,e2]
      rfl
theorem std_chk {l:List S63} (h:VS l) (hf:(tree l (occ l) 0 0).full=true) (hz:(tree l (occ l) 0 0).sz≤2000):chk1 l ((tree l (occ l) 0 0).nod 0)=true:=by
  have hn:=(tree l (occ l) 0 0).nod_len 0
  have hs:=(tree l (occ l) 0 0).sz_pos
  have hok:=tree_ok l (occ l) 0 0 h.occ' hf
  unfold chk1
  rw [if_pos ((sysv_VS l).2 h),std_vis (occ l) _ 0 0 0 none h.occ.1 ⟨fun j hj=>by simp at hj,fun v _=>by simp⟩ hf ⟨[],by simp⟩ (by omega),Bool.and_true]
  unfold shpB
  rw [hn,decide_eq_true (by omega),decide_eq_true (by omega)]
  have e:=std_shp l.length (tree l (occ l) 0 0).sz (tree l (occ l) 0 0) 0 (List.replicate (tree l (occ l) 0 0).sz false) [] hok (by simp) (by omega) (fun j h1 h2=>by rw [rdOf,List.getD,Int.toNat_natCast,List.getElem?_replicate];split <;> rfl)
  rw [List.append_nil] at e
  rw [e,shp]
  simp only [Bool.and_self,Bool.true_and,fin]
  rw [List.all_eq_true]
  intro x hx
  obtain ⟨j,hj,e2⟩:=List.getElem_of_mem hx
  rw [List.length_drop,upto_len,List.length_replicate] at hj
  rw [List.getElem_drop] at e2
  have:=upto_at (List.replicate (tree l (occ l) 0 0).sz false) 0 (0+(tree l (occ l) 0 0).sz) (1+j) (by simp;omega)
  have h3:1+j<(upto (List.replicate (tree l (occ l) 0 0).sz false) 0 (0+(tree l (occ l) 0 0).sz)).length:=by rw [upto_len];simp;omega
  rw [rdOf,Int.toNat_natCast,List.getD,List.getElem?_eq_getElem h3,Option.getD_some,e2] at this
  rw [this]
  simp
  omega
theorem same_loop (N:List S103) (hn:N.length≤3000):∀ (d i:Nat),i+d=N.length→Ev (fun k=>ancepsref40_Same.l0 k i N N) true
  | 0,i,h=>by
    refine Ev.step (fun k=>by rw [ancepsref40_Same.l0,if_neg (by omega)]) ?_
    exact Ev.now _
  | d+1,i,h=>by
    have hi:i<N.length:=by omega
    have hw:=wrap_succ i N.length hi (by omega)
    refine Ev.step (fun k=>by rw [ancepsref40_Same.l0,if_pos (by omega),if_pos (by omega),if_pos (by omega),hw]) ?_
    refine ev_neg (by simp) ?_
    exact same_loop N hn d (i+1) (by omega)
theorem nsame_ev (N:List S103) (hn:N.length≤3000):Ev (fun k=>ancepsref40_Same.f k N N) true:=ev_pos rfl (same_loop N hn N.length 0 (by omega))
def rfu (l:List S63):List S103×Int:=if sysv l=0 then (if SS l=[] then (if (tree l (occ l) 0 0).sz≤2000 then ((tree l (occ l) 0 0).nod 0,0) else ([],3)) else ([],11)) else ([],sysv l)
theorem free0 (l:List S63):Free 0 0 (occ l):=⟨fun j hj=>by simp at hj,fun v _=>by simp⟩
theorem full0 {l:List S63} (h:VS l) (hn:SS l=[]):(tree l (occ l) 0 0).full=true:=full_of h hn (occ l) 0 0 (fun w hw=>.inr hw) (fun v hv=>hv) (fun j hj=>by simp at hj)
theorem drefute_ev (l:List S63) (hs:Sm l) (hl:l.length≤1000):Ev (fun k=>solve_Refute.f k l) (rfu l):=by
  refine Ev.bind (svalid_ev l hs hl) ?_
  unfold rfu
  refine ev_ite (fun h=>?_) (fun h=>Ev.now _)
  have hv:=(sysv_VS l).1 h
  refine Ev.bind (occ_ev l hs hl) (Ev.bind (allsearch_ev hv) ?_)
  by_cases e:SS l=[]
  · rw [if_pos e]
    refine ev_pos (by rw [e];rfl) ?_
    obtain ⟨q,e1,e2,e3⟩:=split_ev hv (occ l) 0 0 [] (by decide) (by decide) hv.occ' (full0 hv e) (by simp)
    refine Ev.bind e1 (ev_eq (Ev.now _) ?_)
    unfold solve_Refute.of
    rw [List.length_nil,Nat.zero_add] at e2
    by_cases hz:(tree l (occ l) 0 0).sz≤2000
    · rw [decide_eq_true hz] at e2
      rw [if_pos e2,if_pos hz,e3 e2];rfl
    · rw [decide_eq_false hz] at e2
      rw [if_neg (by rw [e2];decide),if_neg hz]
  · rw [if_neg e]
    refine ev_neg (by rw [Int.natCast_eq_zero,List.length_eq_zero_iff];exact e) ?_
    exact Ev.now _
theorem rrefute_ev (l:List S63) (hs:Sm l) (hl:l.length≤1000):Ev (fun k=>ancepsref40_Refute.f k l) (rfu l):=by
  refine Ev.bind (rsvalid_ev l hs hl) ?_
  unfold rfu
  refine ev_ite (fun h=>?_) (fun h=>Ev.now _)
  have hv:=(sysv_VS l).1 h
  refine Ev.bind (rsol_ev hv hs 1 (by decide)) ?_
  by_cases e:SS l=[]
  · rw [if_pos e]
    refine ev_neg (by rw [e];decide) ?_
    refine Ev.bind (rvars_ev hv hs) ?_
    obtain ⟨r,e1,_,_,e4,e5⟩:=rsplit_ev hv (occ l) 0 0 none [] (by decide) (by decide) (free0 l) hv.occ.1 (full0 hv e) (by simp)
    rw [List.length_nil,Nat.zero_add] at e4 e5
    refine Ev.bind e1 ?_
    by_cases hz:(tree l (occ l) 0 0).sz≤2000
    · rw [if_pos hz]
      have:=e4 hz
      rw [List.nil_append] at this
      rw [this]
      refine ev_neg (by rw [Tr.nod_len];omega) ?_
      exact Ev.now _
    · rw [if_neg hz]
      refine ev_pos (by have:=e5 (by omega);omega) ?_
      exact Ev.now _
  · rw [if_neg e]
    refine ev_pos ?_ (Ev.now _)
    cases hS:SS l with
    | nil=>exact absurd hS e
    | cons x xs=>simp
theorem SS_hld {l:List S63} (h:VS l) {x:Int} (hx:x∈SS l):hld l x=true:=by
  have hx':=hx
  unfold SS sl at hx'
  obtain ⟨a,ha,rfl⟩:=List.mem_map.1 hx'
  obtain ⟨h1,h2⟩:=(SS_mem h a).1 hx
  rw [← asgrow_iff h.occ.1] at h2
  have hlt:a<2 ^ 24:=by rw [← h2];exact asg_lt h.occ.1 _
  unfold hld hsS
  rw [if_pos ((sysv_VS l).2 h),if_neg (by omega),if_neg (by omega),Int.toNat_natCast,h2]
  simpa [sat] using h1
theorem clone_eq (l:List Int) (h:l.length<17592186044416):slices_Clone_int_int.f l=some l:=by
  unfold slices_Clone_int_int.f
  simp only [Option.bind_some,List.length_nil,List.nil_append,if_pos (show 0+l.length<17592186044416 by omega)]

def giv (l:List S63) (v x:Int):List S63×Int:=if sysv l=0 then (if v<0 then ([],6) else if v≥24 then ([],6) else if x<0 then ([],6) else if x>1 then ([],6) else if (l.length:Int)=16 then ([],3) else (l++[⟨[v],[x]⟩],0)) else ([],sysv l)
theorem given_loop (l:List S63) (hs:Sm l) (hl:l.length≤1000) (v x:Int):∀ (d i:Nat) (acc:List S63),i+d=l.length→acc.length≤i→Ev (fun k=>solve_Given.l0 k v x acc l l.length i) ((acc++l.drop i)++[⟨[v],[x]⟩],0)
  | 0,i,acc,h,ha=>by
    rw [List.drop_eq_nil_of_le (by omega),List.append_nil]
    exact Ev.step (fun k=>by rw [solve_Given.l0,if_neg (by omega),if_pos (by omega)]) (Ev.now _)
  | d+1,i,acc,h,ha=>by
    have hi:i<l.length:=by omega
    have hw:=wrap_succ i l.length hi (by omega)
    have hm:=hs _ (rdT_mem l i hi)
    have ih:=given_loop l hs hl v x d (i+1) (acc++[rd_T63 l i]) (by omega) (by simp;omega)
    rw [List.append_assoc acc,List.singleton_append,← rdT_at l i hi] at ih
    refine Ev.step (fun k=>?_) ih
    rw [solve_Given.l0,if_pos (by omega),if_pos (by omega),if_pos (by omega),clone_eq _ (by omega),clone_eq _ (by omega),hw]
    simp only [Option.bind_some]
    rw [if_pos (by omega)]
theorem dgiv_ev (l:List S63) (hs:Sm l) (hl:l.length≤1000) (v x:Int):Ev (fun k=>solve_Given.f k l v x) (giv l v x):=by
  refine Ev.bind (svalid_ev l hs hl) (ev_ite (fun _=>ev_ite (fun _=>Ev.now _) (fun _=>ev_ite (fun _=>Ev.now _) (fun _=>ev_ite (fun _=>Ev.now _) (fun _=>ev_ite (fun _=>Ev.now _) (fun _=>ev_ite (fun _=>Ev.now _) (fun _=>?_)))))) (fun _=>Ev.now _))
  have:=given_loop l hs hl v x l.length 0 [] (by omega) (by simp)
  rw [List.drop_zero,List.nil_append] at this
  exact this
theorem rgiv_ev (l:List S63) (hs:Sm l) (hl:l.length≤1000) (v x:Int):Ev (fun k=>ancepsref40_Given.f k l v x) (giv l v x):=by
  refine Ev.bind (rsvalid_ev l hs hl) (ev_ite (fun _=>ev_ite (fun _=>Ev.now _) (fun _=>?_)) (fun _=>Ev.now _))
  have hE:Ev (fun k=>if (l.length:Int)=16 then some ([],3) else (some []).bind fun a=>if (a:List S63).length+l.length<2932031007402 then (some (a++l)).bind fun b=>if b.length<2932031007402 then some (b++[(⟨[v],[x]⟩:S63)],(0:Int)) else none else none) (if (l.length:Int)=16 then ([],3) else (l++[⟨[v],[x]⟩],0)):=by
    refine ev_ite (fun _=>Ev.now _) (fun _=>Ev.bind (Ev.now []) (ev_pos (by simp;omega) (Ev.bind (Ev.now ([]++l)) (ev_pos (by simp;omega) ?_))))
    exact ev_eq (Ev.now _) (by rw [List.nil_append])
  exact ev_ite (fun _=>Ev.now _) (fun _=>ev_ite (fun _=>Ev.now _) (fun _=>ev_ite (fun _=>Ev.now _) (fun _=>hE)))
theorem giv_small {l:List S63} (hs:Sm l) (hl:l.length≤100) (v x:Int):Sm (giv l v x).1∧(giv l v x).1.length≤1000:=by
  have h0:Sm []:=fun t ht=>by simp at ht
  unfold giv
  repeat' split
  all_goals first|exact ⟨h0,by simp⟩|skip
  refine ⟨fun t ht=>?_,by simp;omega⟩
  rcases List.mem_append.1 ht with h|h
  · exact hs t h
  · rw [List.mem_singleton.1 h];exact ⟨by simp,by simp⟩
theorem given_vs {l:List S63} (h:VS l) (h15:l.length≤15) {v:Int} (hv:v∈occ l) (b:Bool):VS (l++[⟨[v],[((b.toNat:Nat):Int)]⟩]):=by
  have h1:=h.occ' v hv
  refine ⟨by rw [List.length_append,List.length_singleton];omega,fun t ht=>?_⟩
  rcases List.mem_append.1 ht with ht|ht
  · exact h.tab t ht
  · rw [List.mem_singleton.1 ht]
    refine ⟨by simp,⟨h1.1,h1.2,(fun q hq=>by cases hq),trivial⟩,?_⟩
    have e:(2 ^ [v].length:Nat)=2:=rfl
    rw [e]
    refine ⟨by cases b <;> decide,by cases b <;> decide,(fun q hq=>by cases hq),trivial⟩
theorem given_occ {l:List S63} (h:VS l) (h15:l.length≤15) {v:Int} (hv:v∈occ l) (b:Bool):occ (l++[⟨[v],[((b.toNat:Nat):Int)]⟩])=occ l:=by
  refine Chn.same (given_vs h h15 hv b).occ.1 h.occ.1 (fun n=>?_)
  rw [(given_vs h h15 hv b).occ.2,h.occ.2]
  have hv':=(h.occ.2 v).1 hv
  unfold flat at hv' ⊢
  rw [List.flatMap_append,List.mem_append]
  constructor
  · rintro (hn|hn)
    · exact hn
    · simp at hn
      rw [hn];exact hv'
  · exact fun hn=>.inl hn
theorem hs_one {v:Int} (b:Bool) (a:Nat):hs [v] [((b.toNat:Nat):Int)] a=(a.testBit v.toNat == b):=by
  have hr:row [v] a=(a.testBit v.toNat).toNat:=by
    have hlt:=row_lt [v] a
    have hb:(row [v] a).testBit 0=a.testBit v.toNat:=by
      rw [Bool.eq_iff_iff,row_bit]
      constructor
      · rintro ⟨w,hw,hb⟩
        simp at hw
        rw [hw];exact hb
      · exact fun hb=>⟨v,rfl,hb⟩
    rw [Nat.testBit_zero] at hb
    have h2:(2:Nat) ^ [v].length=2:=rfl
    rw [h2] at hlt
    cases e:a.testBit v.toNat <;> rw [e] at hb <;> simp at hb ⊢ <;> omega
  unfold hs
  rw [hr]
  cases a.testBit v.toNat <;> cases b <;> decide
theorem given_SS {l:List S63} (h:VS l) (h15:l.length≤15) {v:Int} (hv:v∈occ l) (b:Bool):SS (l++[⟨[v],[((b.toNat:Nat):Int)]⟩])=((sl l (occ l) 0).filter fun a=>a.testBit v.toNat == b).map fun a:Nat=>(a:Int):=by
  unfold SS
  rw [given_occ h h15 hv b]
  unfold sl
  rw [List.filter_filter]
  congr 1
  apply List.filter_congr
  intro a _
  unfold sat
  rw [List.all_append,← hs_one b a,Bool.and_comm]
  simp

theorem eqs_loop (a b:List Int) (hl:a.length=b.length) (hm:(a.length:Int)≤9223372036854775807):∀ (d i:Nat),i+d=a.length→Ev (fun k=>slices_Equal_int_int.l0 k a b a.length i) (decide (a.drop i=b.drop i))
  | 0,i,h=>by
    rw [List.drop_eq_nil_of_le (show a.length≤i by omega),List.drop_eq_nil_of_le (show b.length≤i by omega)]
    exact Ev.step (f:=fun _=>some true) (fun k=>by rw [slices_Equal_int_int.l0,if_neg (by omega)]) (Ev.now _)
  | d+1,i,h=>by
    have hi:i<a.length:=by omega
    have hw:=wrap_succ i a.length hi hm
    have ih:=eqs_loop a b hl hm d (i+1) (by omega)
    rw [rd_at a i hi,rd_at b i (by omega)]
    by_cases e:rd a i=rd b i
    · have:decide (rd a i :: a.drop (i+1)=rd b i :: b.drop (i+1))=decide (a.drop (i+1)=b.drop (i+1)):=decide_eq_decide.2 ⟨fun h=>by injection h,fun h=>by rw [e,h]⟩
      rw [this]
      exact Ev.step (fun k=>by rw [slices_Equal_int_int.l0,if_pos (by omega),if_pos (by omega),if_pos (by omega),if_pos (by omega),if_pos e,hw]) ih
    · have:decide (rd a i :: a.drop (i+1)=rd b i :: b.drop (i+1))=false:=decide_eq_false (fun h=>e (by injection h))
      rw [this]
      exact Ev.step (f:=fun _=>some false) (fun k=>by rw [slices_Equal_int_int.l0,if_pos (by omega),if_pos (by omega),if_pos (by omega),if_pos (by omega),if_neg e]) (Ev.now _)
theorem eqs_ev (a b:List Int) (hm:(a.length:Int)≤9223372036854775807):Ev (fun k=>slices_Equal_int_int.f k a b) (decide (a=b)):=by
  unfold slices_Equal_int_int.f
  by_cases hl:a.length=b.length
  · refine ev_pos (by omega) ?_
    have:=eqs_loop a b hl hm a.length 0 (by omega)
    rw [List.drop_zero,List.drop_zero] at this
    exact this
  · have:decide (a=b)=false:=decide_eq_false (fun h=>hl (by rw [h]))
    rw [this]
    exact ev_neg (by omega) (Ev.now _)
def step (P:List Int→Bool) (out:List (List Int)) (s:List Int):List (List Int):=if (out.any fun o=>o.all fun x=>decide (x∈s))=true then out else if P s=true then out++[s] else out
theorem SS_sat {l:List S63} (h:VS l):SS l≠[]↔∃ a,sat l a=true:=by
  unfold SS sl
  constructor
  · intro hn
    obtain ⟨x,hx⟩:=List.exists_mem_of_ne_nil _ hn
    obtain ⟨a,ha,_⟩:=List.mem_map.1 hx
    exact ⟨a,(List.mem_filter.1 ha).2⟩
  · rintro ⟨a,ha⟩ hn
    have hb:sat l (asg (occ l) (row (occ l) a)||| 0)=true:=by
      rw [Nat.or_zero]
      refine List.all_eq_true.2 (fun t ht=>?_)
      have:=List.all_eq_true.1 ha t ht
      rw [← this]
      exact hs_agree _ _ (fun w hw=>asg_at h.occ.1 a ((h.occ.2 w).2 (List.mem_flatMap.2 ⟨t,ht,hw⟩)))
    have:(asg (occ l) (row (occ l) a)||| 0)∈((List.range (2 ^ (occ l).length)).map fun i=>asg (occ l) i||| 0).filter (sat l):=List.mem_filter.2 ⟨List.mem_map.2 ⟨_,List.mem_range.2 (row_lt _ _),rfl⟩,hb⟩
    rw [List.map_eq_nil_iff] at hn
    rw [hn] at this
    cases this
theorem fst1_err {l:List S63} (h:VS l):(fst1 l).2=0↔∃ a,sat l a=true:=by
  rw [← SS_sat h]
  unfold fst1
  rw [if_pos ((sysv_VS l).2 h)]
  cases SS l with
  | nil=>exact ⟨fun e=>absurd e (by decide),fun e=>absurd rfl e⟩
  | cons x xs=>exact ⟨fun _ e=>(by cases e),fun _=>rfl⟩
def gvl (l:List S63):Int:=if sysv l=0 then (if (l.length:Int)>15 then 3 else 0) else sysv l
theorem gvl_VS {l:List S63} (h:gvl l=0):VS l∧l.length≤15:=by
  unfold gvl at h
  by_cases e:sysv l=0
  · rw [if_pos e] at h
    by_cases e2:(l.length:Int)>15
    · rw [if_pos e2] at h;cases h
    · exact ⟨(sysv_VS l).1 e,by omega⟩
  · rw [if_neg e] at h;exact absurd h e
theorem dgvl_loop (l:List S63) (hs:Sm l) (hl:l.length≤1000):∀ (d i:Nat),i+d=l.length→Ev (fun k=>shared_given.l0 k l l l.length i) (if fstErr (l.drop i)=0 then (if (l.length:Int)>15 then 3 else 0) else fstErr (l.drop i))
  | 0,i,h=>by
    rw [List.drop_eq_nil_of_le (by omega)]
    show Ev (fun k=>shared_given.l0 k l l l.length i) (if (l.length:Int)>15 then 3 else 0)
    have hE:Ev (fun k=>if (l.length:Int)>15 then some 3 else some 0) (if (l.length:Int)>15 then (3:Int) else 0):=ev_ite (fun _=>Ev.now _) (fun _=>Ev.now _)
    exact Ev.step (fun k=>by rw [shared_given.l0,if_neg (by omega)]) hE
  | d+1,i,h=>by
    have hi:i<l.length:=by omega
    have hw:=wrap_succ i l.length hi (by omega)
    have hm:=hs _ (rdT_mem l i hi)
    have ih:=dgvl_loop l hs hl d (i+1) (by omega)
    rw [rdT_at l i hi,fstErr]
    refine Ev.step (fun k=>by rw [shared_given.l0,if_pos (by omega),if_pos (by omega),if_pos (by omega),hw]) (Ev.bind (valid_ev _ _ (by omega) (by omega)) ?_)
    by_cases e:valid (rd_T63 l i).f0 (rd_T63 l i).f1=0
    · rw [if_pos e];exact ev_pos e ih
    · rw [if_neg e,if_neg e];exact ev_neg e (Ev.now _)
theorem dgvl_ev (l:List S63) (hs:Sm l) (hl:l.length≤1000):Ev (fun k=>shared_given.f k l) (gvl l):=by
  unfold gvl sysv
  by_cases e:(l.length:Int)>16
  · rw [if_pos e];exact ev_pos e (Ev.now _)
  · rw [if_neg e]
    have:=dgvl_loop l hs hl l.length 0 (by omega)
    rw [List.drop_zero] at this
    exact ev_neg e this
theorem rgvl_ev (l:List S63) (hs:Sm l) (hl:l.length≤1000):Ev (fun k=>ancepsref41_given.f k l) (gvl l):=
  Ev.bind (rsvalid_ev l hs hl) (ev_ite (fun _=>ev_ite (fun _=>Ev.now _) (fun _=>Ev.now _)) (fun _=>Ev.now _))
theorem tfew_ev (l:List S63):∃ b,Ev (fun k=>ancepsref41_FewTables.f k l) b∧(b=true→Sm l∧l.length≤18):=by
  obtain ⟨b,hb,hq⟩:=sfew_ev l
  cases b with
  | false=>exact ⟨false,Ev.bind hb (ev_neg (by simp) (Ev.now _)),fun h=>by cases h⟩
  | true=>
    obtain ⟨h1,h2⟩:=hq rfl
    by_cases e:sysv l=0
    · exact ⟨_,Ev.bind hb (ev_pos rfl (Ev.bind (rsvalid_ev l h1 (by omega)) (ev_pos e (Ev.bind (rvars_ev ((sysv_VS l).1 e) h1) (Ev.now _))))),fun _=>⟨h1,h2⟩⟩
    · exact ⟨_,Ev.bind hb (ev_pos rfl (Ev.bind (rsvalid_ev l h1 (by omega)) (ev_neg e (Ev.now _)))),fun _=>⟨h1,h2⟩⟩
theorem own_loop (l:List S63) (hs:Sm l) (hl:l.length≤1000):∀ (d i:Nat) (acc:List S63),i+d=l.length→acc.length≤i→Ev (fun k=>ancepslaw41_own.l0 k acc l l.length i) (acc++l.drop i)
  | 0,i,acc,h,ha=>by
    rw [List.drop_eq_nil_of_le (by omega),List.append_nil]
    exact Ev.step (f:=fun _=>some acc) (fun k=>by rw [ancepslaw41_own.l0,if_neg (by omega)]) (Ev.now _)
  | d+1,i,acc,h,ha=>by
    have hi:i<l.length:=by omega
    have hw:=wrap_succ i l.length hi (by omega)
    have hm:=hs _ (rdT_mem l i hi)
    have ih:=own_loop l hs hl d (i+1) (acc++[rd_T63 l i]) (by omega) (by simp;omega)
    rw [List.append_assoc acc,List.singleton_append,← rdT_at l i hi] at ih
    refine Ev.step (fun k=>?_) ih
    rw [ancepslaw41_own.l0,if_pos (by omega),if_pos (by omega),if_pos (by omega),clone_eq _ (by omega),clone_eq _ (by omega),hw]
    simp only [Option.bind_some]
    rw [if_pos (by omega)]
theorem own_ev (l:List S63) (hs:Sm l) (hl:l.length≤1000):Ev (fun k=>ancepslaw41_own.f k l) l:=by
  have:=own_loop l hs hl l.length 0 [] (by omega) (by simp)
  rwa [List.drop_zero,List.nil_append] at this
def wth (l:List S63) (v x:Int):Int×Int:=fst1 (giv l v x).1
theorem dwith_ev (l:List S63) (hs:Sm l) (hl:l.length≤100) (v x:Int):Ev (fun k=>shared_with.f k l v x) ((giv l v x).1,(wth l v x).1,(wth l v x).2 == 0):=by
  obtain ⟨g1,g2⟩:=giv_small hs hl v x
  exact Ev.bind (dgiv_ev l hs (by omega) v x) (Ev.bind (dfirst_ev _ g1 g2) (Ev.now _))
theorem rwith41_ev (l:List S63) (hs:Sm l) (hl:l.length≤100) (v x:Int):Ev (fun k=>ancepsref41_with.f k l v x) ((wth l v x).1,(wth l v x).2 == 0):=by
  obtain ⟨g1,g2⟩:=giv_small hs hl v x
  exact Ev.bind (rgiv_ev l hs (by omega) v x) (Ev.bind (rfirst_ev _ g1 g2) (Ev.now _))
def vl (l:List S63) (v:Int):Int:=if ((wth l v 0).2 == 0)=true then (if ((wth l v 1).2 == 0)=true then 3 else 1) else 2
theorem dvalue_ev (l:List S63) (hs:Sm l) (hl:l.length≤100) (v:Int):Ev (fun k=>shared_value.f k l v) (vl l v):=
  Ev.bind (dwith_ev l hs hl v 0) (Ev.bind (dwith_ev l hs hl v 1) (ev_ite (fun _=>ev_ite (fun _=>Ev.now _) (fun _=>Ev.now _)) (fun _=>Ev.now _)))
def sov (l:List S63):Int:=if gvl l=0 then (if (fst1 l).2=0 then 0 else 12) else gvl l
theorem dsov_ev (l:List S63) (hs:Sm l) (hl:l.length≤1000):Ev (fun k=>shared_solvable.f k l) (sov l):=
  Ev.bind (dgvl_ev l hs hl) (ev_ite (fun _=>Ev.bind (dfirst_ev l hs hl) (ev_ite (fun _=>Ev.now _) (fun _=>Ev.now _))) (fun _=>Ev.now _))
theorem rsov_ev (l:List S63) (hs:Sm l) (hl:l.length≤1000):Ev (fun k=>ancepsref41_solvable.f k l) ((fst1 l).2 == 0):=Ev.bind (rfirst_ev l hs hl) (Ev.now _)
def vlu (l:List S63) (v:Int):Int×Int:=if gvl l=0 then (if v<0 then (0,6) else if v≥24 then (0,6) else if sov l=0 then (if v∈vrs l then (vl l v,0) else (0,4)) else (0,sov l)) else (0,gvl l)
theorem dvlu_ev (l:List S63) (hs:Sm l) (hl:l.length≤100) (v:Int):Ev (fun k=>shared_Value.f k l v) (vlu l v):=by
  have hv:=vrs_len l
  refine Ev.bind (dgvl_ev l hs (by omega)) (ev_ite (fun _=>ev_ite (fun _=>Ev.now _) (fun _=>ev_ite (fun _=>Ev.now _) (fun _=>Ev.bind (dsov_ev l hs (by omega)) (ev_ite (fun _=>Ev.bind (dvars_ev l hs (by omega)) (Ev.bind (contains_ev _ (by omega) _) ?_)) (fun _=>Ev.now _))))) (fun _=>Ev.now _))
  by_cases e:v∈vrs l
  · rw [if_pos e];exact ev_pos (by simpa using e) (Ev.bind (dvalue_ev l hs hl v) (Ev.now _))
  · rw [if_neg e];exact ev_neg (by simpa using e) (Ev.now _)
theorem hs_one' {v:Int} (b:Bool) (a:Nat):hs [v] [((b.toNat:Nat):Int)] a=(a.testBit v.toNat == b):=hs_one b a
theorem wth_iff {l:List S63} (h:VS l) (h15:l.length≤15) {v:Int} (hv:v∈occ l) (b:Bool):(wth l v ((b.toNat:Nat):Int)).2=0↔∃ a,sat l a=true∧a.testBit v.toNat=b:=by
  have h1:=h.occ' v hv
  have e:(giv l v ((b.toNat:Nat):Int)).1=l++[⟨[v],[((b.toNat:Nat):Int)]⟩]:=by
    have hb:0≤((b.toNat:Nat):Int)∧((b.toNat:Nat):Int)≤1:=by cases b <;> decide
    unfold giv
    rw [if_pos ((sysv_VS l).2 h),if_neg (by omega),if_neg (by omega),if_neg (by omega),if_neg (by omega),if_neg (by omega)]
  unfold wth
  rw [e,fst1_err (given_vs h h15 hv b)]
  have k:∀ a,sat (l++[⟨[v],[((b.toNat:Nat):Int)]⟩]) a=true↔sat l a=true∧a.testBit v.toNat=b:=fun a=>by
    unfold sat
    rw [List.all_append,Bool.and_eq_true,List.all_cons,List.all_nil,Bool.and_true]
    show _∧hs [v] [((b.toNat:Nat):Int)] a=true↔_
    rw [hs_one',beq_iff_eq]
  exact ⟨fun ⟨a,ha⟩=>⟨a,(k a).1 ha⟩,fun ⟨a,ha⟩=>⟨a,(k a).2 ha⟩⟩
structure Md (l:List S63):Prop where
  len:l.length≤6
  tab:∀ t,t∈l→VT t.f0 t.f1∧Chn 8 none t.f0
theorem Md.vs {l:List S63} (h:Md l):VS l:=⟨by have:=h.len;omega,fun t ht=>(h.tab t ht).1⟩
theorem vs_sm {l:List S63} (h:VS l):Sm l:=fun t ht=>by
  have h1:=(h.tab t ht).len
  have h2:=(h.tab t ht).rows_len
  omega
def cmp (vs rs:List Int):List Int:=flt (fun m=>!decide ((m:Int)∈rs)) (2 ^ vs.length) 0
def imp (l:List S63) (vs rs:List Int):Bool×Int:=if gvl l=0 then (if valid vs rs=0 then ((fst1 (l++[⟨vs,cmp vs rs⟩])).2 != 0,0) else (false,valid vs rs)) else (false,gvl l)
theorem clonel {l:List S63} (h:l.length≤1000):api_Table_59.f l=some l:=by
  unfold api_Table_59.f
  rw [Option.bind_some,if_pos (by simp;omega),List.nil_append]
theorem clonel_ev {l:List S63} (h:l.length≤1000):Ev (fun _=>api_Table_59.f l) l:=by
  rw [clonel h]
  exact Ev.now _
theorem sm_add {l:List S63} (hs:Sm l) {vs rs:List Int} (h1:vs.length≤1030) (h2:rs.length≤1030):Sm (l++[⟨vs,rs⟩]):=fun t ht=>by
  rcases List.mem_append.1 ht with h|h
  · exact hs t h
  · rw [List.mem_singleton.1 h];exact ⟨h1,h2⟩
theorem cmp_len {vs rs:List Int} (h:vs.length≤10):(cmp vs rs).length≤1024:=Nat.le_trans (flt_len _ _ _) (pow10 h)
theorem dimp_loop (l:List S63) (hs:Sm l) (hl:l.length≤100) {vs rs:List Int} (h:VT vs rs):∀ (d i:Nat) (acc:List Int),i+d=2 ^ vs.length→acc.length≤i→acc++flt (fun m=>!decide ((m:Int)∈rs)) d i=cmp vs rs→
    Ev (fun k=>shared_Implied.l0 k l acc ((2 ^ vs.length:Nat):Int) i vs rs) ((fst1 (l++[⟨vs,cmp vs rs⟩])).2 != 0,0)
  | 0,i,acc,hd,ha,e=>by
    rw [flt,List.append_nil] at e
    rw [e]
    have h10:=h.len
    have hc:=cmp_len (rs:=rs) h10
    refine Ev.step (fun k=>by rw [shared_Implied.l0,if_neg (by omega)]) (Ev.bind (clonel_ev (l:=l) (by omega)) (Ev.bind (Ev.now ([⟨vs,cmp vs rs⟩]:List S63)) (ev_pos (show l.length+([⟨vs,cmp vs rs⟩]:List S63).length<2932031007402 by simp;omega) (Ev.bind (dfirst_ev (l++[⟨vs,cmp vs rs⟩]) (sm_add hs (by omega) (by omega)) (by simp;omega)) ?_))))
    exact Ev.now _
  | d+1,i,acc,hd,ha,e=>by
    have h10:=pow10 h.len
    have hw:=wrap_succ i (2 ^ vs.length) (by omega) (by omega)
    have hr:=h.rows_len
    rw [flt] at e
    refine Ev.step (fun k=>by rw [shared_Implied.l0,if_pos (by omega),hw]) (Ev.bind (contains_ev _ (by omega) _) ?_)
    by_cases c:(i:Int)∈rs
    · rw [if_neg (by simpa using c)] at e
      exact ev_pos (by simpa using c) (dimp_loop l hs hl h d (i+1) acc (by omega) (by omega) e)
    · rw [if_pos (by simpa using c)] at e
      refine ev_neg (by simpa using c) (Ev.bind (Ev.now [(i:Int)]) (ev_pos (by simp;omega) (dimp_loop l hs hl h d (i+1) _ (by omega) (by simp;omega) ?_)))
      rw [List.append_assoc];exact e
theorem dimp_ev (l:List S63) (hs:Sm l) (hl:l.length≤100) (vs rs:List Int) (h1:vs.length≤1030) (h2:rs.length≤1030):Ev (fun k=>shared_Implied.f k l vs rs) (imp l vs rs):=by
  refine Ev.bind (dgvl_ev l hs (by omega)) (ev_ite (fun _=>Ev.bind (valid_ev _ _ (by omega) (by omega)) (ev_ite (fun hv=>?_) (fun _=>Ev.now _))) (fun _=>Ev.now _))
  have h:=(valid_VT vs rs).1 hv
  have:=dimp_loop l hs hl h (2 ^ vs.length) 0 [] (by omega) (by simp) (by rw [List.nil_append];rfl)
  rw [← shl1 vs.length (by have:=h.len;omega)] at this
  exact this
def lk (l:List S63) (a b:Int):List S53:=(if (fst1 (l++[⟨[a,b],[1,2]⟩])).2=10 then [⟨a,b,true⟩] else [])++(if (fst1 (l++[⟨[a,b],[0,3]⟩])).2=10 then [⟨a,b,false⟩] else [])
theorem lk_len (l:List S63) (a b:Int):(lk l a b).length≤2:=by
  unfold lk
  rw [List.length_append]
  split <;> split <;> simp
theorem lk2_ev {l:List S63} (hs:Sm l) (hl:l.length≤100) (a b:Int) (out:List S53) (ho:out.length≤1000000) (x5 x24:List Int) (x25 x26:Int) (x34:List Int) (x35 x36:Int) {r:List S53×Int}
    (H:Ev (fun k=>shared_Linked.l1 k x5 (out++lk l a b) a x24 x25 x26 x34 x35 (wrap64 (x36+1)) l) r):Ev (fun k=>shared_Linked.l2 k x5 out a b x24 x25 x26 x34 x35 x36 [true,false] (([true,false]:List Bool).length:Int) 0 l) r:=by
  have hl':l.length<2932031007402:=by omega
  have hw1:wrap64 (1+1)=2:=by rw [w64_in _ (by decide)];rfl
  have hw0:wrap64 (0+1)=1:=by rw [w64_in _ (by decide)];rfl
  have f1:=dfirst_ev (l++[⟨[a,b],[1,2]⟩]) (sm_add hs (by simp) (by simp)) (by simp;omega)
  have f2:=dfirst_ev (l++[⟨[a,b],[0,3]⟩]) (sm_add hs (by simp) (by simp)) (by simp;omega)
  have e2:∀ o:List S53,Ev (fun k=>shared_Linked.l1 k x5 o a x24 x25 x26 x34 x35 (wrap64 (x36+1)) l) r→Ev (fun k=>shared_Linked.l2 k x5 o a b x24 x25 x26 x34 x35 x36 [true,false] (([true,false]:List Bool).length:Int) 2 l) r:=fun o h=>Ev.step (fun k=>by rw [shared_Linked.l2,if_neg (by decide)]) h
  have e1:∀ o:List S53,o.length≤1000001→Ev (fun k=>shared_Linked.l1 k x5 (o++(if (fst1 (l++[⟨[a,b],[0,3]⟩])).2=10 then [⟨a,b,false⟩] else [])) a x24 x25 x26 x34 x35 (wrap64 (x36+1)) l) r→Ev (fun k=>shared_Linked.l2 k x5 o a b x24 x25 x26 x34 x35 x36 [true,false] (([true,false]:List Bool).length:Int) 1 l) r:=fun o ho h=>by
    refine Ev.step (fun k=>by rw [shared_Linked.l2,if_pos (by decide),if_pos (by decide),if_pos (by decide),hw1]) (Ev.bind (clonel_ev (l:=l) (by omega)) (Ev.bind (show Ev (fun k=>shared_both.f a b (!(rdOf false [true,false] 1))) ([a,b],[0,3]) from Ev.now _) (ev_pos hl' (Ev.bind f2 ?_))))
    by_cases c:(fst1 (l++[⟨[a,b],[0,3]⟩])).2=10
    · rw [if_pos c] at h
      exact ev_pos c (ev_pos (show o.length<5864062014805 by omega) (e2 _ h))
    · rw [if_neg c,List.append_nil] at h
      exact ev_neg c (e2 _ h)
  refine Ev.step (fun k=>by rw [shared_Linked.l2,if_pos (by decide),if_pos (by decide),if_pos (by decide),hw0]) (Ev.bind (clonel_ev (l:=l) (by omega)) (Ev.bind (show Ev (fun k=>shared_both.f a b (!(rdOf false [true,false] 0))) ([a,b],[1,2]) from Ev.now _) (ev_pos hl' (Ev.bind f1 ?_))))
  unfold lk at H
  rw [← List.append_assoc] at H
  by_cases c:(fst1 (l++[⟨[a,b],[1,2]⟩])).2=10
  · rw [if_pos c] at H
    exact ev_pos c (ev_pos (show out.length<5864062014805 by omega) (e1 _ (by simp;omega) H))
  · rw [if_neg c,List.append_nil] at H
    exact ev_neg c (e1 _ (by omega) H)
theorem lk1_ev {l:List S63} (hs:Sm l) (hl:l.length≤100) (a:Int) (ys:List Int) (hy:ys.length≤1000) (x5 x24:List Int) (x25 x26:Int) {r:List S53×Int}:∀ (d j:Nat) (out:List S53),j+d=ys.length→out.length+2 * d≤1000000→
    Ev (fun k=>shared_Linked.l0 k x5 (out++(ys.drop j).flatMap (lk l a)) x24 x25 (wrap64 (x26+1)) l) r→Ev (fun k=>shared_Linked.l1 k x5 out a x24 x25 x26 ys ys.length j l) r
  | 0,j,out,h,ho,H=>by
    rw [List.drop_eq_nil_of_le (by omega),List.flatMap_nil,List.append_nil] at H
    exact Ev.step (fun k=>by rw [shared_Linked.l1,if_neg (by omega)]) H
  | d+1,j,out,h,ho,H=>by
    have hj:j<ys.length:=by omega
    have hw:=wrap_succ j ys.length hj (by omega)
    have h2:=lk_len l a (rd ys j)
    rw [rd_at ys j hj,List.flatMap_cons,← List.append_assoc] at H
    have ih:=lk1_ev hs hl a ys hy x5 x24 x25 x26 d (j+1) (out++lk l a (rd ys j)) (by omega) (by rw [List.length_append];omega) H
    rw [← hw] at ih
    exact Ev.step (fun k=>by rw [shared_Linked.l1,if_pos (by omega),if_pos (by omega),if_pos (by omega)]) (Ev.bind (Ev.now [true,false]) (lk2_ev hs hl a (rd ys j) out (by omega) x5 x24 x25 x26 ys ys.length j ih))
def lks (l:List S63):List Int→List S53
  | []=>[]
  | a :: vs=>vs.flatMap (lk l a)++lks l vs
theorem lk_flat (l:List S63) (a:Int):∀ ys:List Int,(ys.flatMap (lk l a)).length≤2 * ys.length
  | []=>by simp
  | y :: ys=>by
    have:=lk_flat l a ys
    have:=lk_len l a y
    rw [List.flatMap_cons,List.length_append,List.length_cons]
    omega
theorem lk0_ev {l:List S63} (hs:Sm l) (hl:l.length≤100) (vs:List Int) (hv:vs.length≤100):∀ (d i:Nat) (out:List S53),i+d=vs.length→out.length+200 * d≤900000→
    Ev (fun k=>shared_Linked.l0 k vs out vs vs.length i l) (out++lks l (vs.drop i),0)
  | 0,i,out,h,ho=>by
    rw [List.drop_eq_nil_of_le (by omega),lks,List.append_nil]
    exact Ev.step (f:=fun _=>some (out,0)) (fun k=>by rw [shared_Linked.l0,if_neg (by omega)]) (Ev.now _)
  | d+1,i,out,h,ho=>by
    have hi:i<vs.length:=by omega
    have hw:=wrap_succ i vs.length hi (by omega)
    have h2:=lk_flat l (rd vs i) (vs.drop (i+1))
    rw [List.length_drop] at h2
    rw [rd_at vs i hi,lks,← List.append_assoc]
    have ih:=lk0_ev hs hl vs hv d (i+1) (out++(vs.drop (i+1)).flatMap (lk l (rd vs i))) (by omega) (by rw [List.length_append];omega)
    have hl1:=lk1_ev hs hl (rd vs i) (vs.drop (i+1)) (by rw [List.length_drop];omega) vs vs vs.length i (vs.drop (i+1)).length 0 out (by omega) (by rw [List.length_drop];omega) (r:=(out++(vs.drop (i+1)).flatMap (lk l (rd vs i))++lks l (vs.drop (i+1)),0)) (by rw [List.drop_zero,hw];exact ih)
    refine Ev.step (fun k=>by rw [shared_Linked.l0,if_pos (by omega),if_pos (by omega),if_pos (by omega),hw,if_pos (by omega),if_pos (by omega),show (((i+1:Nat):Int)).toNat=i+1 from rfl]) (Ev.bind (Ev.now (vs.drop (i+1))) hl1)
theorem open_loop {l:List S63} (hs:Sm l) (hl:l.length≤100) (vs:List Int) (hv:vs.length≤1000) (ho:∀ v,v∈vs→vl l v=3):∀ (d i:Nat),i+d=vs.length→Ev (fun k=>slices_IndexFunc_int_int_shared_Linked_1.l0 k vs vs.length i l) (-1)
  | 0,i,h=>Ev.step (f:=fun _=>some (-1)) (fun k=>by rw [slices_IndexFunc_int_int_shared_Linked_1.l0,if_neg (by omega)]) (Ev.now _)
  | d+1,i,h=>by
    have hi:i<vs.length:=by omega
    have hw:=wrap_succ i vs.length hi (by omega)
    have h3:=ho _ (rd_mem vs i hi)
    have hc:Ev (fun k=>shared_Linked_1_v1.f k (rd vs i) l) false:=by
      have:=Ev.bind (f:=fun _ t=>some (t != 3)) (dvalue_ev l hs hl (rd vs i)) (Ev.now _)
      rw [h3] at this
      exact this
    exact Ev.step (fun k=>by rw [slices_IndexFunc_int_int_shared_Linked_1.l0,if_pos (by omega),if_pos (by omega),if_pos (by omega),hw]) (Ev.bind hc (ev_neg Bool.false_ne_true (open_loop hs hl vs hv ho d (i+1) (by omega))))
def occC (l:List S63):List Int:=flt (fun m=>decide ((m:Int)∈flat l)) 24 0
theorem occ_c {l:List S63} (h:VS l):occ l=occC l:=by
  have hc:=flt_chn (fun m=>decide ((m:Int)∈flat l)) 24 0 none (fun q hq=>by cases hq)
  refine Chn.same h.occ.1 hc (fun n=>?_)
  rw [h.occ.2]
  unfold occC
  rw [flt_mem]
  constructor
  · intro hn
    have:=h.flat n hn
    exact ⟨n.toNat,by omega,by omega,by rw [← nat_of this.1];simpa using hn,nat_of this.1⟩
  · rintro ⟨m,_,_,hm,rfl⟩
    simpa using hm
def fst1C (l:List S63):Int×Int:=if sysv l=0 then solve_First.of ((sl l (occC l) 0).map fun a:Nat=>(a:Int)) else (0,sysv l)
theorem fst1_c (l:List S63):fst1 l=fst1C l:=by
  unfold fst1 fst1C SS
  by_cases e:sysv l=0
  · rw [if_pos e,if_pos e,occ_c ((sysv_VS l).1 e)]
  · rw [if_neg e,if_neg e]
def E2:List S63:=[⟨[0,1],[1,2]⟩,⟨[1,2],[0,3]⟩]
def E3:List S63:=[⟨[0,1],[1,2]⟩,⟨[1,2],[0,3]⟩,⟨[0],[1]⟩]
def K0:List S63:=[⟨[0,1],[1,2]⟩,⟨[1,2],[0,3]⟩,⟨[0],[1]⟩,⟨[0],[0]⟩]
def K1:List S63:=[⟨[0,1],[1,2]⟩,⟨[1,2],[0,3]⟩,⟨[0],[1]⟩,⟨[1],[1]⟩]
def K2:List S63:=[⟨[0,1],[1,2]⟩,⟨[1,2],[0,3]⟩,⟨[0],[1]⟩,⟨[2],[1]⟩]
theorem E2_vs:VS E2:=(sysv_VS _).1 (by decide)
theorem E3_vs:VS E3:=(sysv_VS _).1 (by decide)
theorem K0_vs:VS K0:=(sysv_VS _).1 (by decide)
theorem K1_vs:VS K1:=(sysv_VS _).1 (by decide)
theorem K2_vs:VS K2:=(sysv_VS _).1 (by decide)
theorem E2_occ:occ E2=[0,1,2]:=(occ_c E2_vs).trans (by kernel_rfl)
theorem E3_occ:occ E3=[0,1,2]:=(occ_c E3_vs).trans (by kernel_rfl)
def N0:List S103:=((solve_split.f 60 K0 [0,1,2] 0 0 []).getD ([],false)).1
def N1:List S103:=((solve_split.f 60 K1 [0,1,2] 0 0 []).getD ([],false)).1
def N2:List S103:=((solve_split.f 60 K2 [0,1,2] 0 0 []).getD ([],false)).1
theorem ref_c {K:List S63} (h:VS K) {vs:List Int} (ho:occ K=vs) {N:List S103} (hn:solve_search.f 60 K vs 0 0=some []) (hp:solve_split.f 60 K vs 0 0 []=some (N,true)):Ev (fun k=>solve_Refute.f k K) (N,0):=by
  have v:=ev_eq (svalid_ev K (vs_sm h) (by have:=h.len;omega)) ((sysv_VS _).2 h)
  have o:Ev (fun k=>solve_occurring.f k K) vs:=ev_eq (occ_ev K (vs_sm h) (by have:=h.len;omega)) ho
  have s:Ev (fun k=>solve_search.f k K vs 0 0) []:=Ev.of (fun k=>solve_search.mono _ _ _ _ k) (k:=60) hn
  have p:Ev (fun k=>solve_split.f k K vs 0 0 []) (N,true):=Ev.of (fun k=>solve_split.mono _ _ _ _ _ k) (k:=60) hp
  exact Ev.bind v (ev_pos rfl (Ev.bind o (Ev.bind s (ev_pos rfl (Ev.bind p (Ev.now _))))))
theorem chk_c {K:List S63} (h:VS K) {N:List S103} (h1:solve_shape.f 200 K N=some true) (h2:solve_right.f 200 K N 0 0 0=some true):Ev (fun k=>solve_Check.f k K N) true:=by
  have v:=ev_eq (svalid_ev K (vs_sm h) (by have:=h.len;omega)) ((sysv_VS _).2 h)
  have a:Ev (fun k=>solve_shape.f k K N) true:=Ev.of (fun k=>solve_shape.mono _ _ k) (k:=200) h1
  have b:Ev (fun k=>solve_right.f k K N 0 0 0) true:=Ev.of (fun k=>solve_right.mono _ _ _ _ _ k) (k:=200) h2
  exact Ev.bind v (ev_pos rfl (Ev.bind a (ev_pos rfl (Ev.bind b (Ev.now _)))))
def X3:List S42:=[⟨0,2,1,0,0,⟨N0⟩⟩,⟨1,1,1,0,0,⟨N1⟩⟩,⟨2,1,1,0,0,⟨N2⟩⟩]
theorem vl_E2:∀ v,v∈[0,1,2]→vl E2 v=3:=by
  intro v hv
  simp only [List.mem_cons,List.not_mem_nil,or_false] at hv
  rcases hv with rfl|rfl|rfl <;> (unfold vl wth;rw [fst1_c,fst1_c];kernel_rfl)
theorem linked_E2:Ev (fun k=>shared_Linked.f k E2) ([⟨0,1,false⟩,⟨0,2,false⟩,⟨1,2,true⟩],0):=by
  have hs:=vs_sm E2_vs
  have s:sov E2=0:=by unfold sov;rw [fst1_c];kernel_rfl
  have v:Ev (fun k=>solve_Vars.f k E2) [0,1,2]:=ev_eq (dvars_ev E2 hs (by decide)) (by unfold vrs;rw [E2_occ];kernel_rfl)
  have i:=open_loop hs (by decide) [0,1,2] (by decide) vl_E2 3 0 rfl
  have k0:=lk0_ev hs (by decide) [0,1,2] (by decide) 3 0 [] rfl (by decide)
  refine Ev.bind (dsov_ev E2 hs (by decide)) (ev_pos s (Ev.bind v (Ev.bind (show Ev (fun k=>slices_DeleteFunc_int_int_shared_Linked_1.f k [0,1,2] E2) [0,1,2] from Ev.bind i (ev_pos rfl (Ev.now _))) (ev_eq k0 ?_))))
  show ([]++lks E2 [0,1,2],(0:Int))=_
  unfold lks lks lks lks
  simp only [List.flatMap_cons,List.flatMap_nil]
  unfold lk
  simp only [fst1_c]
  kernel_rfl
theorem with_c {l:List S63} (hs:Sm l) (hl:l.length≤100) {v x:Int} {q:List S63×Int×Bool} (h:((giv l v x).1,(fst1C (giv l v x).1).1,(fst1C (giv l v x).1).2 == 0)=q):Ev (fun k=>shared_with.f k l v x) q:=ev_eq (dwith_ev l hs hl v x) (by unfold wth;rw [fst1_c];exact h)
theorem all_E3:Ev (fun k=>shared_All.f k E3) (X3,0):=by
  have hs:=vs_sm E3_vs
  have s:sov E3=0:=by unfold sov;rw [fst1_c];kernel_rfl
  have v:Ev (fun k=>solve_Vars.f k E3) [0,1,2]:=ev_eq (dvars_ev E3 hs (by decide)) (by unfold vrs;rw [E3_occ];kernel_rfl)
  have r0:Ev (fun k=>solve_Refute.f k K0) (N0,0):=ref_c K0_vs ((occ_c K0_vs).trans (by kernel_rfl:occC K0=[0,1,2])) (by kernel_rfl) (by kernel_rfl)
  have r1:Ev (fun k=>solve_Refute.f k K1) (N1,0):=ref_c K1_vs ((occ_c K1_vs).trans (by kernel_rfl:occC K1=[0,1,2])) (by kernel_rfl) (by kernel_rfl)
  have r2:Ev (fun k=>solve_Refute.f k K2) (N2,0):=ref_c K2_vs ((occ_c K2_vs).trans (by kernel_rfl:occC K2=[0,1,2])) (by kernel_rfl) (by kernel_rfl)
  have w00:Ev (fun k=>shared_with.f k E3 0 0) (K0,0,false):=with_c hs (by decide) (by kernel_rfl)
  have w01:Ev (fun k=>shared_with.f k E3 0 1) (E3++[⟨[0],[1]⟩],1,true):=with_c hs (by decide) (by kernel_rfl)
  have w10:Ev (fun k=>shared_with.f k E3 1 0) (E3++[⟨[1],[0]⟩],1,true):=with_c hs (by decide) (by kernel_rfl)
  have w11:Ev (fun k=>shared_with.f k E3 1 1) (K1,0,false):=with_c hs (by decide) (by kernel_rfl)
  have w20:Ev (fun k=>shared_with.f k E3 2 0) (E3++[⟨[2],[0]⟩],1,true):=with_c hs (by decide) (by kernel_rfl)
  have w21:Ev (fun k=>shared_with.f k E3 2 1) (K2,0,false):=with_c hs (by decide) (by kernel_rfl)
  have e0:Ev (fun k=>shared_evidence.f k E3 0) (0,2,1,0,0,N0,0):=Ev.bind w00 (Ev.bind w01 (ev_neg (by decide) (Ev.bind r0 (Ev.now _))))
  have e1:Ev (fun k=>shared_evidence.f k E3 1) (1,1,1,0,0,N1,0):=Ev.bind w10 (Ev.bind w11 (ev_pos rfl (ev_neg (by decide) (Ev.bind r1 (Ev.now _)))))
  have e2:Ev (fun k=>shared_evidence.f k E3 2) (2,1,1,0,0,N2,0):=Ev.bind w20 (Ev.bind w21 (ev_pos rfl (ev_neg (by decide) (Ev.bind r2 (Ev.now _)))))
  have x2:rd [0,1,2] ((2:Nat):Int)=2:=rfl
  have x1:rd [0,1,2] ((1:Nat):Int)=1:=rfl
  have x0:rd [0,1,2] ((0:Nat):Int)=0:=rfl
  have l3:Ev (fun k=>shared_All.l0 k E3 X3 [0,1,2] (([0,1,2]:List Int).length:Int) ((3:Nat):Int)) (X3,0):=Ev.step (f:=fun _=>some (X3,0)) (fun k=>by rw [shared_All.l0,if_neg (by decide)]) (Ev.now _)
  have l2:Ev (fun k=>shared_All.l0 k E3 (X3.take 2) [0,1,2] (([0,1,2]:List Int).length:Int) ((2:Nat):Int)) (X3,0):=Ev.step (fun k=>by rw [shared_All.l0,if_pos (by decide),if_pos (by decide),if_pos (by decide),wrap_succ 2 3 (by decide) (by decide),x2]) (Ev.bind e2 (ev_pos rfl (ev_pos (show (X3.take 2).length<2199023255552 by decide) l3)))
  have l1:Ev (fun k=>shared_All.l0 k E3 (X3.take 1) [0,1,2] (([0,1,2]:List Int).length:Int) ((1:Nat):Int)) (X3,0):=Ev.step (fun k=>by rw [shared_All.l0,if_pos (by decide),if_pos (by decide),if_pos (by decide),wrap_succ 1 3 (by decide) (by decide),x1]) (Ev.bind e1 (ev_pos rfl (ev_pos (show (X3.take 1).length<2199023255552 by decide) l2)))
  have l0:Ev (fun k=>shared_All.l0 k E3 [] [0,1,2] (([0,1,2]:List Int).length:Int) ((0:Nat):Int)) (X3,0):=Ev.step (fun k=>by rw [shared_All.l0,if_pos (by decide),if_pos (by decide),if_pos (by decide),wrap_succ 0 3 (by decide) (by decide),x0]) (Ev.bind e0 (ev_pos rfl (ev_pos (show ([]:List S42).length<2199023255552 by decide) l1)))
  exact Ev.bind (dsov_ev E3 hs (by decide)) (ev_pos s (Ev.bind v l0))
theorem check_E3:Ev (fun k=>shared_Check.f k E3 X3) true:=by
  have hs:=vs_sm E3_vs
  have g:gvl E3=0:=by decide
  have v:Ev (fun k=>solve_Vars.f k E3) [0,1,2]:=ev_eq (dvars_ev E3 hs (by decide)) (by unfold vrs;rw [E3_occ];kernel_rfl)
  have f:Ev (fun k=>solve_First.f k E3) (1,0):=ev_eq (dfirst_ev E3 hs (by decide)) (by rw [fst1_c];kernel_rfl)
  have q:=sequal_ev [0,1,2] (by decide)
  have hh:Ev (fun k=>solve_Holds.f k E3 1) true:=ev_eq (dhold_ev E3 hs (by decide) 1) (by unfold hld hsS;rw [E3_occ];kernel_rfl)
  have g0:Ev (fun k=>solve_Given.f k E3 0 (wrap64 (2 - 2))) (K0,0):=ev_eq (dgiv_ev E3 hs (by decide) 0 _) (by kernel_rfl)
  have g1:Ev (fun k=>solve_Given.f k E3 1 (wrap64 (2 - 1))) (K1,0):=ev_eq (dgiv_ev E3 hs (by decide) 1 _) (by kernel_rfl)
  have g2:Ev (fun k=>solve_Given.f k E3 2 (wrap64 (2 - 1))) (K2,0):=ev_eq (dgiv_ev E3 hs (by decide) 2 _) (by kernel_rfl)
  have c0:Ev (fun k=>solve_Check.f k K0 N0) true:=chk_c K0_vs (by kernel_rfl) (by kernel_rfl)
  have c1:Ev (fun k=>solve_Check.f k K1 N1) true:=chk_c K1_vs (by kernel_rfl) (by kernel_rfl)
  have c2:Ev (fun k=>solve_Check.f k K2 N2) true:=chk_c K2_vs (by kernel_rfl) (by kernel_rfl)
  have r0:Ev (fun k=>shared_right.f k E3 0 2 1 0 0 N0) true:=ev_neg (by decide) (ev_neg (by decide) (ev_pos rfl (Ev.bind g0 (ev_pos rfl (ev_pos rfl (ev_pos rfl (Ev.bind hh (ev_pos rfl (Ev.bind c0 (Ev.now _))))))))))
  have r1:Ev (fun k=>shared_right.f k E3 1 1 1 0 0 N1) true:=ev_neg (by decide) (ev_pos rfl (Ev.bind g1 (ev_pos rfl (ev_pos rfl (ev_pos rfl (Ev.bind hh (ev_pos rfl (Ev.bind c1 (Ev.now _)))))))))
  have r2:Ev (fun k=>shared_right.f k E3 2 1 1 0 0 N2) true:=ev_neg (by decide) (ev_pos rfl (Ev.bind g2 (ev_pos rfl (ev_pos rfl (ev_pos rfl (Ev.bind hh (ev_pos rfl (Ev.bind c2 (Ev.now _)))))))))
  have x2:rd_T42 X3 ((2:Nat):Int)=⟨2,1,1,0,0,⟨N2⟩⟩:=rfl
  have x1:rd_T42 X3 ((1:Nat):Int)=⟨1,1,1,0,0,⟨N1⟩⟩:=rfl
  have x0:rd_T42 X3 ((0:Nat):Int)=⟨0,2,1,0,0,⟨N0⟩⟩:=rfl
  have i3:Ev (fun k=>api_Evidence_shared_Check_1_v1.l0 k X3 (X3.length:Int) ((3:Nat):Int) E3) (-1):=Ev.step (f:=fun _=>some (-1)) (fun k=>by rw [api_Evidence_shared_Check_1_v1.l0,if_neg (by decide)]) (Ev.now _)
  have i2:Ev (fun k=>api_Evidence_shared_Check_1_v1.l0 k X3 (X3.length:Int) ((2:Nat):Int) E3) (-1):=Ev.step (fun k=>by rw [api_Evidence_shared_Check_1_v1.l0,if_pos (by decide),if_pos (by decide),if_pos (by decide),wrap_succ 2 3 (by decide) (by decide),x2]) (Ev.bind (show Ev (fun k=>shared_Check_1_v1.f k 2 1 1 0 0 N2 E3) false from Ev.bind r2 (Ev.now _)) (ev_neg Bool.false_ne_true i3))
  have i1:Ev (fun k=>api_Evidence_shared_Check_1_v1.l0 k X3 (X3.length:Int) ((1:Nat):Int) E3) (-1):=Ev.step (fun k=>by rw [api_Evidence_shared_Check_1_v1.l0,if_pos (by decide),if_pos (by decide),if_pos (by decide),wrap_succ 1 3 (by decide) (by decide),x1]) (Ev.bind (show Ev (fun k=>shared_Check_1_v1.f k 1 1 1 0 0 N1 E3) false from Ev.bind r1 (Ev.now _)) (ev_neg Bool.false_ne_true i2))
  have i0:Ev (fun k=>api_Evidence_shared_Check_1_v1.l0 k X3 (X3.length:Int) ((0:Nat):Int) E3) (-1):=Ev.step (fun k=>by rw [api_Evidence_shared_Check_1_v1.l0,if_pos (by decide),if_pos (by decide),if_pos (by decide),wrap_succ 0 3 (by decide) (by decide),x0]) (Ev.bind (show Ev (fun k=>shared_Check_1_v1.f k 0 2 1 0 0 N0 E3) false from Ev.bind r0 (Ev.now _)) (ev_neg Bool.false_ne_true i1))
  have cf:Ev (fun k=>api_Evidence_shared_Check_1.f k X3 E3) false:=Ev.bind (show Ev (fun k=>api_Evidence_shared_Check_1_v1.f k X3 E3) (-1) from i0) (Ev.now _)
  have ct:Ev (fun k=>(api_Evidence_shared_Check_1.f k X3 E3).bind fun t=>some (!t)) true:=Ev.bind cf (Ev.now _)
  have l3:Ev (fun k=>shared_Check.l0 k X3 [0,1,2] X3 (X3.length:Int) ((3:Nat):Int) E3) true:=Ev.step (fun k=>by rw [shared_Check.l0,if_neg (by decide)]) (Ev.bind f (ev_pos rfl (Ev.bind v (Ev.bind q (ev_pos rfl ct)))))
  have l2:Ev (fun k=>shared_Check.l0 k X3 [0,1] X3 (X3.length:Int) ((2:Nat):Int) E3) true:=Ev.step (fun k=>by rw [shared_Check.l0,if_pos (by decide),if_pos (by decide),if_pos (by decide),if_pos (by decide),wrap_succ 2 3 (by decide) (by decide),x2];rfl) l3
  have l1:Ev (fun k=>shared_Check.l0 k X3 [0] X3 (X3.length:Int) ((1:Nat):Int) E3) true:=Ev.step (fun k=>by rw [shared_Check.l0,if_pos (by decide),if_pos (by decide),if_pos (by decide),if_pos (by decide),wrap_succ 1 3 (by decide) (by decide),x1];rfl) l2
  have l0:Ev (fun k=>shared_Check.l0 k X3 [] X3 (X3.length:Int) ((0:Nat):Int) E3) true:=Ev.step (fun k=>by rw [shared_Check.l0,if_pos (by decide),if_pos (by decide),if_pos (by decide),if_pos (by decide),wrap_succ 0 3 (by decide) (by decide),x0];rfl) l1
  exact Ev.bind (dgvl_ev E3 hs (by decide)) (ev_pos g l0)
theorem awake_ev:Ev (fun k=>ancepslaw41_awake.f k) true:=by
  have hs:=vs_sm E2_vs
  have a:=linked_E2
  have b:Ev (fun k=>shared_Implied.f k E2 [0,2] [1,2,3]) (true,0):=ev_eq (dimp_ev E2 hs (by decide) [0,2] [1,2,3] (by decide) (by decide)) (by unfold imp;rw [fst1_c];kernel_rfl)
  have c:=all_E3
  have d:Ev (fun k=>shared_Value.f k E2 0) (3,0):=ev_eq (dvlu_ev E2 hs (by decide) 0) (by unfold vlu sov vrs;rw [vl_E2 0 (by decide),fst1_c,E2_occ];kernel_rfl)
  have e:=check_E3
  have f:Ev (fun k=>api_Link.f k [⟨0,1,false⟩,⟨0,2,false⟩,⟨1,2,true⟩] [⟨0,1,false⟩,⟨0,2,false⟩,⟨1,2,true⟩]) true:=⟨60,fun k h=>by obtain ⟨j,rfl⟩:=Nat.exists_eq_add_of_le' h;kernel_rfl⟩
  unfold ancepslaw41_awake.f
  exact Ev.bind (Ev.now E2) (Ev.bind a (Ev.bind b (Ev.bind (Ev.now E2) (ev_pos (by decide) (Ev.bind (Ev.now E3) (Ev.bind c (Ev.bind d (ev_pos rfl (ev_pos rfl (ev_pos rfl (ev_pos rfl (ev_pos rfl (ev_pos rfl (ev_pos rfl (Ev.bind e (ev_pos rfl (Ev.bind f (ev_pos rfl (ev_pos (by decide) (ev_pos rfl (ev_pos (by decide) (ev_pos rfl (ev_pos (by decide) (Ev.now _))))))))))))))))))))))))
theorem awake_bind:Ev (fun k=>(ancepslaw41_awake.f k).bind fun t=>some t) true:=Ev.bind awake_ev (Ev.now _)

theorem wth_sol {l:List S63} (h:VS l) (h15:l.length≤15) {v:Int} (hv:v∈occ l) (b:Bool) (hw:(wth l v ((b.toNat:Nat):Int)).2=0):∃ a:Nat,(wth l v ((b.toNat:Nat):Int)).1=(a:Int)∧hld l (a:Int)=true∧a<2 ^ 24∧a.testBit v.toNat=b:=by
  have h1:=h.occ' v hv
  have e:(giv l v ((b.toNat:Nat):Int)).1=l++[⟨[v],[((b.toNat:Nat):Int)]⟩]:=by
    have hb:0≤((b.toNat:Nat):Int)∧((b.toNat:Nat):Int)≤1:=by cases b <;> decide
    unfold giv
    rw [if_pos ((sysv_VS l).2 h),if_neg (by omega),if_neg (by omega),if_neg (by omega),if_neg (by omega),if_neg (by omega)]
  unfold wth at hw ⊢
  rw [e] at hw ⊢
  unfold fst1 at hw ⊢
  rw [if_pos ((sysv_VS _).2 (given_vs h h15 hv b))] at hw ⊢
  rw [given_SS h h15 hv b] at hw ⊢
  cases hq:(sl l (occ l) 0).filter fun a=>a.testBit v.toNat == b with
  | nil=>rw [hq] at hw;exact absurd hw (by decide)
  | cons a r=>
    have ha:a∈(sl l (occ l) 0).filter fun a=>a.testBit v.toNat == b:=by rw [hq];exact List.mem_cons_self
    obtain ⟨h2,h3⟩:=List.mem_filter.1 ha
    have h4:hld l (a:Int)=true:=SS_hld h (List.mem_map.2 ⟨a,h2,rfl⟩)
    refine ⟨a,rfl,h4,?_,by simpa using h3⟩
    unfold hld at h4
    rw [if_pos ((sysv_VS l).2 h),if_neg (by omega)] at h4
    by_cases e2:(a:Int)≥16777216
    · rw [if_pos e2] at h4;cases h4
    · omega
def has1 (l:List S63) (a v c:Int):Bool:=hld l a&&(Go.bits .and .i64 (shr .i64 a v) 1 == c)
def rgt (l:List S63) (x:S42):Bool:=
  if x.f1=3 then (if x.f2=0 then (if (x.f5.f0.length:Int)=0 then (if has1 l x.f3 x.f0 0=true then has1 l x.f4 x.f0 1 else false) else false) else false)
  else if x.f1=1∨x.f1=2 then (if (giv l x.f0 (wrap64 (2 - x.f1))).2=0 then (if x.f3=0 then (if x.f4=0 then (if hld l x.f2=true then chk1 (giv l x.f0 (wrap64 (2 - x.f1))).1 x.f5.f0 else false) else false) else false) else false)
  else false
theorem dhas_ev (l:List S63) (hs:Sm l) (hl:l.length≤100) (a c v p q r s:Int) (N:List S103) (hv:0≤v):Ev (fun k=>shared_right_1_v1.f k a c l v p q r s N) (has1 l a v c):=by
  refine Ev.bind (dhold_ev l hs (by omega) a) ?_
  unfold has1
  cases hld l a with
  | false=>exact ev_neg (by decide) (Ev.now _)
  | true=>exact ev_pos rfl (ev_pos hv (Ev.now _))
theorem dright_ev (l:List S63) (hs:Sm l) (hl:l.length≤100) (x:S42) (hv:0≤x.f0):Ev (fun k=>shared_right.f k l x.f0 x.f1 x.f2 x.f3 x.f4 x.f5.f0) (rgt l x):=by
  obtain ⟨g1,g2⟩:=giv_small hs hl x.f0 (wrap64 (2 - x.f1))
  have tail:Ev (fun k=>(solve_Given.f k l x.f0 (wrap64 (2 - x.f1))).bind fun bt=>if bt.2=0 then (if x.f3=0 then (if x.f4=0 then (solve_Holds.f k l x.f2).bind fun t=>if t=true then (solve_Check.f k bt.1 x.f5.f0).bind fun t=>some t else some false else some false) else some false) else some false) (if (giv l x.f0 (wrap64 (2 - x.f1))).2=0 then (if x.f3=0 then (if x.f4=0 then (if hld l x.f2=true then chk1 (giv l x.f0 (wrap64 (2 - x.f1))).1 x.f5.f0 else false) else false) else false) else false):=
    Ev.bind (dgiv_ev l hs (by omega) _ _) (ev_ite (fun _=>ev_ite (fun _=>ev_ite (fun _=>Ev.bind (dhold_ev l hs (by omega) _) (ev_ite (fun _=>Ev.bind (scheck_ev _ g1 g2 _) (Ev.now _)) (fun _=>Ev.now _))) (fun _=>Ev.now _)) (fun _=>Ev.now _)) (fun _=>Ev.now _))
  unfold rgt
  by_cases e3:x.f1=3
  · rw [if_pos e3]
    exact ev_pos e3 (ev_ite (fun _=>ev_ite (fun _=>Ev.bind (dhas_ev l hs hl _ _ _ _ _ _ _ _ hv) (ev_ite (fun _=>Ev.bind (dhas_ev l hs hl _ _ _ _ _ _ _ _ hv) (Ev.now _)) (fun _=>Ev.now _))) (fun _=>Ev.now _)) (fun _=>Ev.now _))
  · rw [if_neg e3]
    refine ev_neg e3 ?_
    by_cases e1:x.f1=1
    · rw [if_pos (.inl e1)]
      exact ev_pos e1 tail
    · by_cases e2:x.f1=2
      · rw [if_pos (.inr e2)]
        exact ev_neg e1 (ev_pos e2 tail)
      · rw [if_neg (by omega)]
        exact ev_neg e1 (ev_neg e2 (Ev.now _))
theorem rdE_at (l:List S42) (i:Nat) (hi:i<l.length):l.drop i=rd_T42 l i :: l.drop (i+1):=getD_drop l i _ hi
theorem chkf_loop (l:List S63) (hs:Sm l) (hl:l.length≤100) (X:List S42) (hX:X.length≤1000) (hv:∀ x,x∈X→0≤x.f0):∀ (d i:Nat),i+d=X.length→∃ q:Int,Ev (fun k=>api_Evidence_shared_Check_1_v1.l0 k X (X.length:Int) i l) q∧decide (q≥0)=!((X.drop i).all (rgt l))
  | 0,i,h=>⟨-1,Ev.step (f:=fun _=>some (-1)) (fun k=>by rw [api_Evidence_shared_Check_1_v1.l0,if_neg (by omega)]) (Ev.now _),by rw [List.drop_eq_nil_of_le (by omega)];rfl⟩
  | d+1,i,h=>by
    have hi:i<X.length:=by omega
    have hw:=wrap_succ i X.length hi (by omega)
    have hd:=rdE_at X i hi
    have hm:rd_T42 X i∈X:=List.mem_of_mem_drop (i:=i) (by rw [hd];exact List.mem_cons_self)
    obtain ⟨q,e1,e2⟩:=chkf_loop l hs hl X hX hv d (i+1) (by omega)
    have r1:=dright_ev l hs hl (rd_T42 X i) (hv _ hm)
    by_cases e:rgt l (rd_T42 X i)=true
    · refine ⟨q,?_,by rw [hd,List.all_cons,e,Bool.true_and];exact e2⟩
      rw [e] at r1
      refine Ev.step (fun k=>by rw [api_Evidence_shared_Check_1_v1.l0,if_pos (by omega),if_pos (by omega),if_pos (by omega),hw]) ?_
      exact Ev.bind (show Ev (fun k=>shared_Check_1_v1.f k _ _ _ _ _ _ l) false from Ev.bind r1 (Ev.now _)) (ev_neg (by decide) e1)
    · have e':rgt l (rd_T42 X i)=false:=by simpa using e
      refine ⟨i,?_,by rw [hd,List.all_cons,e',Bool.false_and];simp⟩
      rw [e'] at r1
      refine Ev.step (fun k=>by rw [api_Evidence_shared_Check_1_v1.l0,if_pos (by omega),if_pos (by omega),if_pos (by omega),hw]) ?_
      exact Ev.bind (show Ev (fun k=>shared_Check_1_v1.f k _ _ _ _ _ _ l) true from Ev.bind r1 (Ev.now _)) (ev_pos rfl (Ev.now _))
def chkX (l:List S63) (X:List S42):Bool:=if gvl l=0 then (if (fst1 l).2=0 then (if (X.map fun x=>x.f0)=vrs l then X.all (rgt l) else false) else false) else false
theorem chkl_loop (l:List S63) (hs:Sm l) (hl:l.length≤100) (X:List S42) (hX:X.length≤1000) (r:Bool) (H:Ev (fun k=>(solve_First.f k l).bind fun bt455=>if bt455.2=0 then (solve_Vars.f k l).bind fun t457=>(slices_Equal_int_int.f k (X.map fun x=>x.f0) t457).bind fun t460=>if t460=true then (api_Evidence_shared_Check_1.f k X l).bind fun t461=>some (!t461) else some false else some false) r) :
    ∀ (d i:Nat) (acc:List Int),i+d=X.length→acc=(X.take i).map (fun x=>x.f0)→Ev (fun k=>shared_Check.l0 k X acc X (X.length:Int) i l) r
  | 0,i,acc,h,ha=>by
    rw [List.take_of_length_le (by omega)] at ha
    subst ha
    exact Ev.step (fun k=>by rw [shared_Check.l0,if_neg (by omega)]) H
  | d+1,i,acc,h,ha=>by
    have hi:i<X.length:=by omega
    have hw:=wrap_succ i X.length hi (by omega)
    have hd:=rdE_at X i hi
    have h1:(acc++[(rd_T42 X i).f0])=(X.take (i+1)).map (fun x=>x.f0):=by
      rw [ha,List.take_add_one,List.map_append]
      congr 1
      have:X[i]?=some (rd_T42 X i):=by
        have h2:(X.drop i)[0]?=some (rd_T42 X i):=by rw [hd];rfl
        rwa [List.getElem?_drop,Nat.add_zero] at h2
      rw [this]
      rfl
    have hal:acc.length≤1000:=by rw [ha,List.length_map,List.length_take];omega
    exact Ev.step (fun k=>by rw [shared_Check.l0,if_pos (by omega),if_pos (by omega),if_pos (by omega),if_pos (by omega),hw]) (chkl_loop l hs hl X hX r H d (i+1) _ (by omega) h1)
theorem dchkX_ev (l:List S63) (hs:Sm l) (hl:l.length≤100) (X:List S42) (hX:X.length≤1000):Ev (fun k=>shared_Check.f k l X) (chkX l X):=by
  refine Ev.bind (dgvl_ev l hs (by omega)) ?_
  unfold chkX
  refine ev_ite (fun hg=>?_) (fun _=>Ev.now _)
  obtain ⟨hv,h15⟩:=gvl_VS hg
  refine chkl_loop l hs hl X hX _ ?_ X.length 0 [] (by omega) rfl
  refine Ev.bind (dfirst_ev l hs (by omega)) (ev_ite (fun _=>?_) (fun _=>Ev.now _))
  refine Ev.bind (dvars_ev l hs (by omega)) (Ev.bind (eqs_ev (X.map fun x=>x.f0) (vrs l) (by rw [List.length_map];omega)) ?_)
  by_cases e:(X.map fun x=>x.f0)=vrs l
  · rw [if_pos e]
    refine ev_pos (by simpa using e) ?_
    have hp:∀ x,x∈X→0≤x.f0:=fun x hx=>by
      have h1:x.f0∈vrs l:=e ▸ List.mem_map.2 ⟨x,hx,rfl⟩
      unfold vrs at h1
      rw [if_pos ((sysv_VS l).2 hv)] at h1
      exact (hv.occ' _ h1).1
    obtain ⟨q,e1,e2⟩:=chkf_loop l hs hl X hX hp X.length 0 (by omega)
    rw [List.drop_zero] at e2
    refine Ev.bind (show Ev (fun k=>api_Evidence_shared_Check_1.f k X l) (decide (q≥0)) from Ev.bind e1 (Ev.now _)) (ev_eq (Ev.now _) ?_)
    rw [e2,Bool.not_not]
  · rw [if_neg e]
    exact ev_neg (by simpa using e) (Ev.now _)
def evt (l:List S63) (v:Int):Int×Int×Int×Int×Int×List S103×Int:=
  if ((wth l v 0).2 == 0)=true then (if ((wth l v 1).2 == 0)=true then (v,3,0,(wth l v 0).1,(wth l v 1).1,[],0) else (v,1,(wth l v 0).1,0,0,(rfu (giv l v 1).1).1,(rfu (giv l v 1).1).2))
  else (v,2,(wth l v 1).1,0,0,(rfu (giv l v 0).1).1,(rfu (giv l v 0).1).2)
theorem devt_ev (l:List S63) (hs:Sm l) (hl:l.length≤100) (v:Int):Ev (fun k=>shared_evidence.f k l v) (evt l v):=by
  obtain ⟨g1,g2⟩:=giv_small hs hl v 0
  obtain ⟨g3,g4⟩:=giv_small hs hl v 1
  exact Ev.bind (dwith_ev l hs hl v 0) (Ev.bind (dwith_ev l hs hl v 1) (ev_ite (fun _=>ev_ite (fun _=>Ev.now _) (fun _=>Ev.bind (drefute_ev _ g3 g4) (Ev.now _))) (fun _=>Ev.bind (drefute_ev _ g1 g2) (Ev.now _))))
theorem revt_ev (l:List S63) (hs:Sm l) (hl:l.length≤100) (v:Int) (hne:(wth l v 0).2=0∨(wth l v 1).2=0):Ev (fun k=>ancepsref41_one.f k l v) (evt l v):=by
  obtain ⟨g1,g2⟩:=giv_small hs hl v 0
  obtain ⟨g3,g4⟩:=giv_small hs hl v 1
  refine Ev.bind (rwith41_ev l hs hl v 0) (Ev.bind (rwith41_ev l hs hl v 1) ?_)
  unfold evt
  by_cases e0:((wth l v 0).2 == 0)=true
  · rw [if_pos e0]
    exact ev_pos e0 (ev_ite (fun _=>Ev.now _) (fun _=>Ev.bind (rgiv_ev l hs (by omega) v 1) (Ev.bind (rrefute_ev _ g3 g4) (Ev.now _))))
  · rw [if_neg e0]
    have e1:((wth l v 1).2 == 0)=true:=by
      rcases hne with h|h
      · exact absurd (by simpa using h) e0
      · simpa using h
    exact ev_neg e0 (ev_pos e1 (Ev.bind (rgiv_ev l hs (by omega) v 0) (Ev.bind (rrefute_ev _ g1 g2) (Ev.now _))))
def evE (t:Int×Int×Int×Int×Int×List S103×Int):S42:=⟨t.1,t.2.1,t.2.2.1,t.2.2.2.1,t.2.2.2.2.1,⟨t.2.2.2.2.2.1⟩⟩
def als (l:List S63):List Int→List S42→List S42×Int
  | [],out=>(out,0)
  | v :: vs,out=>if (evt l v).2.2.2.2.2.2=0 then als l vs (out++[evE (evt l v)]) else ([],(evt l v).2.2.2.2.2.2)
theorem dals_loop (l:List S63) (hs:Sm l) (hl:l.length≤100) (vs:List Int) (hv:vs.length≤1000):∀ (d i:Nat) (out:List S42),i+d=vs.length→out.length≤i→Ev (fun k=>shared_All.l0 k l out vs (vs.length:Int) i) (als l (vs.drop i) out)
  | 0,i,out,h,ho=>by
    rw [List.drop_eq_nil_of_le (by omega)]
    exact Ev.step (f:=fun _=>some (out,0)) (fun k=>by rw [shared_All.l0,if_neg (by omega)]) (Ev.now _)
  | d+1,i,out,h,ho=>by
    have hi:i<vs.length:=by omega
    have hw:=wrap_succ i vs.length hi (by omega)
    rw [rd_at vs i hi,als]
    refine Ev.step (fun k=>by rw [shared_All.l0,if_pos (by omega),if_pos (by omega),if_pos (by omega),hw]) ?_
    refine Ev.bind (devt_ev l hs hl (rd vs i)) (ev_ite (fun _=>ev_pos (by omega) ?_) (fun _=>Ev.now _))
    exact dals_loop l hs hl vs hv d (i+1) (out++[evE (evt l (rd vs i))]) (by omega) (by simp;omega)
theorem rals_loop (l:List S63) (hs:Sm l) (hl:l.length≤100) (vs:List Int) (hv:vs.length≤1000) (hne:∀ v,v∈vs→(wth l v 0).2=0∨(wth l v 1).2=0):∀ (d i:Nat) (out:List S42),i+d=vs.length→out.length≤i→Ev (fun k=>ancepsref41_All.l0 k l out vs i) (als l (vs.drop i) out)
  | 0,i,out,h,ho=>by
    rw [List.drop_eq_nil_of_le (by omega)]
    exact Ev.step (f:=fun _=>some (out,0)) (fun k=>by rw [ancepsref41_All.l0,if_neg (by omega)]) (Ev.now _)
  | d+1,i,out,h,ho=>by
    have hi:i<vs.length:=by omega
    have hw:=wrap_succ i vs.length hi (by omega)
    have hm:rd vs i∈vs:=List.mem_of_mem_drop (i:=i) (by rw [rd_at vs i hi];exact List.mem_cons_self)
    rw [rd_at vs i hi,als]
    refine Ev.step (fun k=>by rw [ancepsref41_All.l0,if_pos (by omega),if_pos (by omega),hw]) ?_
    refine Ev.bind (revt_ev l hs hl (rd vs i) (hne _ hm)) (ev_ite (fun _=>ev_pos (by omega) ?_) (fun _=>Ev.now _))
    exact rals_loop l hs hl vs hv hne d (i+1) (out++[evE (evt l (rd vs i))]) (by omega) (by simp;omega)
def alx (l:List S63):List S42×Int:=if sov l=0 then als l (vrs l) [] else ([],sov l)
theorem dalx_ev (l:List S63) (hs:Sm l) (hl:l.length≤100):Ev (fun k=>shared_All.f k l) (alx l):=by
  refine Ev.bind (dsov_ev l hs (by omega)) (ev_ite (fun _=>Ev.bind (dvars_ev l hs (by omega)) ?_) (fun _=>Ev.now _))
  have h:=dals_loop l hs hl (vrs l) (vrs_len l) (vrs l).length 0 [] (by omega) (by simp)
  rwa [List.drop_zero] at h
theorem sov_zero {l:List S63} (h:sov l=0):gvl l=0∧(fst1 l).2=0:=by
  unfold sov at h
  by_cases e:gvl l=0
  · rw [if_pos e] at h
    by_cases e2:(fst1 l).2=0
    · exact ⟨e,e2⟩
    · rw [if_neg e2] at h;cases h
  · rw [if_neg e] at h;exact absurd h e
theorem some_wth {l:List S63} (h:VS l) (h15:l.length≤15) (hf:(fst1 l).2=0) {v:Int} (hv:v∈occ l):(wth l v 0).2=0∨(wth l v 1).2=0:=by
  obtain ⟨a,ha⟩:=(fst1_err h).1 hf
  have h0:=wth_iff h h15 hv false
  have h1:=wth_iff h h15 hv true
  cases e:a.testBit v.toNat with
  | false=>exact .inl (h0.2 ⟨a,ha,e⟩)
  | true=>exact .inr (h1.2 ⟨a,ha,e⟩)
theorem vrs_occ {l:List S63} (h:VS l):vrs l=occ l:=by unfold vrs;rw [if_pos ((sysv_VS l).2 h)]
theorem ralx_ev (l:List S63) (hs:Sm l) (hl:l.length≤100):Ev (fun k=>ancepsref41_All.f k l) (alx l):=by
  refine Ev.bind (rgvl_ev l hs (by omega)) ?_
  unfold alx sov
  by_cases e:gvl l=0
  · obtain ⟨hv,h15⟩:=gvl_VS e
    rw [if_pos e]
    refine ev_pos e (Ev.bind (rsov_ev l hs (by omega)) ?_)
    by_cases e2:(fst1 l).2=0
    · rw [if_pos e2,if_pos rfl]
      refine ev_pos (by simpa using e2) (Ev.bind (rvars1_ev l hs (by omega)) ?_)
      have h:=rals_loop l hs hl (vrs l) (vrs_len l) (fun v hvv=>some_wth hv h15 e2 (by rwa [vrs_occ hv] at hvv)) (vrs l).length 0 [] (by omega) (by simp)
      rwa [List.drop_zero] at h
    · rw [if_neg e2,if_neg (by decide)]
      exact ev_neg (by simpa using e2) (Ev.now _)
  · rw [if_neg e,if_neg e]
    exact ev_neg e (Ev.now _)
theorem als_ok (l:List S63):∀ (vs:List Int) (out X:List S42) (r:Int),als l vs out=(X,r)→(r=0→(∀ v,v∈vs→(evt l v).2.2.2.2.2.2=0)∧X=out++vs.map fun v=>evE (evt l v))∧(r≠0→X=[])
  | [],out,X,r,h=>by
    obtain ⟨rfl,rfl⟩:=Prod.mk.inj h
    exact ⟨fun _=>⟨fun v hv=>by simp at hv,by simp⟩,fun h=>absurd rfl h⟩
  | v :: vs,out,X,r,h=>by
    rw [als] at h
    by_cases e:(evt l v).2.2.2.2.2.2=0
    · rw [if_pos e] at h
      obtain ⟨h1,h2⟩:=als_ok l vs _ X r h
      refine ⟨fun hr=>?_,h2⟩
      obtain ⟨h3,h4⟩:=h1 hr
      refine ⟨fun w hw=>?_,by rw [h4,List.append_assoc];rfl⟩
      rcases List.mem_cons.1 hw with rfl|hw
      · exact e
      · exact h3 w hw
    · rw [if_neg e] at h
      obtain ⟨rfl,rfl⟩:=Prod.mk.inj h
      exact ⟨fun hr=>absurd hr e,fun _=>rfl⟩
theorem rfu_len (l:List S63):(rfu l).1.length≤2000:=by
  unfold rfu
  by_cases e:sysv l=0
  · rw [if_pos e]
    by_cases e1:SS l=[]
    · rw [if_pos e1]
      by_cases e2:(tree l (occ l) 0 0).sz≤2000
      · rw [if_pos e2]
        show ((tree l (occ l) 0 0).nod 0).length≤2000
        rw [Tr.nod_len]
        exact e2
      · rw [if_neg e2];simp
    · rw [if_neg e1];simp
  · rw [if_neg e];simp
theorem rfu_chk {l:List S63} (h:(rfu l).2=0):chk1 l (rfu l).1=true:=by
  unfold rfu at h ⊢
  by_cases e:sysv l=0
  · rw [if_pos e] at h ⊢
    have hv:=(sysv_VS l).1 e
    by_cases e1:SS l=[]
    · rw [if_pos e1] at h ⊢
      by_cases e2:(tree l (occ l) 0 0).sz≤2000
      · rw [if_pos e2] at h ⊢
        exact std_chk hv (full0 hv e1) e2
      · rw [if_neg e2] at h;cases h
    · rw [if_neg e1] at h;cases h
  · rw [if_neg e] at h;exact absurd h e
theorem evt_rgt {l:List S63} (h:VS l) (h15:l.length≤15) (hf:(fst1 l).2=0) {v:Int} (hv:v∈occ l) (he:(evt l v).2.2.2.2.2.2=0):rgt l (evE (evt l v))=true:=by
  have hb:=h.occ' v hv
  have hB:∀ (b:Bool),(wth l v ((b.toNat:Nat):Int)).2=0→has1 l (wth l v ((b.toNat:Nat):Int)).1 v ((b.toNat:Nat):Int)=true:=fun b hw=>by
    obtain ⟨a,h1,h2,h3,h4⟩:=wth_sol h h15 hv b hw
    unfold has1
    rw [h1,h2,bit_of a h3 v hb.1 hb.2,h4]
    simp
  have hG:∀ (b:Bool),(giv l v ((b.toNat:Nat):Int)).2=0:=fun b=>by
    have hb2:0≤((b.toNat:Nat):Int)∧((b.toNat:Nat):Int)≤1:=by cases b <;> decide
    unfold giv
    rw [if_pos ((sysv_VS l).2 h),if_neg (by omega),if_neg (by omega),if_neg (by omega),if_neg (by omega),if_neg (by omega)]
  have hH:∀ (b:Bool),(wth l v ((b.toNat:Nat):Int)).2=0→hld l (wth l v ((b.toNat:Nat):Int)).1=true:=fun b hw=>by
    obtain ⟨a,h1,h2,_⟩:=wth_sol h h15 hv b hw
    rw [h1];exact h2
  unfold evt at he ⊢
  by_cases e0:((wth l v 0).2 == 0)=true
  · rw [if_pos e0] at he ⊢
    have e0':(wth l v ((false.toNat:Nat):Int)).2=0:=by simpa using e0
    by_cases e1:((wth l v 1).2 == 0)=true
    · rw [if_pos e1] at he ⊢
      have e1':(wth l v ((true.toNat:Nat):Int)).2=0:=by simpa using e1
      show rgt l ⟨v,3,0,(wth l v 0).1,(wth l v 1).1,⟨[]⟩⟩=true
      have b0:has1 l (wth l v 0).1 v 0=true:=hB false e0'
      have b1:has1 l (wth l v 1).1 v 1=true:=hB true e1'
      unfold rgt
      exact (if_pos rfl).trans ((if_pos rfl).trans ((if_pos rfl).trans ((if_pos b0).trans b1)))
    · rw [if_neg e1] at he ⊢
      show rgt l ⟨v,1,(wth l v 0).1,0,0,⟨(rfu (giv l v 1).1).1⟩⟩=true
      have w1:wrap64 (2 - 1)=1:=by unfold wrap64;omega
      have g1:(giv l v (wrap64 (2 - 1))).2=0:=by rw [w1];exact hG true
      have b0:hld l (wth l v 0).1=true:=hH false e0'
      have c1:chk1 (giv l v (wrap64 (2 - 1))).1 (rfu (giv l v 1).1).1=true:=by rw [w1];exact rfu_chk (l:=(giv l v 1).1) he
      unfold rgt
      exact (if_neg (show ¬ (1:Int)=3 by decide)).trans ((if_pos (Or.inl rfl)).trans ((if_pos g1).trans ((if_pos rfl).trans ((if_pos rfl).trans ((if_pos b0).trans c1)))))
  · rw [if_neg e0] at he ⊢
    have e1':(wth l v ((true.toNat:Nat):Int)).2=0:=by
      rcases some_wth h h15 hf hv with h2|h2
      · exact absurd (by simpa using h2) e0
      · exact h2
    show rgt l ⟨v,2,(wth l v 1).1,0,0,⟨(rfu (giv l v 0).1).1⟩⟩=true
    have w1:wrap64 (2 - 2)=0:=by unfold wrap64;omega
    have g1:(giv l v (wrap64 (2 - 2))).2=0:=by rw [w1];exact hG false
    have b0:hld l (wth l v 1).1=true:=hH true e1'
    have c1:chk1 (giv l v (wrap64 (2 - 2))).1 (rfu (giv l v 0).1).1=true:=by rw [w1];exact rfu_chk (l:=(giv l v 0).1) he
    unfold rgt
    exact (if_neg (show ¬ (2:Int)=3 by decide)).trans ((if_pos (Or.inr rfl)).trans ((if_pos g1).trans ((if_pos rfl).trans ((if_pos rfl).trans ((if_pos b0).trans c1)))))
theorem evE_small (l:List S63) (v:Int):(evE (evt l v)).f5.f0.length≤3000:=by
  have h0:=rfu_len (giv l v 0).1
  have h1:=rfu_len (giv l v 1).1
  unfold evt
  by_cases e0:((wth l v 0).2 == 0)=true
  · rw [if_pos e0]
    by_cases e1:((wth l v 1).2 == 0)=true
    · rw [if_pos e1];exact Nat.zero_le _
    · rw [if_neg e1];show (rfu (giv l v 1).1).1.length≤3000;omega
  · rw [if_neg e0];show (rfu (giv l v 0).1).1.length≤3000;omega
theorem esame_loop (X:List S42) (hX:X.length≤1000) (hn:∀ x,x∈X→x.f5.f0.length≤3000):∀ (d i:Nat),i+d=X.length→Ev (fun k=>ancepsref41_Same.l0 k X X i) true
  | 0,i,h=>Ev.step (f:=fun _=>some true) (fun k=>by rw [ancepsref41_Same.l0,if_neg (by omega)]) (Ev.now _)
  | d+1,i,h=>by
    have hi:i<X.length:=by omega
    have hw:=wrap_succ i X.length hi (by omega)
    have hm:rd_T42 X i∈X:=List.mem_of_mem_drop (i:=i) (by rw [rdE_at X i hi];exact List.mem_cons_self)
    refine Ev.step (fun k=>by rw [ancepsref41_Same.l0,if_pos (by omega),if_pos (by omega),if_pos (by omega),if_pos rfl,if_pos rfl,if_pos rfl,if_pos rfl,if_pos rfl,hw]) ?_
    exact Ev.bind (nsame_ev _ (hn _ hm)) (ev_pos rfl (esame_loop X hX hn d (i+1) (by omega)))
theorem esame_ev (X:List S42) (hX:X.length≤1000) (hn:∀ x,x∈X→x.f5.f0.length≤3000):Ev (fun k=>ancepsref41_Same.f k X X) true:=ev_pos rfl (esame_loop X hX hn X.length 0 (by omega))
theorem alx_spec (l:List S63):(alx l).1.length≤1000∧(∀ x,x∈(alx l).1→x.f5.f0.length≤3000)∧((alx l).2=0→chkX l (alx l).1=true∧(alx l).1=(vrs l).map fun v=>evE (evt l v)):=by
  unfold alx
  by_cases e:sov l=0
  · rw [if_pos e]
    obtain ⟨hg,hf⟩:=sov_zero e
    obtain ⟨hv,h15⟩:=gvl_VS hg
    obtain ⟨h1,h2⟩:=als_ok l (vrs l) [] (als l (vrs l) []).1 (als l (vrs l) []).2 rfl
    by_cases hr:(als l (vrs l) []).2=0
    · obtain ⟨h3,h4⟩:=h1 hr
      rw [List.nil_append] at h4
      rw [h4]
      refine ⟨by rw [List.length_map];exact vrs_len l,fun x hx=>?_,fun _=>⟨?_,rfl⟩⟩
      · obtain ⟨v,_,rfl⟩:=List.mem_map.1 hx
        exact evE_small l v
      · unfold chkX
        have h5:((vrs l).map fun v=>evE (evt l v)).map (fun x=>x.f0)=vrs l:=by
          rw [List.map_map]
          have:((fun x:S42=>x.f0) ∘ fun v=>evE (evt l v))=id:=by
            funext v
            show (evt l v).1=v
            unfold evt
            by_cases e0:((wth l v 0).2 == 0)=true
            · rw [if_pos e0]
              by_cases e1:((wth l v 1).2 == 0)=true
              · rw [if_pos e1]
              · rw [if_neg e1]
            · rw [if_neg e0]
          rw [this,List.map_id]
        rw [if_pos hg,if_pos hf,if_pos h5,List.all_eq_true]
        intro x hx
        obtain ⟨v,hvv,rfl⟩:=List.mem_map.1 hx
        exact evt_rgt hv h15 hf (by rwa [vrs_occ hv] at hvv) (h3 v hvv)
    · rw [h2 hr]
      exact ⟨by simp,fun x hx=>by simp at hx,fun h=>absurd h hr⟩
  · rw [if_neg e]
    exact ⟨by simp,fun x hx=>by simp at hx,fun h=>absurd h e⟩
theorem sharedAll_ev (l:List S63):Ev (fun k=>ancepslaw41_SharedAll.f k l) true:=by
  refine Ev.bind awake_ev (ev_pos rfl ?_)
  obtain ⟨b,hb,hq⟩:=tfew_ev l
  refine Ev.bind hb ?_
  cases b with
  | false=>exact ev_neg (by simp) awake_bind
  | true=>
    obtain ⟨hS,h18⟩:=hq rfl
    obtain ⟨s1,s2,s3⟩:=alx_spec l
    have o:=own_ev l hS (by omega)
    refine ev_pos rfl (Ev.bind o (Ev.bind (dalx_ev l hS (by omega)) (Ev.bind (ralx_ev l hS (by omega)) (ev_pos rfl (Ev.bind (esame_ev _ s1 s2) (ev_pos rfl ?_))))))
    by_cases e:(alx l).2=0
    · refine ev_pos e (Ev.bind o (Ev.bind (ev_eq (dchkX_ev l hS (by omega) _ s1) (s3 e).1) (Ev.now _)))
    · exact ev_neg e (Ev.now _)
theorem SharedAll (l0:List (S63)) (w_l0:∀ x,x∈l0→(∀ y,y∈x.f0→(Lit.int .i64 y).wf=true)∧(∀ y,y∈x.f1→(Lit.int .i64 y).wf=true)):∃ k,A.ancepslaw41_SharedAll.f k l0=some true:=ev_rounds (sharedAll_ev l0)

end Go.Proofs.YtngpkbbljnbojaaGreat.Pure
