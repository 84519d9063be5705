import Derived.Test.YtkjghablbeaioaaGreatB0
import Derived.Test.YtkjghablbeaioaaGreatB2
import Derived.Test.YtkjghablbeaioaaGreatB3
import Derived.Test.YtkjghablbeaioaaGreatB4
import Derived.Test.YtkjghablbeaioaaGreatB5
import Derived.Test.YtkjghablbeaioaaGreatB6
import Derived.Test.YtkjghablbeaioaaGreatB7
import Derived.Test.YtkjghablbeaioaaGreatB8
import Derived.Test.YtkjghablbeaioaaGreatB9
import Derived.Test.YtkjghablbeaioaaGreatB10
import Derived.Test.YtkjghablbeaioaaGreatB11
import Derived.Test.YtkjghablbeaioaaGreatB12
import Derived.Test.YtkjghablbeaioaaGreatB13
import Derived.Test.YtkjghablbeaioaaGreatB14
import Derived.Test.YtkjghablbeaioaaGreatB15
import Derived.Test.YtkjghablbeaioaaGreatB16
import Derived.Test.YtkjghablbeaioaaGreatB17
import Derived.Test.YtkjghablbeaioaaGreatB18
namespace Go.Proofs.YtkjghablbeaioaaGreat.Pure
open Go.RowKit Go.Proofs.YtkjghablbeaioaaGreatW.PrintWords Go.Proofs.YtkjghablbeaioaaGreat.B
set_option linter.unusedVariables false
set_option linter.unusedSimpArgs false
theorem w64_in (n:Int) (h : -9223372036854775808≤n∧n≤9223372036854775807):wrap64 n=n:=by unfold wrap64;omega
theorem wrap_succ (i n:Nat) (hi:i<n) (hn:(n:Int)≤9223372036854775807):wrap64 ((i:Int)+1)=((i+1:Nat):Int):=by
  rw [w64_in _ (by omega)];omega
theorem getD_drop {α:Type} (l:List α) (i:Nat) (z:α) (hi:i<l.length):l.drop i=l.getD i z :: l.drop (i+1):=by
  rw [List.drop_eq_getElem_cons hi]
  simp [List.getD,List.getElem?_eq_getElem hi]
theorem ev_pos {α:Type} {c:Prop} [Decidable c] {g f:Nat→Option α} {r:α} (h:c) (e:Ev g r):Ev (fun k=>if c then g k else f k) r:=Ev.congr (fun k=>if_pos h) e
theorem ev_neg {α:Type} {c:Prop} [Decidable c] {g f:Nat→Option α} {r:α} (h:¬ c) (e:Ev f r):Ev (fun k=>if c then g k else f k) r:=Ev.congr (fun k=>if_neg h) e
theorem ev_some {α β:Type} {a:α} {f:Nat→α→Option β} {r:β} (e:Ev (fun k=>f k a) r):Ev (fun k=>(some a).bind (f k)) r:=e
theorem ev_eq {α:Type} {g:Nat→Option α} {r s:α} (e:Ev g r) (h:r=s):Ev g s:=h ▸ e
theorem ev_ite {α:Type} {c:Prop} [Decidable c] {g f:Nat→Option α} {r s:α} (h1:c→Ev g r) (h2:¬ c→Ev f s):Ev (fun k=>if c then g k else f k) (if c then r else s):=by
  by_cases h:c
  · rw [if_pos h];exact ev_pos h (h1 h)
  · rw [if_neg h];exact ev_neg h (h2 h)
theorem ev_rounds {α:Type} {g:Nat→Option α} {r:α} (h:Ev g r):∃ k,g k=some r:=h.elim fun K h=>⟨K,h K (Nat.le_refl _)⟩

def chk (hi:Int):Option Int→List Int→Int
  | _,[]=>0
  | none,x :: xs=>if x<0∨hi≤x then 6 else chk hi (some x) xs
  | some q,x :: xs=>if x<0∨hi≤x then 6 else if x≤q then 18 else chk hi (some x) xs
def Chn (hi:Int):Option Int→List Int→Prop
  | _,[]=>True
  | p,x :: xs=>0≤x∧x<hi∧(∀ q,p=some q→q<x)∧Chn hi (some x) xs
theorem chk_Chn (hi:Int):∀ (xs:List Int) (p:Option Int),chk hi p xs=0↔Chn hi p xs
  | [],p=>by cases p <;> simp [chk,Chn]
  | x :: xs,p=>by
    have ih:=chk_Chn hi xs (some x)
    cases p with
    | none=>
      simp only [chk,Chn]
      by_cases h:x<0∨hi≤x
      · rw [if_pos h];exact ⟨fun h=>by omega,fun h2=>by omega⟩
      · rw [if_neg h,ih];exact ⟨fun h2=>⟨by omega,by omega,(fun q hq=>by cases hq),h2⟩,fun h2=>h2.2.2.2⟩
    | some q=>
      simp only [chk,Chn]
      by_cases h:x<0∨hi≤x
      · rw [if_pos h];exact ⟨fun h=>by omega,fun h2=>by omega⟩
      · rw [if_neg h]
        by_cases h1:x≤q
        · rw [if_pos h1];exact ⟨fun h=>by omega,fun h2=>by have:=h2.2.2.1 q rfl;omega⟩
        · rw [if_neg h1,ih];exact ⟨fun h2=>⟨by omega,by omega,fun q' hq=>by injection hq;omega,h2⟩,fun h2=>h2.2.2.2⟩
def prv (xs:List Int) (i:Nat):Option Int:=if i=0 then none else some (rd xs ((i:Int) - 1))
theorem prv_succ (xs:List Int) (i:Nat):prv xs (i+1)=some (rd xs i):=by
  unfold prv;rw [if_neg (by omega)];congr 2;omega
theorem rd_at (l:List Int) (i:Nat) (hi:i<l.length):l.drop i=rd l i :: l.drop (i+1):=getD_drop l i 0 hi
theorem rd_mem (ps:List Int) (i:Nat) (hi:i<ps.length):rd ps i∈ps:=by
  unfold rd
  simp only [Int.toNat_natCast,List.getD,List.getElem?_eq_getElem hi,Option.getD_some]
  exact List.getElem_mem hi
theorem shl1 (n:Nat) (h:n≤60):shl .i64 1 (n:Int)=((2 ^ n:Nat):Int):=by
  have h2:(2:Nat) ^ n≤2 ^ 60:=Nat.pow_le_pow_right (by decide) h
  unfold shl
  have e:min ((n:Int)).toNat IntKind.i64.bits=n:=by
    have:IntKind.i64.bits=64:=rfl
    rw [this];omega
  rw [e,Int.one_mul,show ((2:Int) ^ n)=((2 ^ n:Nat):Int) by simp]
  have h3:(2:Nat) ^ 60=1152921504606846976:=by decide
  rw [h3] at h2
  generalize (2:Nat) ^ n=z at h2 ⊢
  rw [IntKind.wrap_i64]
  omega
def asc (vs:List Int):Int:=if (vs.length:Int)>10 then 3 else chk 24 none vs
def valid (vs rs:List Int):Int:=if asc vs=0 then chk ((2 ^ vs.length:Nat):Int) none rs else asc vs
theorem asc_loop (vs:List Int) (hl:(vs.length:Int)≤9223372036854775807):∀ (d i:Nat),i+d=vs.length→Ev (fun k=>table_ascending.l0 k vs vs vs.length i) (chk 24 (prv vs i) (vs.drop i))
  | 0,i,h=>by
    rw [List.drop_eq_nil_of_le (by omega)]
    refine Ev.step (f:=fun _=>some 0) (fun k=>by rw [table_ascending.l0,if_neg (by omega)]) ?_
    cases prv vs i <;> exact Ev.now _
  | d+1,i,h=>by
    have hi:i<vs.length:=by omega
    have hw:=wrap_succ i vs.length hi hl
    have ih:=asc_loop vs hl d (i+1) (by omega)
    rw [prv_succ] at ih
    rw [rd_at vs i hi]
    have hj:rd vs i<0∨24≤rd vs i→∀ p,chk 24 p (rd vs i :: vs.drop (i+1))=6:=fun h p=>by cases p <;> simp only [chk] <;> rw [if_pos h]
    by_cases h0:rd vs i<0
    · rw [hj (.inl h0)]
      exact Ev.step (f:=fun _=>some 6) (fun k=>by rw [table_ascending.l0,if_pos (by omega),if_pos (by omega),if_pos (by omega),if_pos h0]) (Ev.now _)
    · by_cases h1:rd vs i≥24
      · rw [hj (.inr h1)]
        exact Ev.step (f:=fun _=>some 6) (fun k=>by rw [table_ascending.l0,if_pos (by omega),if_pos (by omega),if_pos (by omega),if_neg h0,if_pos h1]) (Ev.now _)
      · by_cases e:i=0
        · have ep:prv vs i=none:=by unfold prv;rw [if_pos e]
          rw [ep]
          simp only [chk]
          rw [if_neg (by omega)]
          refine Ev.step (fun k=>by rw [table_ascending.l0,if_pos (by omega),if_pos (by omega),if_pos (by omega),if_neg h0,if_neg h1,if_neg (by omega),hw]) ih
        · have ep:prv vs i=some (rd vs ((i:Int) - 1)):=by unfold prv;rw [if_neg e]
          rw [ep]
          simp only [chk]
          rw [if_neg (by omega)]
          by_cases h2:rd vs i≤rd vs ((i:Int) - 1)
          · rw [if_pos h2]
            exact Ev.step (f:=fun _=>some 18) (fun k=>by rw [table_ascending.l0,if_pos (by omega),if_pos (by omega),if_pos (by omega),if_neg h0,if_neg h1,if_pos (by omega),w64_in ((i:Int) - 1) (by omega),if_pos (by omega),if_pos (by omega),if_pos (by omega)]) (Ev.now _)
          · rw [if_neg h2]
            refine Ev.step (fun k=>by rw [table_ascending.l0,if_pos (by omega),if_pos (by omega),if_pos (by omega),if_neg h0,if_neg h1,if_pos (by omega),w64_in ((i:Int) - 1) (by omega),if_pos (by omega),if_pos (by omega),if_neg (by omega),hw]) ih
theorem asc_ev (vs:List Int) (hl:(vs.length:Int)≤9223372036854775807):Ev (fun k=>table_ascending.f k vs) (asc vs):=by
  unfold asc table_ascending.f
  refine ev_ite (fun _=>Ev.now _) (fun _=>?_)
  simpa [prv] using asc_loop vs hl vs.length 0 (by omega)
theorem valid_loop (vs rs:List Int) (hv:vs.length≤10) (hl:(rs.length:Int)≤9223372036854775807):∀ (d i:Nat),i+d=rs.length→Ev (fun k=>table_Valid.l0 k rs rs.length i vs rs) (chk ((2 ^ vs.length:Nat):Int) (prv rs i) (rs.drop i))
  | 0,i,h=>by
    rw [List.drop_eq_nil_of_le (by omega)]
    refine Ev.step (f:=fun _=>some 0) (fun k=>by rw [table_Valid.l0,if_neg (by omega)]) ?_
    cases prv rs i <;> exact Ev.now _
  | d+1,i,h=>by
    have hi:i<rs.length:=by omega
    have hw:=wrap_succ i rs.length hi hl
    have ih:=valid_loop vs rs hv hl d (i+1) (by omega)
    have hs:=shl1 vs.length (by omega)
    rw [prv_succ] at ih
    rw [rd_at rs i hi]
    have hj:rd rs i<0∨((2 ^ vs.length:Nat):Int)≤rd rs i→∀ p,chk ((2 ^ vs.length:Nat):Int) p (rd rs i :: rs.drop (i+1))=6:=fun h p=>by cases p <;> simp only [chk] <;> rw [if_pos h]
    by_cases h0:rd rs i<0
    · rw [hj (.inl h0)]
      exact Ev.step (f:=fun _=>some 6) (fun k=>by rw [table_Valid.l0,if_pos (by omega),if_pos (by omega),if_pos (by omega),if_pos h0]) (Ev.now _)
    · by_cases h1:rd rs i≥((2 ^ vs.length:Nat):Int)
      · rw [hj (.inr h1)]
        exact Ev.step (f:=fun _=>some 6) (fun k=>by rw [table_Valid.l0,if_pos (by omega),if_pos (by omega),if_pos (by omega),if_neg h0,hs,if_pos h1]) (Ev.now _)
      · by_cases e:i=0
        · have ep:prv rs i=none:=by unfold prv;rw [if_pos e]
          rw [ep]
          simp only [chk]
          rw [if_neg (by omega)]
          refine Ev.step (fun k=>by rw [table_Valid.l0,if_pos (by omega),if_pos (by omega),if_pos (by omega),if_neg h0,hs,if_neg h1,if_neg (by omega),hw]) ih
        · have ep:prv rs i=some (rd rs ((i:Int) - 1)):=by unfold prv;rw [if_neg e]
          rw [ep]
          simp only [chk]
          rw [if_neg (by omega)]
          by_cases h2:rd rs i≤rd rs ((i:Int) - 1)
          · rw [if_pos h2]
            exact Ev.step (f:=fun _=>some 18) (fun k=>by rw [table_Valid.l0,if_pos (by omega),if_pos (by omega),if_pos (by omega),if_neg h0,hs,if_neg h1,if_pos (by omega),w64_in ((i:Int) - 1) (by omega),if_pos (by omega),if_pos (by omega),if_pos (by omega)]) (Ev.now _)
          · rw [if_neg h2]
            refine Ev.step (fun k=>by rw [table_Valid.l0,if_pos (by omega),if_pos (by omega),if_pos (by omega),if_neg h0,hs,if_neg h1,if_pos (by omega),w64_in ((i:Int) - 1) (by omega),if_pos (by omega),if_pos (by omega),if_neg (by omega),hw]) ih
theorem asc_len {vs:List Int} (h:asc vs=0):vs.length≤10:=by
  unfold asc at h
  by_cases h1:(vs.length:Int)>10
  · rw [if_pos h1] at h;omega
  · omega
theorem valid_ev (vs rs:List Int) (hl:(vs.length:Int)≤9223372036854775807) (hr:(rs.length:Int)≤9223372036854775807):Ev (fun k=>table_Valid.f k vs rs) (valid vs rs):=by
  unfold valid
  refine Ev.bind (asc_ev vs hl) ?_
  refine ev_ite (fun h=>?_) (fun _=>Ev.now _)
  simpa [prv] using valid_loop vs rs (asc_len h) hr rs.length 0 (by omega)
structure VT (vs rs:List Int):Prop where
  len:vs.length≤10
  vars:Chn 24 none vs
  rows:Chn ((2 ^ vs.length:Nat):Int) none rs
theorem asc_iff (vs:List Int):asc vs=0↔vs.length≤10∧Chn 24 none vs:=by
  unfold asc
  by_cases h1:(vs.length:Int)>10
  · rw [if_pos h1];exact ⟨fun h=>by omega,fun h=>by omega⟩
  · rw [if_neg h1,chk_Chn];exact ⟨fun h=>⟨by omega,h⟩,fun h=>h.2⟩
theorem valid_VT (vs rs:List Int):valid vs rs=0↔VT vs rs:=by
  unfold valid
  by_cases h:asc vs=0
  · rw [if_pos h,chk_Chn]
    have:=(asc_iff vs).1 h
    exact ⟨fun h=>⟨this.1,this.2,h⟩,fun h=>h.rows⟩
  · rw [if_neg h]
    exact ⟨fun h2=>absurd h2 h,fun h2=>absurd ((asc_iff vs).2 ⟨h2.len,h2.vars⟩) h⟩
theorem Chn.mem {hi:Int}:∀ {ns:List Int} {p:Option Int},Chn hi p ns→∀ n,n∈ns→0≤n∧n<hi∧∀ q,p=some q→q<n
  | [],_,_,n,h=>by simp at h
  | m :: ns,p,⟨h0,h1,h2,h3⟩,n,h=>by
    rcases List.mem_cons.1 h with rfl|h
    · exact ⟨h0,h1,h2⟩
    · have:=Chn.mem h3 n h
      exact ⟨this.1,this.2.1,fun q hq=>by have:=this.2.2 m rfl;have:=h2 q hq;omega⟩
theorem Chn.weak {hi:Int}:∀ {ns:List Int} {p:Option Int},Chn hi p ns→Chn hi none ns
  | [],_,_=>trivial
  | _ :: _,_,⟨h0,h1,_,h3⟩=>⟨h0,h1,(fun q hq=>by cases hq),h3⟩
theorem Chn.same {hi hi':Int}:∀ {xs ys:List Int} {p q:Option Int},Chn hi p xs→Chn hi' q ys→(∀ n,n∈xs↔n∈ys)→xs=ys
  | [],[],_,_,_,_,_=>rfl
  | [],y :: ys,_,_,_,_,h=>by have:=(h y).2 List.mem_cons_self;simp at this
  | x :: xs,[],_,_,_,_,h=>by have:=(h x).1 List.mem_cons_self;simp at this
  | x :: xs,y :: ys,p,q,⟨a0,a1,a2,a3⟩,⟨b0,b1,b2,b3⟩,h=>by
    have e:x=y:=by
      rcases List.mem_cons.1 ((h x).1 List.mem_cons_self) with h1|h1
      · exact h1
      · rcases List.mem_cons.1 ((h y).2 List.mem_cons_self) with h2|h2
        · exact h2.symm
        · have:=(b3.mem x h1).2.2 y rfl
          have:=(a3.mem y h2).2.2 x rfl
          omega
    subst e
    refine congrArg (x :: ·) (Chn.same a3 b3 (fun n=>⟨fun hn=>?_,fun hn=>?_⟩))
    · rcases List.mem_cons.1 ((h n).1 (List.mem_cons_of_mem _ hn)) with h1|h1
      · have:=(a3.mem n hn).2.2 x rfl;omega
      · exact h1
    · rcases List.mem_cons.1 ((h n).2 (List.mem_cons_of_mem _ hn)) with h1|h1
      · have:=(b3.mem n hn).2.2 x rfl;omega
      · exact h1
theorem Chn.filter {hi:Int} (f:Int→Bool):∀ {xs:List Int} {p:Option Int},Chn hi p xs→Chn hi p (xs.filter f)
  | [],_,h=>h
  | x :: xs,p,⟨h0,h1,h2,h3⟩=>by
    have ih:=h3.filter f
    rw [List.filter_cons]
    split
    · exact ⟨h0,h1,h2,ih⟩
    · revert ih
      generalize xs.filter f=zs
      intro ih
      cases zs with
      | nil=>trivial
      | cons z zs=>exact ⟨ih.1,ih.2.1,fun q hq=>by have:=h2 q hq;have:=ih.2.2.1 x rfl;omega,ih.2.2.2⟩
theorem bit_add (b:Bool) (out i:Nat) (h:out<2 ^ i) (j:Nat):(out+b.toNat * 2 ^ i).testBit j=(out.testBit j||(b&&decide (j=i))):=by
  rw [show out+b.toNat * 2 ^ i=2 ^ i * b.toNat+out by rw [Nat.mul_comm,Nat.add_comm],Nat.testBit_two_pow_mul_add _ h]
  by_cases hj:j<i
  · rw [if_pos hj]
    have:decide (j=i)=false:=decide_eq_false (by omega)
    rw [this,Bool.and_false,Bool.or_false]
  · rw [if_neg hj]
    have h1:out.testBit j=false:=Nat.testBit_lt_two_pow (Nat.lt_of_lt_of_le h (Nat.pow_le_pow_right (by decide) (by omega)))
    rw [h1,Bool.false_or]
    by_cases e:j=i
    · subst e;rw [Nat.sub_self];cases b <;> simp
    · have:decide (j=i)=false:=decide_eq_false e
      rw [this,Bool.and_false]
      refine Nat.testBit_lt_two_pow ?_
      have h2:b.toNat<2:=by cases b <;> simp
      have h3:2 ^ 1≤2 ^ (j - i):=Nat.pow_le_pow_right (by decide) (by omega)
      omega
theorem add_lt (b:Bool) (out i:Nat) (h:out<2 ^ i):out+b.toNat * 2 ^ i<2 ^ (i+1):=by
  rw [Nat.pow_succ]
  cases b
  · simp;omega
  · simp;omega
theorem or_bit (x n i:Nat) (out:Nat) (hx:x<2 ^ 60) (hn:n≤60) (hi:i≤60) (ho:out<2 ^ i) :
    Go.bits .or .i64 (out:Int) (shl .i64 (Go.bits .and .i64 (shr .i64 (x:Int) (n:Int)) 1) (i:Int))=((out+(x.testBit n).toNat * 2 ^ i:Nat):Int):=by
  have hw:∀ z:Int,0≤z→z<2 ^ 62→IntKind.i64.wrap z=z:=fun z h0 h1=>by
    rw [IntKind.wrap_i64]
    have:(2:Int) ^ 62=4611686018427387904:=by decide
    omega
  have hb:IntKind.i64.bits=64:=rfl
  have h1:shr .i64 (x:Int) (n:Int)=((x / 2 ^ n:Nat):Int):=by
    unfold shr
    rw [hb,show min ((n:Int)).toNat 64=n by omega]
    simp
  have hxd:x / 2 ^ n<2 ^ 62:=Nat.lt_of_le_of_lt (Nat.div_le_self _ _) (Nat.lt_of_lt_of_le hx (by decide))
  have h2:Go.bits .and .i64 ((x / 2 ^ n:Nat):Int) 1=(((x.testBit n).toNat:Nat):Int):=by
    have:=(bits_nat .i64 62 (by decide) hw (x / 2 ^ n) 1 hxd (by decide)).1
    rw [Nat.and_one_is_mod,← Nat.toNat_testBit] at this
    exact this
  have hip:(2:Nat) ^ i≤2 ^ 60:=Nat.pow_le_pow_right (by decide) hi
  have h60:(2:Nat) ^ 60=1152921504606846976:=by decide
  have hbl:(x.testBit n).toNat * 2 ^ i≤2 ^ i:=by cases x.testBit n <;> simp
  have h3:shl .i64 (((x.testBit n).toNat:Nat):Int) (i:Int)=(((x.testBit n).toNat * 2 ^ i:Nat):Int):=by
    unfold shl
    rw [hb,show min ((i:Int)).toNat 64=i by omega]
    have e:(((x.testBit n).toNat:Nat):Int) * 2 ^ i=(((x.testBit n).toNat * 2 ^ i:Nat):Int):=by simp
    rw [e]
    exact hw _ (by omega) (by have:(2:Int) ^ 62=4611686018427387904:=by decide
                              omega)
  rw [h1,h2,h3]
  have h62:(2:Nat) ^ 62=4611686018427387904:=by decide
  rw [(bits_nat .i64 62 (by decide) hw out _ (by omega) (by omega)).2]
  congr 1
  rw [Nat.or_comm,Nat.mul_comm,← Nat.two_pow_add_eq_or_of_lt ho,Nat.add_comm]
def rowF (a:Nat):List Int→Nat→Nat→Nat
  | [],_,out=>out
  | v :: vs,i,out=>rowF a vs (i+1) (out+(a.testBit v.toNat).toNat * 2 ^ i)
def asgF (r:Nat):List Int→Nat→Nat→Nat
  | [],_,out=>out
  | v :: vs,i,out=>asgF r vs (i+1) (out+(r.testBit i).toNat * 2 ^ v.toNat)
theorem rowF_lt (a:Nat):∀ (vs:List Int) (i out:Nat),out<2 ^ i→rowF a vs i out<2 ^ (i+vs.length)
  | [],_,_,h=>h
  | v :: vs,i,out,h=>by
    have:=rowF_lt a vs (i+1) _ (add_lt (a.testBit v.toNat) out i h)
    rw [rowF,List.length_cons,show i+(vs.length+1)=i+1+vs.length by omega]
    exact this
theorem rowF_bit (a:Nat):∀ (vs:List Int) (i out:Nat),out<2 ^ i→∀ j,((rowF a vs i out).testBit j=true↔out.testBit j=true∨∃ m v,vs[m]?=some v∧j=i+m∧a.testBit v.toNat=true)
  | [],_,_,_,j=>by simp [rowF]
  | v :: vs,i,out,h,j=>by
    rw [rowF,rowF_bit a vs (i+1) _ (add_lt (a.testBit v.toNat) out i h) j,bit_add _ _ _ h]
    constructor
    · rintro (h1|⟨m,u,h1,h2,h3⟩)
      · rcases Bool.or_eq_true_iff.1 h1 with h1|h1
        · exact .inl h1
        · rw [Bool.and_eq_true,decide_eq_true_eq] at h1
          exact .inr ⟨0,v,rfl,by omega,h1.1⟩
      · exact .inr ⟨m+1,u,by simpa using h1,by omega,h3⟩
    · rintro (h1|⟨m,u,h1,h2,h3⟩)
      · exact .inl (by rw [h1];rfl)
      · cases m with
        | zero=>
          obtain rfl:v=u:=by simpa using h1
          exact .inl (by rw [h3,decide_eq_true (show j=i by omega)];simp)
        | succ m=>exact .inr ⟨m,u,by simpa using h1,by omega,h3⟩
def Under (out:Nat):List Int→Prop
  | []=>True
  | v :: _=>out<2 ^ v.toNat
theorem under_next {hi:Int} {v:Int} {vs:List Int} (h:Chn hi (some v) vs) (h0:0≤v) {out:Nat} (ho:out<2 ^ (v.toNat+1)):Under out vs:=by
  cases vs with
  | nil=>trivial
  | cons u us=>
    have:=h.2.2.1 v rfl
    exact Nat.lt_of_lt_of_le ho (Nat.pow_le_pow_right (by decide) (by omega))
theorem asgF_bit (r:Nat) {hi:Int}:∀ (vs:List Int) (p:Option Int) (i out:Nat),Chn hi p vs→Under out vs→∀ j,((asgF r vs i out).testBit j=true↔out.testBit j=true∨∃ m v,vs[m]?=some v∧j=v.toNat∧r.testBit (i+m)=true)
  | [],_,_,_,_,_,j=>by simp [asgF]
  | v :: vs,p,i,out,⟨h0,h1,h2,h3⟩,hu,j=>by
    have hl:=add_lt (r.testBit i) out v.toNat hu
    rw [asgF,asgF_bit r vs (some v) (i+1) _ h3 (under_next h3 h0 hl) j,bit_add _ _ _ hu]
    constructor
    · rintro (h1|⟨m,u,h1,h2,h3⟩)
      · rcases Bool.or_eq_true_iff.1 h1 with h1|h1
        · exact .inl h1
        · rw [Bool.and_eq_true,decide_eq_true_eq] at h1
          exact .inr ⟨0,v,rfl,h1.2,h1.1⟩
      · exact .inr ⟨m+1,u,by simpa using h1,h2,by rw [show i+(m+1)=i+1+m by omega];exact h3⟩
    · rintro (h1|⟨m,u,h1,h2,h3⟩)
      · exact .inl (by rw [h1];rfl)
      · cases m with
        | zero=>
          obtain rfl:v=u:=by simpa using h1
          rw [Nat.add_zero] at h3
          exact .inl (by rw [h3,decide_eq_true h2];simp)
        | succ m=>exact .inr ⟨m,u,by simpa using h1,h2,by rw [show i+1+m=i+(m+1) by omega];exact h3⟩
theorem asgF_lt (r:Nat) {hi:Int} (hhi:0≤hi):∀ (vs:List Int) (p:Option Int) (i out:Nat),Chn hi p vs→Under out vs→out<2 ^ hi.toNat→asgF r vs i out<2 ^ hi.toNat
  | [],_,_,_,_,_,ho=>ho
  | v :: vs,p,i,out,⟨h0,h1,h2,h3⟩,hu,_=>by
    have hl:=add_lt (r.testBit i) out v.toNat hu
    rw [asgF]
    refine asgF_lt r hhi vs (some v) (i+1) _ h3 (under_next h3 h0 hl) (Nat.lt_of_lt_of_le hl (Nat.pow_le_pow_right (by decide) (by omega)))
def row (vs:List Int) (a:Nat):Nat:=rowF a vs 0 0
def asg (vs:List Int) (r:Nat):Nat:=asgF r vs 0 0
theorem row_lt (vs:List Int) (a:Nat):row vs a<2 ^ vs.length:=by
  have:=rowF_lt a vs 0 0 (by decide)
  rw [Nat.zero_add] at this
  exact this
theorem row_bit (vs:List Int) (a j:Nat):(row vs a).testBit j=true↔∃ v,vs[j]?=some v∧a.testBit v.toNat=true:=by
  unfold row
  rw [rowF_bit a vs 0 0 (by decide)]
  constructor
  · rintro (h|⟨m,v,h1,h2,h3⟩)
    · simp at h
    · obtain rfl:j=m:=by omega
      exact ⟨v,h1,h3⟩
  · rintro ⟨v,h1,h2⟩
    exact .inr ⟨j,v,h1,by omega,h2⟩
theorem under_zero (vs:List Int):Under 0 vs:=by cases vs <;> simp [Under,Nat.two_pow_pos]
theorem asg_bit {hi:Int} {vs:List Int} (h:Chn hi none vs) (r j:Nat):(asg vs r).testBit j=true↔∃ m v,vs[m]?=some v∧j=v.toNat∧r.testBit m=true:=by
  unfold asg
  rw [asgF_bit r vs none 0 0 h (under_zero vs)]
  simp
theorem asg_lt {vs:List Int} (h:Chn 24 none vs) (r:Nat):asg vs r<2 ^ 24:=asgF_lt r (by decide) vs none 0 0 h (under_zero vs) (Nat.two_pow_pos _)
theorem Chn.inj {hi:Int}:∀ {vs:List Int} {p:Option Int},Chn hi p vs→∀ (i j:Nat) (u v:Int),vs[i]?=some u→vs[j]?=some v→u.toNat=v.toNat→i=j
  | [],_,_,i,j,u,v,h,_,_=>by simp at h
  | x :: xs,p,⟨h0,h1,h2,h3⟩,i,j,u,v,hi,hj,e=>by
    cases i with
    | zero=>
      obtain rfl:x=u:=by simpa using hi
      cases j with
      | zero=>rfl
      | succ j=>
        have hj':xs[j]?=some v:=by simpa using hj
        have:=h3.mem v (List.mem_of_getElem? hj')
        have:=this.2.2 x rfl
        omega
    | succ i=>
      have hi':xs[i]?=some u:=by simpa using hi
      cases j with
      | zero=>
        obtain rfl:x=v:=by simpa using hj
        have:=h3.mem u (List.mem_of_getElem? hi')
        have:=this.2.2 x rfl
        omega
      | succ j=>rw [Chn.inj h3 i j u v hi' (by simpa using hj) e]
theorem row_asg {hi:Int} {vs:List Int} (h:Chn hi none vs) {r:Nat} (hr:r<2 ^ vs.length):row vs (asg vs r)=r:=by
  apply Nat.eq_of_testBit_eq
  intro j
  rw [Bool.eq_iff_iff,row_bit]
  constructor
  · rintro ⟨v,hv,hb⟩
    obtain ⟨m,u,hm,e,hr⟩:=(asg_bit h r _).1 hb
    rw [h.inj j m v u hv hm e];exact hr
  · intro hb
    have hj:j<vs.length:=by
      rcases Nat.lt_or_ge j vs.length with h1|h1
      · exact h1
      · rw [Nat.testBit_lt_two_pow (Nat.lt_of_lt_of_le hr (Nat.pow_le_pow_right (by decide) h1))] at hb;exact absurd hb (by simp)
    exact ⟨vs[j],List.getElem?_eq_getElem hj,(asg_bit h r _).2 ⟨j,vs[j],List.getElem?_eq_getElem hj,rfl,hb⟩⟩

theorem nat_of {v:Int} (h:0≤v):v=((v.toNat:Nat):Int):=by omega
theorem Chn.below {hi:Int}:∀ {xs:List Int} {p:Option Int},Chn hi p xs→∀ (i j:Nat) (x y:Int),i<j→xs[i]?=some x→xs[j]?=some y→x<y
  | [],_,_,i,j,x,y,_,h,_=>by simp at h
  | z :: zs,p,⟨_,_,_,h3⟩,i,j,x,y,hij,hx,hy=>by
    cases j with
    | zero=>omega
    | succ j=>
      have hy':zs[j]?=some y:=by simpa using hy
      cases i with
      | zero=>
        obtain rfl:z=x:=by simpa using hx
        exact (h3.mem y (List.mem_of_getElem? hy')).2.2 z rfl
      | succ i=>exact Chn.below h3 i j x y (by omega) (by simpa using hx) hy'
theorem rd_get (xs:List Int) (i:Nat) (h:i<xs.length):xs[i]?=some (rd xs i):=by
  simp [rd,List.getD,List.getElem?_eq_getElem h]
def hs (vs rs:List Int) (a:Nat):Bool:=decide (((row vs a:Nat):Int)∈rs)
theorem VT.vars' {vs rs:List Int} (h:VT vs rs):∀ v,v∈vs→0≤v∧v<24:=fun v hv=>by have:=h.vars.mem v hv;omega
theorem Chn.len1 {hi:Int}:∀ {xs:List Int} {q:Int},Chn hi (some q) xs→0≤q→q<hi→(xs.length:Int)≤hi - 1 - q
  | [],_,_,_,_=>by simp;omega
  | x :: xs,q,⟨h0,h1,h2,h3⟩,_,_=>by
    have:=Chn.len1 h3 h0 h1
    have:=h2 q rfl
    simp only [List.length_cons]
    omega
theorem Chn.len {hi:Int} {xs:List Int} (h:Chn hi none xs) (h0:0≤hi):(xs.length:Int)≤hi:=by
  cases xs with
  | nil=>simpa using h0
  | cons x xs=>
    have:=Chn.len1 h.2.2.2 h.1 h.2.1
    have:=h.1
    simp only [List.length_cons]
    omega
theorem pow10 {n:Nat} (h:n≤10):2 ^ n≤1024:=by
  have:(2:Nat) ^ n≤2 ^ 10:=Nat.pow_le_pow_right (by decide) h
  omega
theorem VT.rows_len {vs rs:List Int} (h:VT vs rs):(rs.length:Int)≤1024:=by
  have h1:=h.rows.len (Int.natCast_nonneg _)
  have h2:=pow10 h.len
  generalize (2:Nat) ^ vs.length=z at h1 h2
  omega
def flt (t:Nat→Bool):Nat→Nat→List Int
  | 0,_=>[]
  | d+1,r=>if t r=true then (r:Int) :: flt t d (r+1) else flt t d (r+1)
theorem flt_mem (t:Nat→Bool):∀ (d r:Nat) (x:Int),x∈flt t d r↔∃ m:Nat,r≤m∧m<r+d∧t m=true∧x=m
  | 0,r,x=>by simp [flt];omega
  | d+1,r,x=>by
    have ih:=flt_mem t d (r+1) x
    rw [flt]
    by_cases h:t r=true
    · rw [if_pos h,List.mem_cons,ih]
      constructor
      · rintro (rfl|⟨m,h1,h2,h3⟩)
        · exact ⟨r,by omega,by omega,h,rfl⟩
        · exact ⟨m,by omega,by omega,h3⟩
      · rintro ⟨m,h1,h2,h3,h4⟩
        by_cases e:m=r
        · exact .inl (by rw [h4,e])
        · exact .inr ⟨m,by omega,by omega,h3,h4⟩
    · rw [if_neg h,ih]
      constructor
      · rintro ⟨m,h1,h2,h3⟩;exact ⟨m,by omega,by omega,h3⟩
      · rintro ⟨m,h1,h2,h3,h4⟩
        by_cases e:m=r
        · subst e;exact absurd h3 h
        · exact ⟨m,by omega,by omega,h3,h4⟩
theorem flt_chn (t:Nat→Bool):∀ (d r:Nat) (p:Option Int),(∀ q,p=some q→q<r)→Chn ((r+d:Nat):Int) p (flt t d r)
  | 0,_,_,_=>trivial
  | d+1,r,p,hp=>by
    have e:((r+(d+1):Nat):Int)=((r+1+d:Nat):Int):=by omega
    rw [flt,e]
    by_cases h:t r=true
    · rw [if_pos h]
      exact ⟨by omega,by omega,hp,flt_chn t d (r+1) _ (fun q hq=>by injection hq;omega)⟩
    · rw [if_neg h]
      exact flt_chn t d (r+1) p (fun q hq=>by have:=hp q hq;omega)
theorem chn_snoc {hi:Int} {x:Int} (h0:0≤x) (h1:x<hi):∀ {l:List Int} {p:Option Int},Chn hi p l→(∀ y,y∈l→y<x)→(∀ q,p=some q→q<x)→Chn hi p (l++[x])
  | [],_,_,_,hp=>⟨h0,h1,hp,trivial⟩
  | y :: l,p,⟨a0,a1,a2,a3⟩,hl,hp=>⟨a0,a1,a2,chn_snoc h0 h1 a3 (fun z hz=>hl z (List.mem_cons_of_mem _ hz)) (fun q hq=>by injection hq with hq;rw [← hq];exact hl y List.mem_cons_self)⟩
theorem compact_spec {hi:Int} (d:Array Int) (hd:∀ i j,i≤j→j<d.size→d[i]!≤d[j]!) (hr:∀ i,i<d.size→0≤d[i]!∧d[i]!<hi):∀ m,m≤d.size→Chn hi none (Lib.compactUpTo d m)∧∀ n,n∈Lib.compactUpTo d m↔∃ j,j<m∧d[j]! = n
  | 0,_=>⟨by simp [Lib.compactUpTo,Chn],fun n=>by simp [Lib.compactUpTo]⟩
  | m+1,hm=>by
    obtain ⟨h1,h2⟩:=compact_spec d hd hr m (by omega)
    have hrm:=hr m (by omega)
    rw [Lib.compactUpTo_succ]
    by_cases hk:Lib.keeps d m=true
    · rw [if_pos hk]
      have hk2:m=0∨d[m]!≠d[m - 1]!:=by simpa [Lib.keeps] using hk
      refine ⟨chn_snoc hrm.1 hrm.2 h1 (fun y hy=>?_) (fun q hq=>by cases hq),fun n=>?_⟩
      · obtain ⟨j,hj,rfl⟩:=(h2 y).1 hy
        have a1:=hd j (m - 1) (by omega) (by omega)
        have a2:=hd (m - 1) m (by omega) (by omega)
        rcases hk2 with h|h
        · omega
        · omega
      · rw [List.mem_append,h2]
        constructor
        · rintro (⟨j,hj,e⟩|h)
          · exact ⟨j,by omega,e⟩
          · exact ⟨m,by omega,by simpa using Eq.symm (List.mem_singleton.1 h)⟩
        · rintro ⟨j,hj,e⟩
          by_cases ej:j=m
          · subst ej;exact .inr (by simp [e])
          · exact .inl ⟨j,by omega,e⟩
    · rw [if_neg hk,List.append_nil]
      have hk2:¬ (m=0∨d[m]!≠d[m - 1]!):=by simpa [Lib.keeps] using hk
      refine ⟨h1,fun n=>?_⟩
      rw [h2]
      constructor
      · rintro ⟨j,hj,e⟩;exact ⟨j,by omega,e⟩
      · rintro ⟨j,hj,e⟩
        by_cases ej:j=m
        · subst ej
          exact ⟨j - 1,by omega,by rw [← e];exact (Classical.byContradiction fun hne=>hk2 (.inr (fun h=>hne h.symm)))⟩
        · exact ⟨j,by omega,e⟩
theorem sorted_compact {hi:Int} (l:List Int) (hr:∀ x,x∈l→0≤x∧x<hi):Chn hi none (Lib.compact (l.mergeSort fun x y=>decide (x≤y)))∧∀ n,n∈Lib.compact (l.mergeSort fun x y=>decide (x≤y))↔n∈l:=by
  have hp:=List.pairwise_mergeSort (le:=fun x y:Int=>decide (x≤y)) (fun a b c h1 h2=>by simp at *;omega) (fun a b=>by simp;omega) l
  have hperm:=List.mergeSort_perm l (fun x y:Int=>decide (x≤y))
  generalize hs:l.mergeSort (fun x y=>decide (x≤y))=s at hp hperm
  have hget:∀ i,i<s.length→s.toArray[i]! = s[i]!:=fun i hi=>by simp
  have key:=compact_spec (hi:=hi) s.toArray (fun i j hij hj=>by
    have hj':j<s.length:=by simpa using hj
    rw [hget i (by omega),hget j hj',List.getElem!_eq_getElem?_getD,List.getElem!_eq_getElem?_getD,List.getElem?_eq_getElem hj',List.getElem?_eq_getElem (show i<s.length by omega)]
    by_cases e:i=j
    · subst e;exact Int.le_refl _
    · have:=List.pairwise_iff_getElem.1 hp i j (by omega) hj' (by omega)
      simpa using this) (fun i hi2=>by
    have hi':i<s.length:=by simpa using hi2
    rw [hget i hi',List.getElem!_eq_getElem?_getD,List.getElem?_eq_getElem hi']
    exact hr _ (hperm.mem_iff.1 (List.getElem_mem hi'))) s.length (by simp)
  refine ⟨key.1,fun n=>?_⟩
  have h2:=key.2 n
  unfold Lib.compact
  rw [h2,← hperm.mem_iff]
  constructor
  · rintro ⟨j,hj,e⟩
    rw [hget j hj,List.getElem!_eq_getElem?_getD,List.getElem?_eq_getElem hj] at e
    exact e ▸ List.getElem_mem hj
  · intro hn
    obtain ⟨j,hj,e⟩:=List.getElem_of_mem hn
    exact ⟨j,hj,by rw [hget j hj,List.getElem!_eq_getElem?_getD,List.getElem?_eq_getElem hj];exact e⟩
theorem row_agree (vs:List Int) {x y:Nat} (h:∀ w,w∈vs→x.testBit w.toNat=y.testBit w.toNat):row vs x=row vs y:=by
  apply Nat.eq_of_testBit_eq
  intro j
  rw [Bool.eq_iff_iff,row_bit,row_bit]
  constructor
  · rintro ⟨v,hv,hb⟩;exact ⟨v,hv,by rw [← h v (List.mem_of_getElem? hv)];exact hb⟩
  · rintro ⟨v,hv,hb⟩;exact ⟨v,hv,by rw [h v (List.mem_of_getElem? hv)];exact hb⟩
theorem asg_at {hi:Int} {vs:List Int} (h:Chn hi none vs) (x:Nat) {w:Int} (hw:w∈vs):(asg vs (row vs x)).testBit w.toNat=x.testBit w.toNat:=by
  rw [Bool.eq_iff_iff,asg_bit h]
  obtain ⟨i,hi2⟩:=List.getElem?_of_mem hw
  constructor
  · rintro ⟨m,v,hv,e,hb⟩
    obtain ⟨u,hu,hb⟩:=(row_bit vs x m).1 hb
    rw [hv] at hu
    injection hu with hu
    rw [e,hu];exact hb
  · intro hb
    exact ⟨i,w,hi2,rfl,(row_bit vs x i).2 ⟨w,hi2,hb⟩⟩
theorem hs_agree (vs rs:List Int) {x y:Nat} (h:∀ w,w∈vs→x.testBit w.toNat=y.testBit w.toNat):hs vs rs x=hs vs rs y:=by
  unfold hs;rw [row_agree vs h]
theorem VT.row_of {vs rs:List Int} (h:VT vs rs) {r:Int} (hr:r∈rs):0≤r∧r.toNat<2 ^ vs.length∧row vs (asg vs r.toNat)=r.toNat:=by
  have h1:=h.rows.mem r hr
  have h2:r.toNat<2 ^ vs.length:=by
    have:=h1.2.1
    generalize 2 ^ vs.length=z at *
    omega
  exact ⟨h1.1,h2,row_asg h.vars h2⟩
theorem rasc_loop (vs:List Int) (hl:(vs.length:Int)≤9223372036854775807):∀ (d i:Nat),i+d=vs.length→Ev (fun k=>ancepsref38_Variables.l0 k vs i) (chk 24 (prv vs i) (vs.drop i))
  | 0,i,h=>by
    rw [List.drop_eq_nil_of_le (by omega)]
    refine Ev.step (f:=fun _=>some 0) (fun k=>by rw [ancepsref38_Variables.l0,if_neg (by omega)]) ?_
    cases prv vs i <;> exact Ev.now _
  | d+1,i,h=>by
    have hi:i<vs.length:=by omega
    have hw:=wrap_succ i vs.length hi hl
    have ih:=rasc_loop vs hl d (i+1) (by omega)
    rw [prv_succ] at ih
    rw [rd_at vs i hi]
    have hj:rd vs i<0∨24≤rd vs i→∀ p,chk 24 p (rd vs i :: vs.drop (i+1))=6:=fun h p=>by cases p <;> simp only [chk] <;> rw [if_pos h]
    by_cases h0:rd vs i<0
    · rw [hj (.inl h0)]
      exact Ev.step (f:=fun _=>some 6) (fun k=>by rw [ancepsref38_Variables.l0,if_pos (by omega),if_pos (by omega),if_pos h0]) (Ev.now _)
    · by_cases h1:rd vs i>23
      · rw [hj (.inr (by omega))]
        exact Ev.step (f:=fun _=>some 6) (fun k=>by rw [ancepsref38_Variables.l0,if_pos (by omega),if_pos (by omega),if_neg h0,if_pos h1]) (Ev.now _)
      · by_cases e:i=0
        · have ep:prv vs i=none:=by unfold prv;rw [if_pos e]
          rw [ep]
          simp only [chk]
          rw [if_neg (by omega)]
          refine Ev.step (fun k=>by rw [ancepsref38_Variables.l0,if_pos (by omega),if_pos (by omega),if_neg h0,if_neg h1,if_neg (by omega),hw]) ih
        · have ep:prv vs i=some (rd vs ((i:Int) - 1)):=by unfold prv;rw [if_neg e]
          rw [ep]
          simp only [chk]
          rw [if_neg (by omega)]
          by_cases h2:rd vs i≤rd vs ((i:Int) - 1)
          · rw [if_pos h2]
            exact Ev.step (f:=fun _=>some 18) (fun k=>by rw [ancepsref38_Variables.l0,if_pos (by omega),if_pos (by omega),if_neg h0,if_neg h1,if_pos (by omega),w64_in ((i:Int) - 1) (by omega),if_pos (by omega),if_pos (by omega),if_pos h2]) (Ev.now _)
          · rw [if_neg h2]
            refine Ev.step (fun k=>by rw [ancepsref38_Variables.l0,if_pos (by omega),if_pos (by omega),if_neg h0,if_neg h1,if_pos (by omega),w64_in ((i:Int) - 1) (by omega),if_pos (by omega),if_pos (by omega),if_neg h2,hw]) ih
theorem rasc_ev (vs:List Int) (hl:(vs.length:Int)≤9223372036854775807):Ev (fun k=>ancepsref38_Variables.f k vs) (asc vs):=by
  unfold asc ancepsref38_Variables.f
  refine ev_ite (fun _=>Ev.now _) (fun _=>?_)
  simpa [prv] using rasc_loop vs hl vs.length 0 (by omega)
theorem rvalid_loop (vs rs:List Int) (hv:vs.length≤10) (hl:(rs.length:Int)≤9223372036854775807):∀ (d i:Nat),i+d=rs.length→Ev (fun k=>ancepsref38_Valid.l0 k i vs rs) (chk ((2 ^ vs.length:Nat):Int) (prv rs i) (rs.drop i))
  | 0,i,h=>by
    rw [List.drop_eq_nil_of_le (by omega)]
    refine Ev.step (f:=fun _=>some 0) (fun k=>by rw [ancepsref38_Valid.l0,if_neg (by omega)]) ?_
    cases prv rs i <;> exact Ev.now _
  | d+1,i,h=>by
    have hi:i<rs.length:=by omega
    have hw:=wrap_succ i rs.length hi hl
    have ih:=rvalid_loop vs rs hv hl d (i+1) (by omega)
    have hs:=shl1 vs.length (by omega)
    rw [prv_succ] at ih
    rw [rd_at rs i hi]
    have hj:rd rs i<0∨((2 ^ vs.length:Nat):Int)≤rd rs i→∀ p,chk ((2 ^ vs.length:Nat):Int) p (rd rs i :: rs.drop (i+1))=6:=fun h p=>by cases p <;> simp only [chk] <;> rw [if_pos h]
    by_cases h0:rd rs i<0
    · rw [hj (.inl h0)]
      exact Ev.step (f:=fun _=>some 6) (fun k=>by rw [ancepsref38_Valid.l0,if_pos (by omega),if_pos (by omega),if_pos h0]) (Ev.now _)
    · by_cases h1:rd rs i≥((2 ^ vs.length:Nat):Int)
      · rw [hj (.inr h1)]
        exact Ev.step (f:=fun _=>some 6) (fun k=>by rw [ancepsref38_Valid.l0,if_pos (by omega),if_pos (by omega),if_neg h0,hs,if_pos h1]) (Ev.now _)
      · by_cases e:i=0
        · have ep:prv rs i=none:=by unfold prv;rw [if_pos e]
          rw [ep]
          simp only [chk]
          rw [if_neg (by omega)]
          refine Ev.step (fun k=>by rw [ancepsref38_Valid.l0,if_pos (by omega),if_pos (by omega),if_neg h0,hs,if_neg h1,if_neg (by omega),hw]) ih
        · have ep:prv rs i=some (rd rs ((i:Int) - 1)):=by unfold prv;rw [if_neg e]
          rw [ep]
          simp only [chk]
          rw [if_neg (by omega)]
          by_cases h2:rd rs i≤rd rs ((i:Int) - 1)
          · rw [if_pos h2]
            exact Ev.step (f:=fun _=>some 18) (fun k=>by rw [ancepsref38_Valid.l0,if_pos (by omega),if_pos (by omega),if_neg h0,hs,if_neg h1,if_pos (by omega),w64_in ((i:Int) - 1) (by omega),if_pos (by omega),if_pos (by omega),if_pos h2]) (Ev.now _)
          · rw [if_neg h2]
            refine Ev.step (fun k=>by rw [ancepsref38_Valid.l0,if_pos (by omega),if_pos (by omega),if_neg h0,hs,if_neg h1,if_pos (by omega),w64_in ((i:Int) - 1) (by omega),if_pos (by omega),if_pos (by omega),if_neg h2,hw]) ih
theorem rvalid_ev (vs rs:List Int) (hl:(vs.length:Int)≤9223372036854775807) (hr:(rs.length:Int)≤9223372036854775807):Ev (fun k=>ancepsref38_Valid.f k vs rs) (valid vs rs):=by
  unfold valid
  refine Ev.bind (rasc_ev vs hl) ?_
  refine ev_ite (fun h=>?_) (fun _=>Ev.now _)
  simpa [prv] using rvalid_loop vs rs (asc_len h) hr rs.length 0 (by omega)
theorem plus_bit (x n i out:Nat) (hn:n≤60) (hi:i≤30) (ho:out<2 ^ i):wrap64 ((out:Int)+shl .i64 (Int.tmod (shr .i64 (x:Int) (n:Int)) 2) (i:Int))=((out+(x.testBit n).toNat * 2 ^ i:Nat):Int):=by
  have hb:IntKind.i64.bits=64:=rfl
  have h1:shr .i64 (x:Int) (n:Int)=((x / 2 ^ n:Nat):Int):=by
    unfold shr
    rw [hb,show min ((n:Int)).toNat 64=n by omega]
    simp
  have h2:Int.tmod ((x / 2 ^ n:Nat):Int) 2=(((x.testBit n).toNat:Nat):Int):=by
    rw [Nat.toNat_testBit,Int.tmod_eq_emod_of_nonneg (Int.natCast_nonneg _)]
    simp
  have hip:(2:Nat) ^ i≤2 ^ 30:=Nat.pow_le_pow_right (by decide) hi
  have h30:(2:Nat) ^ 30=1073741824:=by decide
  have hbl:(x.testBit n).toNat * 2 ^ i≤2 ^ i:=by cases x.testBit n <;> simp
  have h3:shl .i64 (((x.testBit n).toNat:Nat):Int) (i:Int)=(((x.testBit n).toNat * 2 ^ i:Nat):Int):=by
    unfold shl
    rw [hb,show min ((i:Int)).toNat 64=i by omega]
    have e:(((x.testBit n).toNat:Nat):Int) * 2 ^ i=(((x.testBit n).toNat * 2 ^ i:Nat):Int):=by simp
    rw [e,IntKind.wrap_i64]
    omega
  rw [h1,h2,h3,w64_in _ (by omega)]
  omega
theorem rrow_loop (vs:List Int) (hv:∀ v,v∈vs→0≤v∧v<24) (hl:vs.length≤24) (a:Nat):∀ (d i out:Nat),i+d=vs.length→out<2 ^ i→
    Ev (fun k=>ancepsref38_Row.l0 k vs (a:Int) (out:Int) i) ((rowF a (vs.drop i) i out:Nat):Int)
  | 0,i,out,h,ho=>by
    rw [List.drop_eq_nil_of_le (by omega)]
    exact Ev.step (f:=fun _=>some (out:Int)) (fun k=>by rw [ancepsref38_Row.l0,if_neg (by omega)]) (Ev.now _)
  | d+1,i,out,h,ho=>by
    have hi:i<vs.length:=by omega
    have hw:=wrap_succ i vs.length hi (by omega)
    have hm:=hv _ (rd_mem vs i hi)
    have ih:=rrow_loop vs hv hl a d (i+1) _ (by omega) (add_lt (a.testBit (rd vs i).toNat) out i ho)
    rw [rd_at vs i hi,rowF]
    refine Ev.step (fun k=>?_) ih
    rw [ancepsref38_Row.l0,if_pos (by omega),if_pos (by omega),if_pos (by omega),hw]
    have hb:=plus_bit a (rd vs i).toNat i out (by omega) (by omega) ho
    rw [← nat_of hm.1] at hb
    rw [hb]
theorem rrow_ev (vs:List Int) (hv:∀ v,v∈vs→0≤v∧v<24) (hl:vs.length≤24) (a:Nat):Ev (fun k=>ancepsref38_Row.f k vs (a:Int)) ((row vs a:Nat):Int):=by
  have:=rrow_loop vs hv hl a vs.length 0 0 (by omega) (by decide)
  exact this
theorem rasg_loop {vs:List Int} (r:Nat) (hl:vs.length≤24):∀ (d i out:Nat) (p:Option Int),i+d=vs.length→Chn 24 p (vs.drop i)→Under out (vs.drop i)→
    Ev (fun k=>ancepsref38_Assignment.l0 k vs (r:Int) (out:Int) i) ((asgF r (vs.drop i) i out:Nat):Int)
  | 0,i,out,p,h,hc,ho=>by
    rw [List.drop_eq_nil_of_le (by omega)]
    exact Ev.step (f:=fun _=>some (out:Int)) (fun k=>by rw [ancepsref38_Assignment.l0,if_neg (by omega)]) (Ev.now _)
  | d+1,i,out,p,h,hc,ho=>by
    have hi:i<vs.length:=by omega
    have hw:=wrap_succ i vs.length hi (by omega)
    rw [rd_at vs i hi] at hc ho ⊢
    have hx:=add_lt (r.testBit i) out (rd vs i).toNat ho
    have ih:=rasg_loop r hl d (i+1) _ (some (rd vs i)) (by omega) hc.2.2.2 (under_next hc.2.2.2 hc.1 hx)
    rw [asgF]
    refine Ev.step (fun k=>?_) ih
    have h0:=hc.1
    have h1:=hc.2.1
    rw [ancepsref38_Assignment.l0,if_pos (by omega),if_pos (by omega),if_pos (by omega),hw]
    have hb:=plus_bit r i (rd vs i).toNat out (by omega) (by omega) ho
    rw [← nat_of h0] at hb
    rw [hb]
theorem rasg_ev {vs:List Int} (hc:Chn 24 none vs) (hl:vs.length≤24) (r:Nat):Ev (fun k=>ancepsref38_Assignment.f k vs (r:Int)) ((asg vs r:Nat):Int):=by
  have:=rasg_loop r hl vs.length 0 0 none (by omega) hc (under_zero _)
  exact this
theorem in_loop (rs:List Int) (hl:(rs.length:Int)≤9223372036854775807) (x:Int):∀ (d i:Nat),i+d=rs.length→Ev (fun k=>ancepsref38_in.l0 k rs x i) (decide (x∈rs.drop i))
  | 0,i,h=>by
    rw [List.drop_eq_nil_of_le (by omega)]
    exact Ev.step (f:=fun _=>some false) (fun k=>by rw [ancepsref38_in.l0,if_neg (by omega)]) (by simpa using Ev.now _)
  | d+1,i,h=>by
    have hi:i<rs.length:=by omega
    have hw:=wrap_succ i rs.length hi hl
    have ih:=in_loop rs hl x d (i+1) (by omega)
    rw [rd_at rs i hi]
    by_cases e:rd rs i=x
    · have:decide (x∈rd rs i :: rs.drop (i+1))=true:=by simp [e]
      rw [this]
      exact Ev.step (f:=fun _=>some true) (fun k=>by rw [ancepsref38_in.l0,if_pos (by omega),if_pos (by omega),if_pos e]) (Ev.now _)
    · have:decide (x∈rd rs i :: rs.drop (i+1))=decide (x∈rs.drop (i+1)):=by
        rw [decide_eq_decide,List.mem_cons]
        exact ⟨fun h=>by rcases h with h|h;exact absurd h.symm e;exact h,.inr⟩
      rw [this]
      exact Ev.step (fun k=>by rw [ancepsref38_in.l0,if_pos (by omega),if_pos (by omega),if_neg e,hw]) ih
theorem in_ev (rs:List Int) (hl:(rs.length:Int)≤9223372036854775807) (x:Int):Ev (fun k=>ancepsref38_in.f k rs x) (decide (x∈rs)):=by
  have:=in_loop rs hl x rs.length 0 (by omega)
  rw [List.drop_zero] at this
  exact this
theorem few_some (vs rs:List Int):∃ b,ancepsref38_Few.f vs rs=some b∧(b=true→vs.length≤12∧rs.length≤1030):=by
  unfold ancepsref38_Few.f
  by_cases h1:(vs.length:Int)≤12
  · rw [if_pos h1];exact ⟨_,rfl,fun h=>by have:=of_decide_eq_true h;omega⟩
  · rw [if_neg h1];exact ⟨_,rfl,fun h=>by simp at h⟩
theorem rdb_set (o:List Bool) (m n:Nat) (v:Bool) (hl:m<o.length):rdOf false (o.set m v) (n:Int)=if m=n then v else rdOf false o (n:Int):=by
  unfold rdOf
  rw [Int.toNat_natCast]
  by_cases h:m=n
  · subst h;rw [if_pos rfl,List.getD,List.getElem?_set_self hl];rfl
  · rw [if_neg h];simp [List.getD,List.getElem?_set_ne h]
theorem holds_ev {vs rs:List Int} (h:VT vs rs) (a:Nat):Ev (fun k=>ancepsref38_Holds.f k vs rs (a:Int)) (hs vs rs a):=by
  have h1:=h.rows_len
  have h2:=h.len
  exact Ev.bind (rrow_ev vs h.vars' (by omega) a) (Ev.bind (in_ev rs (by omega) _) (Ev.now _))
theorem srow_loop (vs rs:List Int) (hv:∀ v,v∈vs→0≤v∧v<24) (hl:vs.length≤24) (a:Nat) (ha:a<2 ^ 60):∀ (d i out:Nat),i+d=vs.length→out<2 ^ i→
    Ev (fun k=>solve_row.l0 k (a:Int) (out:Int) vs vs.length i) ((rowF a (vs.drop i) i out:Nat):Int)
  | 0,i,out,h,ho=>by
    rw [List.drop_eq_nil_of_le (by omega)]
    exact Ev.step (f:=fun _=>some (out:Int)) (fun k=>by rw [solve_row.l0,if_neg (by omega)]) (Ev.now _)
  | d+1,i,out,h,ho=>by
    have hi:i<vs.length:=by omega
    have hw:=wrap_succ i vs.length hi (by omega)
    have hm:=hv _ (rd_mem vs i hi)
    have ih:=srow_loop vs rs hv hl a ha d (i+1) _ (by omega) (add_lt (a.testBit (rd vs i).toNat) out i ho)
    rw [rd_at vs i hi,rowF]
    refine Ev.step (fun k=>?_) ih
    rw [solve_row.l0,if_pos (by omega),if_pos (by omega),if_pos (by omega),if_pos (by omega),hw]
    have hb:=or_bit a (rd vs i).toNat i out ha (by omega) (by omega) ho
    rw [← nat_of hm.1] at hb
    rw [hb]
theorem srow_ev (vs rs:List Int) (hv:∀ v,v∈vs→0≤v∧v<24) (hl:vs.length≤24) (a:Nat) (ha:a<2 ^ 60):Ev (fun k=>solve_row.f k vs rs (a:Int)) ((row vs a:Nat):Int):=by
  have:=srow_loop vs rs hv hl a ha vs.length 0 0 (by omega) (by decide)
  exact this
theorem rdT_at (l:List S49) (i:Nat) (hi:i<l.length):l.drop i=rd_T49 l i :: l.drop (i+1):=getD_drop l i z49 hi
theorem rdT_mem (l:List S49) (i:Nat) (hi:i<l.length):rd_T49 l i∈l:=by
  unfold rd_T49
  simp only [Int.toNat_natCast,List.getD,List.getElem?_eq_getElem hi,Option.getD_some]
  exact List.getElem_mem hi
def fstErr:List S49→Int
  | []=>0
  | t :: ts=>if valid t.f0 t.f1=0 then fstErr ts else valid t.f0 t.f1
def sysv (l:List S49):Int:=if (l.length:Int)>16 then 3 else fstErr l
def Sm (l:List S49):Prop:=∀ t,t∈l→t.f0.length≤1030∧t.f1.length≤1030
structure VS (l:List S49):Prop where
  len:l.length≤16
  tab:∀ t,t∈l→VT t.f0 t.f1
theorem fstErr_VT:∀ l:List S49,fstErr l=0↔∀ t,t∈l→VT t.f0 t.f1
  | []=>by simp [fstErr]
  | t :: ts=>by
    have ih:=fstErr_VT ts
    unfold fstErr
    by_cases h:valid t.f0 t.f1=0
    · rw [if_pos h,ih]
      exact ⟨fun h2 x hx=>by rcases List.mem_cons.1 hx with rfl|hx;exact (valid_VT _ _).1 h;exact h2 x hx,fun h2 x hx=>h2 x (List.mem_cons_of_mem _ hx)⟩
    · rw [if_neg h]
      exact ⟨fun h2=>absurd h2 h,fun h2=>absurd ((valid_VT _ _).2 (h2 t List.mem_cons_self)) h⟩
theorem sysv_VS (l:List S49):sysv l=0↔VS l:=by
  unfold sysv
  by_cases h:(l.length:Int)>16
  · rw [if_pos h];exact ⟨fun h2=>by omega,fun h2=>by have:=h2.len;omega⟩
  · rw [if_neg h,fstErr_VT];exact ⟨fun h2=>⟨by omega,h2⟩,fun h2=>h2.tab⟩
theorem svalid_loop (l:List S49) (hs:Sm l) (hl:l.length≤1000):∀ (d i:Nat),i+d=l.length→Ev (fun k=>solve_valid.l0 k l l.length i) (fstErr (l.drop i))
  | 0,i,h=>by
    rw [List.drop_eq_nil_of_le (by omega)]
    exact Ev.step (f:=fun _=>some 0) (fun k=>by rw [solve_valid.l0,if_neg (by omega)]) (Ev.now _)
  | d+1,i,h=>by
    have hi:i<l.length:=by omega
    have hw:=wrap_succ i l.length hi (by omega)
    have hm:=hs _ (rdT_mem l i hi)
    rw [rdT_at l i hi,fstErr]
    refine Ev.step (fun k=>by rw [solve_valid.l0,if_pos (by omega),if_pos (by omega),if_pos (by omega),hw]) (Ev.bind (valid_ev _ _ (by omega) (by omega)) ?_)
    exact ev_ite (fun _=>svalid_loop l hs hl d (i+1) (by omega)) (fun _=>Ev.now _)
theorem svalid_ev (l:List S49) (hs:Sm l) (hl:l.length≤1000):Ev (fun k=>solve_valid.f k l) (sysv l):=by
  unfold sysv solve_valid.f
  exact ev_ite (fun _=>Ev.now _) (fun _=>by simpa using svalid_loop l hs hl l.length 0 (by omega))
theorem rsvalid_loop (l:List S49) (hs:Sm l) (hl:l.length≤1000):∀ (d i:Nat),i+d=l.length→Ev (fun k=>ancepsref40_Valid.l0 k l i) (fstErr (l.drop i))
  | 0,i,h=>by
    rw [List.drop_eq_nil_of_le (by omega)]
    exact Ev.step (f:=fun _=>some 0) (fun k=>by rw [ancepsref40_Valid.l0,if_neg (by omega)]) (Ev.now _)
  | d+1,i,h=>by
    have hi:i<l.length:=by omega
    have hw:=wrap_succ i l.length hi (by omega)
    have hm:=hs _ (rdT_mem l i hi)
    rw [rdT_at l i hi,fstErr]
    refine Ev.step (fun k=>by rw [ancepsref40_Valid.l0,if_pos (by omega),if_pos (by omega),hw]) (Ev.bind (rvalid_ev _ _ (by omega) (by omega)) ?_)
    exact ev_ite (fun _=>rsvalid_loop l hs hl d (i+1) (by omega)) (fun _=>Ev.now _)
theorem rsvalid_ev (l:List S49) (hs:Sm l) (hl:l.length≤1000):Ev (fun k=>ancepsref40_Valid.f k l) (sysv l):=by
  unfold sysv ancepsref40_Valid.f
  exact ev_ite (fun _=>Ev.now _) (fun _=>by simpa using rsvalid_loop l hs hl l.length 0 (by omega))
theorem few_in (l:List S49) (Q:Prop) (rows:Int) (i:Nat) (hi:i<l.length) (hl:l.length≤18) (hv:(rd_T49 l i).f0.length≤1030)
    (H:∀ (seen:List Bool) (n:Int),seen.length=24→∃ b,Ev (fun k=>ancepsref40_Few.l0 k l seen n rows ((i+1:Nat):Int)) b∧(b=true→Q)) :
    ∀ (d j:Nat) (seen:List Bool) (n:Int),j+d=(rd_T49 l i).f0.length→seen.length=24→∃ b,Ev (fun k=>ancepsref40_Few.l1 k l seen n rows i j) b∧(b=true→Q)
  | 0,j,seen,n,h,hs=>by
    obtain ⟨b,hb,hq⟩:=H seen n hs
    have hw:=wrap_succ i l.length hi (by omega)
    exact ⟨b,Ev.step (fun k=>by rw [ancepsref40_Few.l1,if_pos (by omega),if_pos (by omega),if_neg (by omega),hw]) hb,hq⟩
  | d+1,j,seen,n,h,hs=>by
    have hj:j<(rd_T49 l i).f0.length:=by omega
    have hw:=wrap_succ j _ hj (by omega)
    by_cases h0:rd (rd_T49 l i).f0 j≥0
    · by_cases h1:rd (rd_T49 l i).f0 j<24
      · by_cases hb:rdOf false seen (rd (rd_T49 l i).f0 j)=true
        · obtain ⟨b,e,hq⟩:=few_in l Q rows i hi hl hv H d (j+1) seen n (by omega) hs
          exact ⟨b,Ev.step (fun k=>by rw [ancepsref40_Few.l1,if_pos (by omega),if_pos (by omega),if_pos (by omega),if_pos (by omega),if_pos h0,if_pos h1,if_pos (by omega),if_pos (by omega),if_pos hb,hw]) e,hq⟩
        · obtain ⟨b,e,hq⟩:=few_in l Q rows i hi hl hv H d (j+1) (seen.set (rd (rd_T49 l i).f0 j).toNat true) (wrap64 (n+1)) (by omega) (by rw [List.length_set];exact hs)
          exact ⟨b,Ev.step (fun k=>by rw [ancepsref40_Few.l1,if_pos (by omega),if_pos (by omega),if_pos (by omega),if_pos (by omega),if_pos h0,if_pos h1,if_pos (by omega),if_pos (by omega),if_neg hb,hw]) e,hq⟩
      · obtain ⟨b,e,hq⟩:=few_in l Q rows i hi hl hv H d (j+1) seen n (by omega) hs
        exact ⟨b,Ev.step (fun k=>by rw [ancepsref40_Few.l1,if_pos (by omega),if_pos (by omega),if_pos (by omega),if_pos (by omega),if_pos h0,if_neg h1,hw]) e,hq⟩
    · obtain ⟨b,e,hq⟩:=few_in l Q rows i hi hl hv H d (j+1) seen n (by omega) hs
      exact ⟨b,Ev.step (fun k=>by rw [ancepsref40_Few.l1,if_pos (by omega),if_pos (by omega),if_pos (by omega),if_pos (by omega),if_neg h0,hw]) e,hq⟩
theorem few_out (l:List S49) (hl:l.length≤18):∀ (d i:Nat) (seen:List Bool) (n rows:Int),i+d=l.length→seen.length=24→∃ b,Ev (fun k=>ancepsref40_Few.l0 k l seen n rows i) b∧(b=true→Sm (l.drop i))
  | 0,i,seen,n,rows,h,hs=>by
    rw [List.drop_eq_nil_of_le (by omega)]
    have hq:Sm []:=fun t ht=>by simp at ht
    by_cases hn:n≤10
    · exact ⟨_,Ev.step (f:=fun _=>some (decide (rows≤2000))) (fun k=>by rw [ancepsref40_Few.l0,if_neg (by omega),if_pos hn]) (Ev.now _),fun _=>hq⟩
    · exact ⟨false,Ev.step (f:=fun _=>some false) (fun k=>by rw [ancepsref40_Few.l0,if_neg (by omega),if_neg hn]) (Ev.now _),fun h=>by cases h⟩
  | d+1,i,seen,n,rows,h,hs=>by
    have hi:i<l.length:=by omega
    obtain ⟨b,hb,hf⟩:=few_some (rd_T49 l i).f0 (rd_T49 l i).f1
    cases b with
    | false=>exact ⟨false,Ev.step (f:=fun _=>some false) (fun k=>by rw [ancepsref40_Few.l0,if_pos (by omega),if_pos (by omega),hb];rfl) (Ev.now _),fun h=>by cases h⟩
    | true=>
      obtain ⟨f1,f2⟩:=hf rfl
      obtain ⟨b,e,hq⟩:=few_in l (Sm (l.drop (i+1))) (wrap64 (rows+((rd_T49 l i).f1.length:Int))) i hi hl (by omega)
        (fun seen n hs=>few_out l hl d (i+1) seen n _ (by omega) hs) (rd_T49 l i).f0.length 0 seen n (by omega) hs
      refine ⟨b,Ev.step (fun k=>by rw [ancepsref40_Few.l0,if_pos (by omega),if_pos (by omega),hb];rfl) e,fun h=>?_⟩
      rw [rdT_at l i hi]
      intro t ht
      rcases List.mem_cons.1 ht with rfl|ht
      · omega
      · exact hq h t ht
theorem sfew_ev (l:List S49):∃ b,Ev (fun k=>ancepsref40_Few.f k l) b∧(b=true→Sm l∧l.length≤18):=by
  unfold ancepsref40_Few.f
  by_cases h:(l.length:Int)>18
  · exact ⟨false,ev_pos h (Ev.now _),fun h=>by cases h⟩
  · obtain ⟨b,e,hq⟩:=few_out l (by omega) l.length 0 (List.replicate 24 false) 0 0 (by omega) (by simp)
    exact ⟨b,ev_neg h (ev_pos (by decide) (by simpa using e)),fun h2=>⟨by simpa using hq h2,by omega⟩⟩
def flat (l:List S49):List Int:=l.flatMap (·.f0)
def occ (l:List S49):List Int:=Lib.compact ((flat l).mergeSort fun x y=>decide (x≤y))
theorem VS.flat {l:List S49} (h:VS l):∀ v,v∈flat l→0≤v∧v<24:=fun v hv=>by
  obtain ⟨t,ht,hv⟩:=List.mem_flatMap.1 hv
  exact (h.tab t ht).vars' v hv
theorem VS.occ {l:List S49} (h:VS l):Chn 24 none (occ l)∧∀ v,v∈occ l↔v∈Pure.flat l:=sorted_compact (Pure.flat l) h.flat
theorem flat_cons (t:S49) (l:List S49):flat (t :: l)=t.f0++flat l:=by simp [flat]
theorem occ_loop (l:List S49) (hs:Sm l) (hl:l.length≤1000):∀ (d i:Nat) (acc:List Int),i+d=l.length→acc.length≤1030 * i→Ev (fun k=>solve_occurring.l0 k acc l l.length i) (Lib.compact ((acc++flat (l.drop i)).mergeSort fun x y=>decide (x≤y)))
  | 0,i,acc,h,ha=>by
    rw [List.drop_eq_nil_of_le (by omega),show flat []=[] from rfl,List.append_nil]
    refine Ev.step (fun k=>by rw [solve_occurring.l0,if_neg (by omega)]) ?_
    have hs:slices_Sort_int_int.f acc=some (acc.mergeSort fun x y=>decide (x≤y)):=by
      unfold slices_Sort_int_int.f
      rw [if_pos (by omega)]
    simp only [hs,Option.bind_some]
    exact Ev.now _
  | d+1,i,acc,h,ha=>by
    have hi:i<l.length:=by omega
    have hw:=wrap_succ i l.length hi (by omega)
    have hm:=hs _ (rdT_mem l i hi)
    have ih:=occ_loop l hs hl d (i+1) (acc++(rd_T49 l i).f0) (by omega) (by rw [List.length_append];omega)
    rw [rdT_at l i hi,flat_cons,← List.append_assoc]
    exact Ev.step (fun k=>by rw [solve_occurring.l0,if_pos (by omega),if_pos (by omega),if_pos (by omega),if_pos (by omega),hw]) ih
theorem occ_ev (l:List S49) (hs:Sm l) (hl:l.length≤1000):Ev (fun k=>solve_occurring.f k l) (occ l):=by
  have:=occ_loop l hs hl l.length 0 [] (by omega) (by simp)
  rw [List.nil_append,List.drop_zero] at this
  exact this
def fillV:List Int→List Bool→List Bool
  | [],s=>s
  | v :: vs,s=>fillV vs (s.set v.toNat true)
theorem fillV_length:∀ (vs:List Int) (s:List Bool),(fillV vs s).length=s.length
  | [],_=>rfl
  | v :: vs,s=>by rw [fillV,fillV_length,List.length_set]
theorem fillV_at:∀ (vs:List Int) (s:List Bool),(∀ v,v∈vs→0≤v∧v<(s.length:Int))→∀ m:Nat,rdOf false (fillV vs s) (m:Int)=(rdOf false s (m:Int)||decide ((m:Int)∈vs))
  | [],s,_,m=>by simp [fillV]
  | v :: vs,s,h,m=>by
    have hv:=h v List.mem_cons_self
    rw [fillV,fillV_at vs _ (fun x hx=>by rw [List.length_set];exact h x (List.mem_cons_of_mem _ hx)),rdb_set s v.toNat m true (by omega)]
    by_cases e:v.toNat=m
    · rw [if_pos e,Bool.true_or]
      have:(m:Int)=v:=by omega
      simp [this]
    · rw [if_neg e]
      have:(m:Int)≠v:=by omega
      simp [this]
theorem vars_in (l:List S49) (i:Nat) (hi:i<l.length) (hl:l.length≤16) (hv:(rd_T49 l i).f0.length≤1030) (hr:∀ v,v∈(rd_T49 l i).f0→0≤v∧v<24) (r:List Int) :
    ∀ (d j:Nat) (seen:List Bool),j+d=(rd_T49 l i).f0.length→seen.length=24→Ev (fun k=>ancepsref40_Vars.l0 k l (fillV ((rd_T49 l i).f0.drop j) seen) ((i+1:Nat):Int)) r→Ev (fun k=>ancepsref40_Vars.l1 k l seen i j) r
  | 0,j,seen,h,hs,H=>by
    rw [List.drop_eq_nil_of_le (by omega)] at H
    have hw:=wrap_succ i l.length hi (by omega)
    exact Ev.step (fun k=>by rw [ancepsref40_Vars.l1,if_pos (by omega),if_pos (by omega),if_neg (by omega),hw];rfl) H
  | d+1,j,seen,h,hs,H=>by
    have hj:j<(rd_T49 l i).f0.length:=by omega
    have hw:=wrap_succ j _ hj (by omega)
    have hm:=hr _ (rd_mem (rd_T49 l i).f0 j hj)
    rw [rd_at _ j hj,fillV] at H
    have ih:=vars_in l i hi hl hv hr r d (j+1) (seen.set (rd (rd_T49 l i).f0 j).toNat true) (by omega) (by rw [List.length_set];exact hs) H
    exact Ev.step (fun k=>by rw [ancepsref40_Vars.l1,if_pos (by omega),if_pos (by omega),if_pos (by omega),if_pos (by omega),if_pos (by omega),if_pos (by omega),hw]) ih
theorem vars_out (seen:List Bool) (hs:seen.length=24):∀ (d v:Nat) (acc:List Int),v+d=24→acc.length≤v→Ev (fun k=>ancepsref40_Vars.l2 k seen acc v) (acc++flt (fun m=>rdOf false seen (m:Int)) d v)
  | 0,v,acc,h,ha=>by
    exact Ev.step (f:=fun _=>some acc) (fun k=>by rw [ancepsref40_Vars.l2,if_neg (by omega)]) (by simpa [flt] using Ev.now _)
  | d+1,v,acc,h,ha=>by
    have hw:wrap64 ((v:Int)+1)=((v+1:Nat):Int):=by rw [w64_in _ (by omega)];omega
    rw [flt]
    by_cases e:rdOf false seen (v:Int)=true
    · have ih:=vars_out seen hs d (v+1) (acc++[(v:Int)]) (by omega) (by simp;omega)
      rw [if_pos e]
      rw [List.append_assoc,List.singleton_append] at ih
      exact Ev.step (fun k=>by rw [ancepsref40_Vars.l2,if_pos (by omega),if_pos (by omega),if_pos (by omega),if_pos e,if_pos (by omega),hw]) ih
    · have ih:=vars_out seen hs d (v+1) acc (by omega) (by omega)
      rw [if_neg e]
      exact Ev.step (fun k=>by rw [ancepsref40_Vars.l2,if_pos (by omega),if_pos (by omega),if_pos (by omega),if_neg e,hw]) ih
theorem vars_loop (l:List S49) (h:VS l):∀ (d i:Nat) (seen:List Bool),i+d=l.length→seen.length=24→Ev (fun k=>ancepsref40_Vars.l0 k l seen i) (flt (fun m=>rdOf false (fillV (flat (l.drop i)) seen) (m:Int)) 24 0)
  | 0,i,seen,hd,hs=>by
    rw [List.drop_eq_nil_of_le (by omega)]
    have:=vars_out seen hs 24 0 [] (by omega) (by simp)
    rw [List.nil_append] at this
    exact Ev.step (fun k=>by rw [ancepsref40_Vars.l0,if_neg (by omega)];rfl) this
  | d+1,i,seen,hd,hs=>by
    have hi:i<l.length:=by omega
    have hm:=h.tab _ (rdT_mem l i hi)
    have ih:=vars_loop l h d (i+1) (fillV (rd_T49 l i).f0 seen) (by omega) (by rw [fillV_length];exact hs)
    have hap:∀ (a b:List Int) (s:List Bool),fillV (a++b) s=fillV b (fillV a s):=by
      intro a
      induction a with
      | nil=>intro b s;rfl
      | cons x xs ihx=>intro b s;rw [List.cons_append,fillV,fillV,ihx]
    rw [rdT_at l i hi,flat_cons,hap]
    have key:=vars_in l i hi h.len (by have:=hm.len;omega) hm.vars' _ (rd_T49 l i).f0.length 0 seen (by omega) hs (by rw [List.drop_zero];exact ih)
    exact Ev.step (fun k=>by rw [ancepsref40_Vars.l0,if_pos (by omega)];rfl) key
theorem rvars_ev {l:List S49} (h:VS l) (hs:Sm l):Ev (fun k=>ancepsref40_Vars.f k l) (occ l):=by
  have hl:=h.len
  refine Ev.bind (rsvalid_ev l hs (by omega)) (ev_pos ((sysv_VS l).2 h) (ev_pos (by decide) ?_))
  refine ev_eq (vars_loop l h l.length 0 (List.replicate 24 false) (by omega) (by simp)) ?_
  rw [List.drop_zero]
  have h24:=flt_chn (fun m=>rdOf false (fillV (flat l) (List.replicate 24 false)) (m:Int)) 24 0 none (fun q hq=>by cases hq)
  refine Chn.same h24 h.occ.1 (fun n=>?_)
  rw [h.occ.2,flt_mem]
  have hat:=fillV_at (flat l) (List.replicate 24 false) (fun v hv=>by have:=h.flat v hv;simp;omega)
  have hz:∀ m:Nat,rdOf false (List.replicate 24 false) (m:Int)=false:=by
    intro m
    unfold rdOf
    simp only [Int.toNat_natCast,List.getD_eq_getElem?_getD,List.getElem?_replicate]
    split <;> rfl
  constructor
  · rintro ⟨m,_,hm,ht,rfl⟩
    rw [hat,hz,Bool.false_or,decide_eq_true_eq] at ht
    exact ht
  · intro hn
    have:=h.flat n hn
    refine ⟨n.toNat,by omega,by omega,?_,by omega⟩
    rw [hat,hz,Bool.false_or,decide_eq_true_eq,← nat_of this.1]
    exact hn

theorem index_loop (l:List Int) (hl:(l.length:Int)≤9223372036854775807) (x:Int):∀ (d i:Nat),i+d=l.length→∃ q:Int,Ev (fun k=>slices_Index_int_int.l0 k l x l.length i) q∧decide (q≥0)=decide (x∈l.drop i)
  | 0,i,h=>by
    rw [List.drop_eq_nil_of_le (by omega)]
    exact ⟨-1,Ev.step (f:=fun _=>some (-1)) (fun k=>by rw [slices_Index_int_int.l0,if_neg (by omega)]) (Ev.now _),by simp⟩
  | d+1,i,h=>by
    have hi:i<l.length:=by omega
    have hw:=wrap_succ i l.length hi hl
    obtain ⟨q,hq,hq2⟩:=index_loop l hl x d (i+1) (by omega)
    rw [rd_at l i hi]
    by_cases e:x=rd l i
    · exact ⟨i,Ev.step (f:=fun _=>some (i:Int)) (fun k=>by rw [slices_Index_int_int.l0,if_pos (by omega),if_pos (by omega),if_pos (by omega),if_pos e]) (Ev.now _),decide_eq_decide.2 ⟨fun _=>by rw [e];exact List.mem_cons_self,fun _=>by omega⟩⟩
    · refine ⟨q,Ev.step (fun k=>by rw [slices_Index_int_int.l0,if_pos (by omega),if_pos (by omega),if_pos (by omega),if_neg e,hw]) hq,?_⟩
      rw [hq2,decide_eq_decide,List.mem_cons]
      exact ⟨.inr,fun h=>by rcases h with h|h;exact absurd h e;exact h⟩
theorem contains_ev (l:List Int) (hl:(l.length:Int)≤9223372036854775807) (x:Int):Ev (fun k=>slices_Contains_int_int.f k l x) (decide (x∈l)):=by
  obtain ⟨q,hq,hq2⟩:=index_loop l hl x l.length 0 (by omega)
  rw [List.drop_zero] at hq2
  rw [← hq2]
  exact Ev.bind hq (Ev.now _)

theorem bits_andNot (a b:Nat) (ha:a<2 ^ 62) (hb:b<2 ^ 62):Go.bits .andNot .i64 (a:Int) (b:Int)=((a&&& (a ^^^ b):Nat):Int):=by
  have h62:(2:Nat) ^ 62=4611686018427387904:=by decide
  have h64:(2:Nat) ^ IntKind.i64.bits=18446744073709551616:=by decide
  have hx:a&&& (a ^^^ b)≤a:=Nat.and_le_left
  have ha':a % 2 ^ IntKind.i64.bits=a:=Nat.mod_eq_of_lt (by omega)
  have hb':b % 2 ^ IntKind.i64.bits=b:=Nat.mod_eq_of_lt (by omega)
  have e:∀ x y:BitVec IntKind.i64.bits,x&&& ~~~y=x&&& (x ^^^ y):=by
    intro x y
    ext i hi
    simp only [BitVec.getElem_and,BitVec.getElem_not,BitVec.getElem_xor]
    cases x[i] <;> cases y[i] <;> rfl
  simp only [Go.bits,BitVec.ofInt_natCast,e,BitVec.toNat_and,BitVec.toNat_xor,BitVec.toNat_ofNat,ha',hb']
  rw [IntKind.wrap_i64]
  omega
def mask:List Int→Nat→Nat
  | [],m=>m
  | v :: vs,m=>mask vs (m||| 2 ^ v.toNat)
theorem mask_bit:∀ (vs:List Int) (m j:Nat),(mask vs m).testBit j=(m.testBit j||vs.any fun v=>v.toNat == j)
  | [],m,j=>by simp [mask]
  | v :: vs,m,j=>by
    rw [mask,mask_bit vs,Nat.testBit_or,Nat.testBit_two_pow,List.any_cons,Bool.or_assoc]
    congr 1
theorem mask_lt:∀ (vs:List Int) (m:Nat),(∀ v,v∈vs→0≤v∧v<24)→m<2 ^ 24→mask vs m<2 ^ 24
  | [],m,_,h=>h
  | v :: vs,m,hv,h=>mask_lt vs _ (fun x hx=>hv x (List.mem_cons_of_mem _ hx)) (Nat.or_lt_two_pow h (Nat.pow_lt_pow_right (by decide) (by have:=hv v List.mem_cons_self;omega)))
theorem asgrow_bit {hi:Int} {vs:List Int} (h:Chn hi none vs) (a j:Nat):(asg vs (row vs a)).testBit j=(a.testBit j&&(mask vs 0).testBit j):=by
  rw [mask_bit,Nat.zero_testBit,Bool.false_or,Bool.eq_iff_iff,asg_bit h,Bool.and_eq_true,List.any_eq_true]
  constructor
  · rintro ⟨m,v,hv,rfl,hb⟩
    obtain ⟨u,hu,hb⟩:=(row_bit vs a m).1 hb
    rw [hv] at hu
    injection hu with hu
    exact ⟨by rw [hu];exact hb,v,List.mem_of_getElem? hv,by simp⟩
  · rintro ⟨hb,v,hv,e⟩
    obtain ⟨i,hi2⟩:=List.getElem?_of_mem hv
    have e2:v.toNat=j:=by simpa using e
    exact ⟨i,v,hi2,e2.symm,(row_bit vs a i).2 ⟨v,hi2,by rw [e2];exact hb⟩⟩
theorem asgrow_iff {hi:Int} {vs:List Int} (h:Chn hi none vs) (a:Nat):asg vs (row vs a)=a↔a&&& (a ^^^ mask vs 0)=0:=by
  constructor
  · intro e
    apply Nat.eq_of_testBit_eq
    intro j
    have:=asgrow_bit h a j
    rw [e] at this
    rw [Nat.testBit_and,Nat.testBit_xor,Nat.zero_testBit]
    revert this
    cases a.testBit j <;> cases (mask vs 0).testBit j <;> simp
  · intro e
    apply Nat.eq_of_testBit_eq
    intro j
    rw [asgrow_bit h]
    have:=congrArg (fun z=>z.testBit j) e
    simp only [Nat.testBit_and,Nat.testBit_xor,Nat.zero_testBit] at this
    revert this
    cases a.testBit j <;> cases (mask vs 0).testBit j <;> simp
theorem hmask_loop (l:List S49) (vs:List Int) (hv:∀ v,v∈vs→0≤v∧v<24) (hl:vs.length≤24) (a:Int) (r:Bool):∀ (d i m:Nat),i+d=vs.length→m<2 ^ 24→
    Ev (fun k=>if (Go.bits .andNot .i64 a ((mask (vs.drop i) m:Nat):Int))=0 then ((api_Table_solve_Holds_1.f k l a).bind fun t=>(some (!t))) else (some false)) r→Ev (fun k=>solve_Holds.l0 k l (m:Int) vs vs.length i a) r
  | 0,i,m,h,hm,H=>by
    rw [List.drop_eq_nil_of_le (by omega)] at H
    exact Ev.step (fun k=>by rw [solve_Holds.l0,if_neg (by omega)];rfl) H
  | d+1,i,m,h,hm,H=>by
    have hi:i<vs.length:=by omega
    have hw:=wrap_succ i vs.length hi (by omega)
    have h1:=hv _ (rd_mem vs i hi)
    rw [rd_at vs i hi,mask] at H
    have ih:=hmask_loop l vs hv hl a r d (i+1) _ (by omega) (Nat.or_lt_two_pow hm (Nat.pow_lt_pow_right (by decide) (by omega))) H
    refine Ev.step (fun k=>?_) ih
    rw [solve_Holds.l0,if_pos (by omega),if_pos (by omega),if_pos (by omega),if_pos (by omega),hw]
    have e:=shl1 (rd vs i).toNat (by omega)
    rw [← nat_of h1.1] at e
    have hp:2 ^ (rd vs i).toNat<2 ^ 24:=Nat.pow_lt_pow_right (by decide) (by omega)
    have hw2:∀ z:Int,0≤z→z<2 ^ 62→IntKind.i64.wrap z=z:=fun z h0 h1=>by
      rw [IntKind.wrap_i64]
      have:(2:Int) ^ 62=4611686018427387904:=by decide
      omega
    have h62:(2:Nat) ^ 24≤2 ^ 62:=by decide
    rw [e,(bits_nat .i64 62 (by decide) hw2 m _ (by omega) (by omega)).2]
theorem shold_loop {l:List S49} (h:VS l) (a:Nat) (ha:a<2 ^ 24):∀ (d i:Nat),i+d=l.length→∃ q:Int,Ev (fun k=>api_Table_solve_Holds_1_v2.l0 k l l.length i (a:Int)) q∧decide (q≥0)=(l.drop i).any fun t=>!hs t.f0 t.f1 a
  | 0,i,hd=>by
    rw [List.drop_eq_nil_of_le (by omega)]
    exact ⟨-1,Ev.step (f:=fun _=>some (-1)) (fun k=>by rw [api_Table_solve_Holds_1_v2.l0,if_neg (by omega)]) (Ev.now _),rfl⟩
  | d+1,i,hd=>by
    have hi:i<l.length:=by omega
    have hl:=h.len
    have hw:=wrap_succ i l.length hi (by omega)
    have hm:=h.tab _ (rdT_mem l i hi)
    have hr:=hm.rows_len
    obtain ⟨q,hq,hq2⟩:=shold_loop h a ha d (i+1) (by omega)
    have h1:Ev (fun k=>solve_Holds_1_v1.f k (rd_T49 l i).f0 (rd_T49 l i).f1 (a:Int)) (!hs (rd_T49 l i).f0 (rd_T49 l i).f1 a):=
      Ev.bind (srow_ev _ _ hm.vars' (by have:=hm.len;omega) a (Nat.lt_of_lt_of_le ha (by decide))) (Ev.bind (contains_ev _ (by omega) _) (Ev.now _))
    rw [rdT_at l i hi,List.any_cons]
    by_cases e:(!hs (rd_T49 l i).f0 (rd_T49 l i).f1 a)=true
    · rw [e] at h1 ⊢
      exact ⟨i,Ev.step (fun k=>by rw [api_Table_solve_Holds_1_v2.l0,if_pos (by omega),if_pos (by omega),if_pos (by omega)]) (Ev.bind h1 (ev_pos rfl (Ev.now _))),by rw [Bool.true_or];exact decide_eq_true (by omega)⟩
    · rw [Bool.not_eq_true] at e
      rw [e] at h1 ⊢
      exact ⟨q,Ev.step (fun k=>by rw [api_Table_solve_Holds_1_v2.l0,if_pos (by omega),if_pos (by omega),if_pos (by omega),hw]) (Ev.bind h1 (ev_neg Bool.false_ne_true hq)),by rw [Bool.false_or];exact hq2⟩
def hsS (l:List S49) (a:Nat):Bool:=decide (asg (occ l) (row (occ l) a)=a)&&l.all fun t=>hs t.f0 t.f1 a
def hld (l:List S49) (a:Int):Bool:=if sysv l=0 then if a<0 then false else if a≥16777216 then false else hsS l a.toNat else false
theorem VS.occ' {l:List S49} (h:VS l):∀ v,v∈Pure.occ l→0≤v∧v<24:=fun v hv=>by have:=h.occ.1.mem v hv;omega
theorem VS.occ_len {l:List S49} (h:VS l):(Pure.occ l).length≤24:=by have:=h.occ.1.len (by decide);omega
theorem dhold_ev (l:List S49) (hs':Sm l) (hl:l.length≤1000) (a:Int):Ev (fun k=>solve_Holds.f k l a) (hld l a):=by
  refine Ev.bind (svalid_ev l hs' hl) (ev_ite (fun h=>ev_ite (fun _=>Ev.now _) (fun h0=>?_)) (fun _=>Ev.now _))
  have hv:=(sysv_VS l).1 h
  by_cases h1:a≥16777216
  · rw [if_pos h1];exact ev_pos h1 (Ev.now _)
  · rw [if_neg h1]
    refine ev_neg h1 (Ev.bind (occ_ev l hs' hl) ?_)
    have h24:(2:Nat) ^ 24=16777216:=by decide
    have ha:a.toNat<2 ^ 24:=by omega
    refine hmask_loop l (occ l) hv.occ' hv.occ_len a _ (occ l).length 0 0 (by omega) (by decide) ?_
    rw [List.drop_zero]
    have hm:=mask_lt (occ l) 0 hv.occ' (by decide)
    have e:Go.bits .andNot .i64 a ((mask (occ l) 0:Nat):Int)=((a.toNat&&& (a.toNat ^^^ mask (occ l) 0):Nat):Int):=by
      have:=bits_andNot a.toNat (mask (occ l) 0) (Nat.lt_of_lt_of_le ha (by decide)) (Nat.lt_of_lt_of_le hm (by decide))
      rw [← nat_of (by omega)] at this
      exact this
    have iff:=asgrow_iff hv.occ.1 a.toNat
    unfold hsS
    by_cases c:asg (occ l) (row (occ l) a.toNat)=a.toNat
    · have c2:=iff.1 c
      rw [decide_eq_true c,Bool.true_and]
      refine ev_pos (by rw [e,c2];rfl) ?_
      obtain ⟨q,hq,hq2⟩:=shold_loop hv a.toNat ha l.length 0 (by omega)
      rw [← nat_of (by omega),List.drop_zero] at *
      refine Ev.bind (show Ev (fun k=>api_Table_solve_Holds_1.f k l a) (decide (q≥0)) from Ev.bind hq (Ev.now _)) ?_
      rw [hq2]
      refine ev_eq (Ev.now _) ?_
      rw [List.any_eq_not_all_not,Bool.not_not]
      (try simp only [Bool.not_not])
    · rw [decide_eq_false c,Bool.false_and]
      refine ev_neg (fun h2=>c (iff.2 ?_)) (Ev.now _)
      rw [e] at h2
      exact_mod_cast h2
def fl (t:S49) (C V:Nat):Bool:=!(t.f1.any fun r=>r.toNat&&& row t.f0 C == row t.f0 V)
theorem w62:∀ z:Int,0≤z→z<2 ^ 62→IntKind.i64.wrap z=z:=fun z h0 h1=>by
  rw [IntKind.wrap_i64]
  have:(2:Int) ^ 62=4611686018427387904:=by decide
  omega
theorem ifun_loop (rs:List Int) (hl:(rs.length:Int)≤9223372036854775807) (hr:∀ r,r∈rs→0≤r∧r.toNat<2 ^ 62) (m w:Nat) (hm:m<2 ^ 62):∀ (d i:Nat),i+d=rs.length→
    ∃ q:Int,Ev (fun k=>slices_IndexFunc_int_int_solve_choices_fails_1.l0 k rs rs.length i (m:Int) (w:Int)) q∧decide (q≥0)=(rs.drop i).any fun r=>r.toNat&&& m == w
  | 0,i,h=>by
    rw [List.drop_eq_nil_of_le (by omega)]
    exact ⟨-1,Ev.step (f:=fun _=>some (-1)) (fun k=>by rw [slices_IndexFunc_int_int_solve_choices_fails_1.l0,if_neg (by omega)]) (Ev.now _),rfl⟩
  | d+1,i,h=>by
    have hi:i<rs.length:=by omega
    have hw:=wrap_succ i rs.length hi hl
    obtain ⟨q,hq,hq2⟩:=ifun_loop rs hl hr m w hm d (i+1) (by omega)
    have h1:=hr _ (rd_mem rs i hi)
    have hb:=(bits_nat .i64 62 (by decide) w62 (rd rs i).toNat m h1.2 hm).1
    rw [← nat_of h1.1] at hb
    have hf:solve_choices_fails_1_v1.f (rd rs i) (m:Int) (w:Int)=some ((rd rs i).toNat&&& m == w):=by
      unfold solve_choices_fails_1_v1.f
      rw [hb]
      congr 1
      rw [Bool.eq_iff_iff,beq_iff_eq,beq_iff_eq]
      omega
    rw [rd_at rs i hi,List.any_cons]
    by_cases e:((rd rs i).toNat&&& m == w)=true
    · rw [e] at hf ⊢
      exact ⟨i,Ev.step (fun k=>by rw [slices_IndexFunc_int_int_solve_choices_fails_1.l0,if_pos (by omega),if_pos (by omega),if_pos (by omega),hf];rfl) (Ev.now (i:Int)),by rw [Bool.true_or];exact decide_eq_true (by omega)⟩
    · rw [Bool.not_eq_true] at e
      rw [e] at hf ⊢
      exact ⟨q,Ev.step (fun k=>by rw [slices_IndexFunc_int_int_solve_choices_fails_1.l0,if_pos (by omega),if_pos (by omega),if_pos (by omega),hf,hw];rfl) hq,by rw [Bool.false_or];exact hq2⟩
theorem p62 {a n:Nat} (h:a<2 ^ n) (hn:n≤62):a<2 ^ 62:=Nat.lt_of_lt_of_le h (Nat.pow_le_pow_right (by decide) hn)
theorem fails_ev {t:S49} (h:VT t.f0 t.f1) (C V:Nat) (hC:C<2 ^ 24) (hV:V<2 ^ 24):Ev (fun k=>solve_choices_fails.f k (C:Int) (V:Int) t.f0 t.f1) (fl t C V):=by
  have hl:=h.len
  have hr:=h.rows_len
  refine Ev.bind (srow_ev _ _ h.vars' (by omega) C (p62 hC (by decide) |> fun _=>Nat.lt_of_lt_of_le hC (by decide))) (Ev.bind (srow_ev _ _ h.vars' (by omega) V (Nat.lt_of_lt_of_le hV (by decide))) ?_)
  obtain ⟨q,hq,hq2⟩:=ifun_loop t.f1 (by omega) (fun r hr=>⟨(h.row_of hr).1,p62 (h.row_of hr).2.1 (by omega)⟩) (row t.f0 C) (row t.f0 V) (p62 (row_lt _ _) (by omega)) t.f1.length 0 (by omega)
  rw [List.drop_zero] at hq2
  refine Ev.bind (show Ev (fun k=>slices_ContainsFunc_int_int_solve_choices_fails_1.f k t.f1 ((row t.f0 C:Nat):Int) ((row t.f0 V:Nat):Int)) (decide (q≥0)) from Ev.bind hq (Ev.now _)) ?_
  rw [hq2]
  exact Ev.now _
def ffl (C V:Nat):List S49→Nat→Int
  | [],_=>-1
  | t :: ts,i=>if fl t C V=true then (i:Int) else ffl C V ts (i+1)
theorem ffl_neg (C V:Nat):∀ (l:List S49) (i:Nat),0≤ffl C V l i↔(l.any fun t=>fl t C V)=true
  | [],i=>by simp [ffl]
  | t :: ts,i=>by
    have ih:=ffl_neg C V ts (i+1)
    rw [ffl,List.any_cons]
    by_cases h:fl t C V=true
    · rw [if_pos h,h];simp
    · rw [if_neg h,ih];rw [Bool.not_eq_true] at h;rw [h,Bool.false_or]
theorem failing_loop {l:List S49} (h:VS l) (C V:Nat) (hC:C<2 ^ 24) (hV:V<2 ^ 24):∀ (d i:Nat),i+d=l.length→Ev (fun k=>api_Table_solve_choices_fails.l0 k l l.length i (C:Int) (V:Int)) (ffl C V (l.drop i) i)
  | 0,i,hd=>by
    rw [List.drop_eq_nil_of_le (by omega)]
    exact Ev.step (f:=fun _=>some (-1)) (fun k=>by rw [api_Table_solve_choices_fails.l0,if_neg (by omega)]) (Ev.now _)
  | d+1,i,hd=>by
    have hi:i<l.length:=by omega
    have hl:=h.len
    have hw:=wrap_succ i l.length hi (by omega)
    have ih:=failing_loop h C V hC hV d (i+1) (by omega)
    rw [rdT_at l i hi,ffl]
    refine Ev.step (fun k=>by rw [api_Table_solve_choices_fails.l0,if_pos (by omega),if_pos (by omega),if_pos (by omega),hw]) (Ev.bind (fails_ev (h.tab _ (rdT_mem l i hi)) C V hC hV) ?_)
    exact ev_ite (fun _=>Ev.now _) (fun _=>ih)
theorem failing_ev {l:List S49} (h:VS l) (C V:Nat) (hC:C<2 ^ 24) (hV:V<2 ^ 24):Ev (fun k=>solve_choices_failing.f k (C:Int) (V:Int) l) (ffl C V l 0):=by
  have:=failing_loop h C V hC hV l.length 0 (by omega)
  rw [List.drop_zero] at this
  exact Ev.bind this (Ev.now _)
def wC (C:Nat) (v:Int):Nat:=C||| 2 ^ v.toNat
def wV (V:Nat) (v:Int) (b:Bool):Nat:=(V&&& (V ^^^ 2 ^ v.toNat))||| b.toNat * 2 ^ v.toNat
theorem wC_lt {C:Nat} {v:Int} (h:C<2 ^ 24) (h0:0≤v) (h1:v<24):wC C v<2 ^ 24:=Nat.or_lt_two_pow h (Nat.pow_lt_pow_right (by decide) (by omega))
theorem wV_lt {V:Nat} {v:Int} (b:Bool) (h:V<2 ^ 24) (h0:0≤v) (h1:v<24):wV V v b<2 ^ 24:=by
  have hp:2 ^ v.toNat<2 ^ 24:=Nat.pow_lt_pow_right (by decide) (by omega)
  refine Nat.or_lt_two_pow (Nat.lt_of_le_of_lt Nat.and_le_left h) ?_
  cases b
  · simp
  · simpa using hp
theorem wC_bit (C:Nat) (v:Int) (j:Nat):(wC C v).testBit j=(C.testBit j||v.toNat == j):=by
  unfold wC
  rw [Nat.testBit_or,Nat.testBit_two_pow]
  congr 1
theorem wV_bit (V:Nat) (v:Int) (b:Bool) (j:Nat):(wV V v b).testBit j=((V.testBit j&&!(v.toNat == j))||(b&&v.toNat == j)):=by
  unfold wV
  rw [Nat.testBit_or,Nat.testBit_and,Nat.testBit_xor,Nat.testBit_two_pow]
  have h1:(b.toNat * 2 ^ v.toNat).testBit j=(b&&v.toNat == j):=by
    cases b
    · simp
    · simp only [Bool.toNat_true,Nat.one_mul,Nat.testBit_two_pow,Bool.true_and]
      rfl
  rw [h1]
  congr 1
  have e:decide (v.toNat=j)=(v.toNat == j):=rfl
  rw [e]
  cases V.testBit j <;> cases (v.toNat == j) <;> rfl
theorem with_eq {C V:Nat} {v:Int} (b:Bool) (hC:C<2 ^ 24) (hV:V<2 ^ 24) (h0:0≤v) (h1:v<24):solve_choices_with.f (C:Int) (V:Int) v ((b.toNat:Nat):Int)=some (((wC C v:Nat):Int),((wV V v b:Nat):Int)):=by
  unfold solve_choices_with.f
  rw [if_pos h0]
  have hp:2 ^ v.toNat<2 ^ 24:=Nat.pow_lt_pow_right (by decide) (by omega)
  have e1:=shl1 v.toNat (by omega)
  rw [← nat_of h0] at e1
  have e2:shl .i64 ((b.toNat:Nat):Int) v=((b.toNat * 2 ^ v.toNat:Nat):Int):=by
    cases b
    · simp only [Bool.toNat_false,Nat.zero_mul]
      unfold shl
      rw [show ((0:Nat):Int)=0 from rfl,Int.zero_mul]
      rfl
    · simp only [Bool.toNat_true,Nat.one_mul]
      exact e1
  have hbp:b.toNat * 2 ^ v.toNat<2 ^ 24:=by
    cases b
    · simp
    · simpa using hp
  have k1:=(bits_nat .i64 62 (by decide) w62 C (2 ^ v.toNat) (p62 hC (by decide)) (p62 hp (by decide))).2
  have k2:=bits_andNot V (2 ^ v.toNat) (p62 hV (by decide)) (p62 hp (by decide))
  have k3:=(bits_nat .i64 62 (by decide) w62 (V&&& (V ^^^ 2 ^ v.toNat)) (b.toNat * 2 ^ v.toNat) (p62 (Nat.lt_of_le_of_lt Nat.and_le_left hV) (by decide)) (p62 hbp (by decide))).2
  rw [e1,e2,k1,k2,k3]
  rfl
def sols (l:List S49):List Int→Nat→Nat→List Int
  | [],C,V=>if (l.any fun t=>fl t C V)=true then [] else [(V:Int)]
  | v :: us,C,V=>if (l.any fun t=>fl t C V)=true then [] else sols l us (wC C v) (wV V v false)++sols l us (wC C v) (wV V v true)
theorem search_ev {l:List S49} (h:VS l):∀ (us:List Int) (C V:Nat),C<2 ^ 24→V<2 ^ 24→us.length≤24→(∀ v,v∈us→0≤v∧v<24)→Ev (fun k=>solve_search.f k l us.reverse (C:Int) (V:Int)) (sols l us C V)
  | [],C,V,hC,hV,hl,hv=>by
    refine Ev.step (fun k=>by rw [solve_search.f]) (Ev.bind (failing_ev h C V hC hV) ?_)
    have hn:=ffl_neg C V l 0
    rw [sols]
    by_cases e:(l.any fun t=>fl t C V)=true
    · rw [if_pos e];exact ev_pos (hn.2 e) (Ev.now _)
    · rw [if_neg e];exact ev_neg (fun h2=>e (hn.1 h2)) (ev_pos rfl (Ev.now _))
  | v :: us,C,V,hC,hV,hl,hv=>by
    refine Ev.step (fun k=>by rw [solve_search.f]) (Ev.bind (failing_ev h C V hC hV) ?_)
    have hn:=ffl_neg C V l 0
    have h1:=hv v List.mem_cons_self
    rw [List.length_cons] at hl
    rw [sols]
    by_cases e:(l.any fun t=>fl t C V)=true
    · rw [if_pos e];exact ev_pos (hn.2 e) (Ev.now _)
    · rw [if_neg e]
      have hlen:((v :: us).reverse.length:Int)=(us.length:Int)+1:=by simp
      have hwr:wrap64 (((v :: us).reverse.length:Int) - 1)=(us.length:Int):=by rw [hlen,w64_in _ (by omega)];omega
      have hrd:rd (v :: us).reverse (us.length:Int)=v:=by
        unfold rd
        simp [List.getD]
      have htk:(v :: us).reverse.take ((us.length:Int)).toNat=us.reverse:=by
        rw [List.reverse_cons,Int.toNat_natCast,List.take_append_of_le_length (by simp),List.take_of_length_le (by simp)]
      have ih0:=search_ev h us (wC C v) (wV V v false) (wC_lt hC h1.1 h1.2) (wV_lt false hV h1.1 h1.2) (by omega) (fun x hx=>hv x (List.mem_cons_of_mem _ hx))
      have ih1:=search_ev h us (wC C v) (wV V v true) (wC_lt hC h1.1 h1.2) (wV_lt true hV h1.1 h1.2) (by omega) (fun x hx=>hv x (List.mem_cons_of_mem _ hx))
      have w0:=with_eq (v:=v) false hC hV h1.1 h1.2
      have w1:=with_eq (v:=v) true hC hV h1.1 h1.2
      refine ev_neg (fun h2=>e (hn.1 h2)) (ev_neg (by omega) ?_)
      rw [hwr,hrd,htk]
      refine ev_pos (by omega) (ev_pos (by omega) (ev_pos (by omega) ?_))
      rw [show (0:Int)=((false.toNat:Nat):Int) from rfl,w0]
      refine Ev.bind (Ev.now _) (Ev.bind ih0 ?_)
      rw [show (1:Int)=((true.toNat:Nat):Int) from rfl,w1]
      exact Ev.bind (Ev.now _) (Ev.bind ih1 (Ev.now _))
theorem fl_full {t:S49} (h:VT t.f0 t.f1) {C V:Nat} (hc:∀ w,w∈t.f0→C.testBit w.toNat=true):fl t C V=!hs t.f0 t.f1 V:=by
  unfold fl hs
  congr 1
  rw [Bool.eq_iff_iff,List.any_eq_true,decide_eq_true_eq]
  have key:∀ r:Nat,r<2 ^ t.f0.length→r&&& row t.f0 C=r:=by
    intro r hr
    apply Nat.eq_of_testBit_eq
    intro j
    rw [Nat.testBit_and]
    by_cases hj:j<t.f0.length
    · have:(row t.f0 C).testBit j=true:=(row_bit _ _ _).2 ⟨_,List.getElem?_eq_getElem hj,hc _ (List.getElem_mem hj)⟩
      rw [this,Bool.and_true]
    · rw [Nat.testBit_lt_two_pow (Nat.lt_of_lt_of_le hr (Nat.pow_le_pow_right (by decide) (by omega))),Bool.false_and]
  constructor
  · rintro ⟨r,hr,e⟩
    have hro:=h.row_of hr
    rw [key _ hro.2.1,beq_iff_eq] at e
    rw [← e,← nat_of hro.1];exact hr
  · intro hm
    exact ⟨_,hm,by rw [Int.toNat_natCast,key _ (row_lt _ _)];simp⟩
theorem fl_sound {t:S49} {C V a:Nat} (hf:fl t C V=true) (ha:∀ w,w∈t.f0→V.testBit w.toNat=(a.testBit w.toNat&&C.testBit w.toNat)):hs t.f0 t.f1 a=false:=by
  rw [Bool.eq_false_iff]
  intro hh
  unfold fl at hf
  rw [Bool.not_eq_true',List.any_eq_false] at hf
  have hm:((row t.f0 a:Nat):Int)∈t.f1:=by simpa [hs] using hh
  refine hf _ hm ?_
  rw [Int.toNat_natCast,beq_iff_eq]
  apply Nat.eq_of_testBit_eq
  intro j
  rw [Nat.testBit_and,Bool.eq_iff_iff,Bool.and_eq_true,row_bit,row_bit,row_bit]
  constructor
  · rintro ⟨⟨v,hv,h1⟩,u,hu,h2⟩
    rw [hv] at hu
    injection hu with hu
    subst hu
    exact ⟨v,hv,by rw [ha v (List.mem_of_getElem? hv),h1,h2];rfl⟩
  · rintro ⟨v,hv,h1⟩
    rw [ha v (List.mem_of_getElem? hv),Bool.and_eq_true] at h1
    exact ⟨⟨v,hv,h1.1⟩,v,hv,h1.2⟩
def sat (l:List S49) (a:Nat):Bool:=l.all fun t=>hs t.f0 t.f1 a
def sl (l:List S49) (us:List Int) (V:Nat):List Nat:=((List.range (2 ^ us.length)).map fun i=>asg us i||| V).filter (sat l)
theorem chn_left {hi:Int}:∀ {us ws:List Int} {p:Option Int},Chn hi p (us++ws)→Chn hi p us
  | [],_,_,_=>trivial
  | _ :: us,ws,_,⟨h0,h1,h2,h3⟩=>⟨h0,h1,h2,chn_left h3⟩
theorem asg_snoc {hi:Int} {us:List Int} {v:Int} (h:Chn hi none (us++[v])) (i:Nat) (V:Nat) :
    (i<2 ^ us.length→asg (us++[v]) i||| V=asg us i||| V)∧(i<2 ^ us.length→asg (us++[v]) (2 ^ us.length+i)||| V=asg us i||| (V||| 2 ^ v.toNat)):=by
  have hu:=chn_left h
  have gl:∀ (m:Nat) (w:Int),(us++[v])[m]?=some w↔us[m]?=some w∨(m=us.length∧w=v):=by
    intro m w
    by_cases hm:m<us.length
    · rw [List.getElem?_append_left hm]
      exact ⟨.inl,fun hh=>hh.elim id (fun ⟨e,_⟩=>by omega)⟩
    · rw [List.getElem?_append_right (by omega),List.getElem?_eq_none (by omega:us.length≤m)]
      by_cases e:m=us.length
      · subst e;simp [eq_comm]
      · rw [List.getElem?_eq_none (by simp;omega)];simp [e]
  have gb:∀ m,us[m]?≠none→m<us.length:=fun m hm=>by
    rcases Nat.lt_or_ge m us.length with h|h
    · exact h
    · exact absurd (List.getElem?_eq_none h) hm
  constructor
  · intro hi2
    apply Nat.eq_of_testBit_eq
    intro j
    rw [Nat.testBit_or,Nat.testBit_or]
    congr 1
    rw [Bool.eq_iff_iff,asg_bit h,asg_bit hu]
    constructor
    · rintro ⟨m,w,hm,rfl,hb⟩
      rcases (gl m w).1 hm with h1|⟨rfl,rfl⟩
      · exact ⟨m,w,h1,rfl,hb⟩
      · rw [Nat.testBit_lt_two_pow hi2] at hb;exact absurd hb (by simp)
    · rintro ⟨m,w,hm,rfl,hb⟩
      exact ⟨m,w,(gl m w).2 (.inl hm),rfl,hb⟩
  · intro hi2
    have hbit:∀ m,(2 ^ us.length+i).testBit m=(i.testBit m||m == us.length):=by
      intro m
      have:=bit_add true i us.length hi2 m
      simp only [Bool.toNat_true,Nat.one_mul,Bool.true_and] at this
      rw [Nat.add_comm]
      exact this
    apply Nat.eq_of_testBit_eq
    intro j
    rw [Nat.testBit_or,Nat.testBit_or,Nat.testBit_or,Nat.testBit_two_pow]
    have e:(asg (us++[v]) (2 ^ us.length+i)).testBit j=((asg us i).testBit j||decide (v.toNat=j)):=by
      rw [Bool.eq_iff_iff,asg_bit h,Bool.or_eq_true,asg_bit hu,decide_eq_true_eq]
      constructor
      · rintro ⟨m,w,hm,rfl,hb⟩
        rcases (gl m w).1 hm with h1|⟨rfl,rfl⟩
        · rw [hbit] at hb
          have:=gb m (by rw [h1];simp)
          rw [show (m == us.length)=false from by simp;omega,Bool.or_false] at hb
          exact .inl ⟨m,w,h1,rfl,hb⟩
        · exact .inr rfl
      · rintro (⟨m,w,hm,rfl,hb⟩|rfl)
        · exact ⟨m,w,(gl m w).2 (.inl hm),rfl,by rw [hbit,hb,Bool.true_or]⟩
        · exact ⟨us.length,v,(gl _ _).2 (.inr ⟨rfl,rfl⟩),rfl,by rw [hbit];simp⟩
    rw [e]
    cases (asg us i).testBit j <;> cases V.testBit j <;> cases decide (v.toNat=j) <;> rfl
theorem sl_snoc (l:List S49) {hi:Int} {us:List Int} {v:Int} (h:Chn hi none (us++[v])) (V:Nat):sl l (us++[v]) V=sl l us V++sl l us (V||| 2 ^ v.toNat):=by
  unfold sl
  rw [List.length_append,List.length_singleton,Nat.pow_succ,Nat.mul_two,List.range_add,List.map_append,List.filter_append,List.map_map]
  congr 1
  · congr 1
    exact List.map_congr_left (fun i hi2=>(asg_snoc h i V).1 (List.mem_range.1 hi2))
  · congr 1
    exact List.map_congr_left (fun i hi2=>(asg_snoc h i V).2 (List.mem_range.1 hi2))
theorem mask_cons_bit (v:Int) (ws:List Int) (j:Nat):(mask (v :: ws) 0).testBit j=((mask ws 0).testBit j||v.toNat == j):=by
  rw [mask_bit,mask_bit,List.any_cons,Nat.zero_testBit,Bool.false_or,Bool.false_or,Bool.or_comm]
theorem sols_sl {l:List S49} (h:VS l):∀ (us ws:List Int) (V:Nat),occ l=us.reverse++ws→(∀ j,V.testBit j=true→(mask ws 0).testBit j=true)→sols l us (mask ws 0) V=(sl l us.reverse V).map fun a:Nat=>(a:Int)
  | [],ws,V,ho,hv=>by
    have hw:ws=occ l:=by simpa using ho.symm
    have e:(l.any fun t=>fl t (mask ws 0) V)=!sat l V:=by
      unfold sat
      rw [List.not_all_eq_any_not,Bool.eq_iff_iff,List.any_eq_true,List.any_eq_true]
      have hx:∀ t,t∈l→fl t (mask ws 0) V=!hs t.f0 t.f1 V:=fun t ht=>fl_full (h.tab t ht) (fun w hw2=>by
        rw [mask_bit,Nat.zero_testBit,Bool.false_or,List.any_eq_true]
        exact ⟨w,by rw [hw,h.occ.2];exact List.mem_flatMap.2 ⟨t,ht,hw2⟩,by simp⟩)
      exact ⟨fun ⟨t,ht,h2⟩=>⟨t,ht,by rw [← hx t ht];exact h2⟩,fun ⟨t,ht,h2⟩=>⟨t,ht,by rw [hx t ht];exact h2⟩⟩
    rw [sols,e]
    have hz:sl l [] V=if sat l V=true then [V] else []:=by
      unfold sl
      have:asg [] 0=0:=rfl
      simp only [List.length_nil,Nat.pow_zero,List.range_one,List.map_cons,List.map_nil,this,Nat.zero_or,List.filter_cons,List.filter_nil]
    rw [List.reverse_nil,hz]
    cases sat l V <;> simp
  | v :: us,ws,V,ho,hv=>by
    have ho2:occ l=us.reverse++(v :: ws):=by rw [ho];simp
    have hc:=h.occ.1
    rw [ho] at hc
    have hch:=chn_left hc
    rw [List.reverse_cons] at hch
    rw [sols]
    have hvb:V.testBit v.toNat=false:=by
      rw [Bool.eq_false_iff]
      intro hb
      have hm:=hv _ hb
      rw [mask_bit,Nat.zero_testBit,Bool.false_or,List.any_eq_true] at hm
      obtain ⟨w,hw,e⟩:=hm
      have hw2:w.toNat=v.toNat:=by simpa using e
      have hall:=h.occ.1
      rw [ho2] at hall
      obtain ⟨m,hm⟩:=List.getElem?_of_mem hw
      have i1:(us.reverse++(v :: ws))[us.reverse.length]?=some v:=by rw [List.getElem?_append_right (by omega)];simp
      have i2:(us.reverse++(v :: ws))[us.reverse.length+(m+1)]?=some w:=by rw [List.getElem?_append_right (by omega)];simpa using hm
      have:=hall.inj _ _ _ _ i1 i2 hw2.symm
      omega
    have eC:wC (mask ws 0) v=mask (v :: ws) 0:=by
      apply Nat.eq_of_testBit_eq
      intro j
      rw [wC_bit,mask_cons_bit]
    have e0:wV V v false=V:=by
      apply Nat.eq_of_testBit_eq
      intro j
      rw [wV_bit,Bool.false_and,Bool.or_false]
      by_cases e:v.toNat=j
      · subst e;rw [hvb,Bool.false_and]
      · have:(v.toNat == j)=false:=by simpa using e
        rw [this];simp
    have e1:wV V v true=V||| 2 ^ v.toNat:=by
      apply Nat.eq_of_testBit_eq
      intro j
      rw [wV_bit,Bool.true_and,Nat.testBit_or,Nat.testBit_two_pow]
      have e:decide (v.toNat=j)=(v.toNat == j):=rfl
      rw [e]
      cases V.testBit j <;> cases (v.toNat == j) <;> rfl
    have ih0:=sols_sl h us (v :: ws) V ho2 (fun j hj=>by rw [mask_cons_bit,hv j hj,Bool.true_or])
    have ih1:=sols_sl h us (v :: ws) (V||| 2 ^ v.toNat) ho2 (fun j hj=>by
      rw [mask_cons_bit]
      rw [Nat.testBit_or,Nat.testBit_two_pow,Bool.or_eq_true] at hj
      rcases hj with hj|hj
      · rw [hv j hj,Bool.true_or]
      · have e:(v.toNat == j)=true:=hj
        rw [e,Bool.or_true])
    rw [List.reverse_cons,sl_snoc l hch,List.map_append,eC,e0,e1,ih0,ih1]
    by_cases e:(l.any fun t=>fl t (mask ws 0) V)=true
    · rw [if_pos e,← List.map_append,← sl_snoc l hch]
      obtain ⟨t,ht,hf⟩:=List.any_eq_true.1 e
      have hnil:sl l (us.reverse++[v]) V=[]:=by
        unfold sl
        rw [List.filter_eq_nil_iff]
        intro a ha
        obtain ⟨i,hi2,rfl⟩:=List.mem_map.1 ha
        have:hs t.f0 t.f1 (asg (us.reverse++[v]) i||| V)=false:=by
          refine fl_sound hf (fun w hw=>?_)
          rw [Nat.testBit_or]
          by_cases hm:(mask ws 0).testBit w.toNat=true
          · rw [hm,Bool.and_true]
            have:(asg (us.reverse++[v]) i).testBit w.toNat=false:=by
              rw [Bool.eq_false_iff]
              intro hb
              obtain ⟨m,u,hu,eu,_⟩:=(asg_bit hch i _).1 hb
              rw [mask_bit,Nat.zero_testBit,Bool.false_or,List.any_eq_true] at hm
              obtain ⟨x,hx,ex⟩:=hm
              have ex2:x.toNat=w.toNat:=by simpa using ex
              obtain ⟨n,hn⟩:=List.getElem?_of_mem hx
              have hml:m<(us.reverse++[v]).length:=(List.getElem?_eq_some_iff.1 hu).1
              have hall:=h.occ.1
              rw [ho,List.reverse_cons] at hall
              have i1:((us.reverse++[v])++ws)[m]?=some u:=by rw [List.getElem?_append_left hml];exact hu
              have i2:((us.reverse++[v])++ws)[(us.reverse++[v]).length+n]?=some x:=by rw [List.getElem?_append_right (by omega)];simpa using hn
              have:=hall.inj _ _ _ _ i1 i2 (by omega)
              omega
            rw [this,Bool.false_or]
          · rw [Bool.not_eq_true] at hm
            have hvf:V.testBit w.toNat=false:=by
              rw [Bool.eq_false_iff]
              intro hb
              rw [hv _ hb] at hm
              exact absurd hm (by simp)
            rw [hm,Bool.and_false,hvf]
        unfold sat
        rw [Bool.not_eq_true,List.all_eq_false]
        exact ⟨t,ht,by rw [this];simp⟩
      rw [hnil];rfl
    · rw [if_neg e]
def SS (l:List S49):List Int:=(sl l (occ l) 0).map fun a:Nat=>(a:Int)
theorem allsearch_ev {l:List S49} (h:VS l):Ev (fun k=>solve_search.f k l (occ l) 0 0) (SS l):=by
  have h1:=search_ev h (occ l).reverse 0 0 (by decide) (by decide) (by rw [List.length_reverse];exact h.occ_len) (fun v hv=>h.occ' v (List.mem_reverse.1 hv))
  rw [List.reverse_reverse] at h1
  refine ev_eq h1 ?_
  have:=sols_sl h (occ l).reverse [] 0 (by simp) (fun j hj=>by simp at hj)
  rw [List.reverse_reverse] at this
  exact this

def fst1 (l:List S49):Int×Int:=if sysv l=0 then solve_First.of (SS l) else (0,sysv l)
theorem dfirst_ev (l:List S49) (hs:Sm l) (hl:l.length≤1000):Ev (fun k=>solve_First.f k l) (fst1 l):=
  Ev.bind (svalid_ev l hs hl) (ev_ite (fun h=>Ev.bind (occ_ev l hs hl) (Ev.bind (allsearch_ev ((sysv_VS l).1 h)) (Ev.now _))) (fun _=>Ev.now _))
theorem sequal_loop (l:List Int) (hl:(l.length:Int)≤9223372036854775807):∀ (d i:Nat),i+d=l.length→Ev (fun k=>slices_Equal_int_int.l0 k l l l.length i) true
  | 0,i,h=>Ev.step (f:=fun _=>some true) (fun k=>by rw [slices_Equal_int_int.l0,if_neg (by omega)]) (Ev.now _)
  | d+1,i,h=>by
    have hw:=wrap_succ i l.length (by omega) hl
    exact Ev.step (fun k=>by rw [slices_Equal_int_int.l0,if_pos (by omega),if_pos (by omega),if_pos (by omega),if_pos (by omega),if_pos rfl,hw]) (sequal_loop l hl d (i+1) (by omega))
theorem sequal_ev (l:List Int) (hl:(l.length:Int)≤9223372036854775807):Ev (fun k=>slices_Equal_int_int.f k l l) true:=ev_pos rfl (sequal_loop l hl l.length 0 (by omega))

theorem SS_mem {l:List S49} (h:VS l) (a:Nat):(a:Int)∈SS l↔sat l a=true∧a&&& (a ^^^ mask (occ l) 0)=0:=by
  unfold SS sl
  constructor
  · intro hm
    obtain ⟨b,hb,e⟩:=List.mem_map.1 hm
    have e':b=a:=by omega
    subst e'
    obtain ⟨h1,h2⟩:=List.mem_filter.1 hb
    refine ⟨h2,?_⟩
    obtain ⟨i,hi,rfl⟩:=List.mem_map.1 h1
    have hi':=List.mem_range.1 hi
    rw [Nat.or_zero]
    rw [← asgrow_iff h.occ.1,row_asg h.occ.1 hi']
  · rintro ⟨h1,h2⟩
    rw [← asgrow_iff h.occ.1] at h2
    exact List.mem_map.2 ⟨a,List.mem_filter.2 ⟨List.mem_map.2 ⟨row (occ l) a,List.mem_range.2 (row_lt _ _),by rw [Nat.or_zero];exact h2⟩,h1⟩,rfl⟩
inductive Tr where
  | leaf (t:Int)
  | node (v:Int) (a b:Tr)
namespace Tr
def sz:Tr→Nat
  | leaf _=>1
  | node _ a b=>1+a.sz+b.sz
def nod:Tr→Nat→List S96
  | leaf t,_=>[⟨-1,0,0,t⟩]
  | node v a b,p=>⟨v,((p+1:Nat):Int),((p+1+a.sz:Nat):Int),0⟩ :: (a.nod (p+1)++b.nod (p+1+a.sz))
def full:Tr→Bool
  | leaf t=>decide (0≤t)
  | node _ a b=>a.full&&b.full
theorem sz_pos:∀ T:Tr,1≤T.sz
  | leaf _=>Nat.le_refl _
  | node _ a b=>by simp only [sz];omega
theorem nod_len:∀ (T:Tr) (p:Nat),(T.nod p).length=T.sz
  | leaf _,_=>rfl
  | node _ a b,p=>by simp only [nod,sz,List.length_cons,List.length_append,nod_len a,nod_len b];omega
end Tr
def tree (l:List S49):List Int→Nat→Nat→Tr
  | [],C,V=>.leaf (ffl C V l 0)
  | v :: vs,C,V=>if 0≤ffl C V l 0 then .leaf (ffl C V l 0) else .node v (tree l vs (wC C v) (wV V v false)) (tree l vs (wC C v) (wV V v true))
def Free (C V:Nat) (vs:List Int):Prop:=(∀ j,V.testBit j=true→C.testBit j=true)∧∀ v,v∈vs→C.testBit v.toNat=false
theorem Free.step {C V:Nat} {v:Int} {vs:List Int} {hi:Int} {p:Option Int} (h:Free C V (v :: vs)) (hc:Chn hi p (v :: vs)) (h0:∀ w,w∈v :: vs→0≤w) (b:Bool):Free (wC C v) (wV V v b) vs:=by
  refine ⟨fun j hj=>?_,fun w hw=>?_⟩
  · rw [wV_bit] at hj
    rw [wC_bit]
    by_cases e:v.toNat=j
    · simp [e]
    · simp [e] at hj
      rw [h.1 j hj];rfl
  · have hlt:v<w:=by
      obtain ⟨i,hi',e⟩:=List.getElem_of_mem hw
      exact hc.below 0 (i+1) v w (by omega) rfl (by simp [List.getElem?_eq_getElem hi',e])
    have h1:=h0 v (.head _)
    rw [wC_bit,h.2 w (.tail _ hw)]
    simp;omega
theorem wV_or {C V:Nat} {v:Int} {vs:List Int} (h:Free C V (v :: vs)) (b:Bool):wV V v b=V||| b.toNat * 2 ^ v.toNat:=by
  apply Nat.eq_of_testBit_eq
  intro j
  have hv:V.testBit v.toNat=false:=by
    cases e:V.testBit v.toNat
    · rfl
    · exact absurd (h.2 v (.head _)) (by rw [h.1 _ e];decide)
  have e2:(b.toNat * 2 ^ v.toNat).testBit j=(b&&v.toNat == j):=by
    cases b
    · simp
    · rw [Bool.eq_iff_iff];simp [Nat.testBit_two_pow]
  rw [wV_bit,Nat.testBit_or,e2]
  by_cases e:v.toNat=j
  · subst e;simp [hv]
  · rw [show (v.toNat == j)=false by simpa using e];simp
theorem set_at {α:Type} (l:List α) (x y:α) (r:List α):(l++x :: r).set l.length y=l++y :: r:=by
  induction l with
  | nil=>rfl
  | cons z l ih=>exact congrArg (z :: ·) ih
theorem rdT_mid (l r:List S96) (x:S96):rd_T96 (l++x :: r) (l.length:Int)=x:=by
  show (l++x :: r).getD l.length z96=x
  simp [List.getD]
theorem with_ev {C V:Nat} {v:Int} {vs:List Int} (b:Bool) (hC:C<2 ^ 24) (hV:V<2 ^ 24) (h:0≤v∧v<24):Ev (fun _=>solve_choices_with.f (C:Int) (V:Int) (rd (v :: vs) 0) ((b.toNat:Nat):Int)) (((wC C v:Nat):Int),((wV V v b:Nat):Int)):=by
  rw [show rd (v :: vs) 0=v from rfl,with_eq b hC hV h.1 h.2]
  exact Ev.now _
theorem split_leaf {l:List S49} (h:VS l) (vs:List Int) (C V:Nat) (acc:List S96) (hC:C<2 ^ 24) (hV:V<2 ^ 24) (ha:acc.length<2000) (hf:0≤ffl C V l 0) :
    Ev (fun k=>solve_split.f k l vs (C:Int) (V:Int) acc) (acc++[⟨-1,0,0,ffl C V l 0⟩],true):=by
  refine Ev.step (fun k=>by rw [solve_split.f,if_neg (by omega)]) ?_
  refine Ev.bind (failing_ev h C V hC hV) ?_
  refine ev_pos hf ?_
  refine ev_pos (by omega) ?_
  exact Ev.now _
theorem split_two (l:List S49) (vs:List Int) (C V:Nat) (acc:List S96) (ha:acc.length=2000):Ev (fun k=>solve_split.f k l vs (C:Int) (V:Int) acc) (acc,false):=by
  refine Ev.step (fun k=>by rw [solve_split.f,if_pos (by omega)]) ?_
  exact Ev.now _
theorem split_node {l:List S49} (h:VS l) (v:Int) (vs:List Int) (C V:Nat) (acc:List S96) (hC:C<2 ^ 24) (hV:V<2 ^ 24) (ha:acc.length<2000) (hf:¬ 0≤ffl C V l 0) (hv:0≤v∧v<24) {q1:List S96×Bool} {r:List S96×Bool}
    (e1:Ev (fun k=>solve_split.f k l vs ((wC C v:Nat):Int) ((wV V v false:Nat):Int) (acc++[⟨v,((acc.length+1:Nat):Int),0,0⟩])) q1)
    (e2:if q1.2=true then acc.length<q1.1.length∧Ev (fun k=>solve_split.f k l vs ((wC C v:Nat):Int) ((wV V v true:Nat):Int) (q1.1.set acc.length (⟨(rd_T96 q1.1 (acc.length:Int)).f0,(rd_T96 q1.1 (acc.length:Int)).f1,(q1.1.length:Int),(rd_T96 q1.1 (acc.length:Int)).f3⟩:S96))) r else r=(q1.1,false)) :
    Ev (fun k=>solve_split.f k l (v :: vs) (C:Int) (V:Int) acc) r:=by
  refine Ev.step (fun k=>by rw [solve_split.f,if_neg (by omega)]) ?_
  refine Ev.bind (failing_ev h C V hC hV) ?_
  refine ev_neg hf ?_
  refine ev_neg (by simp only [List.length_cons];omega) ?_
  refine ev_pos (by omega) ?_
  refine Ev.bind (with_ev false hC hV hv) ?_
  have e1':Ev (fun k=>solve_split.f k l ((v :: vs).drop 1) ((wC C v:Nat):Int) ((wV V v false:Nat):Int) (acc++[(⟨rd (v :: vs) 0,wrap64 ((acc.length:Int)+1),0,0⟩:S96)])) q1:=by
    rw [show rd (v :: vs) 0=v from rfl,w64_in _ (by omega)]
    exact e1
  refine Ev.bind e1' ?_
  by_cases hq:q1.2=true
  · rw [if_pos hq] at e2
    refine ev_pos hq ?_
    refine ev_pos (by omega) ?_
    refine Ev.bind (with_ev true hC hV hv) ?_
    exact e2.2
  · rw [if_neg hq] at e2
    refine ev_neg hq ?_
    rw [e2]
    exact Ev.now _
theorem split_ev {l:List S49} (h:VS l):∀ (vs:List Int) (C V:Nat) (acc:List S96),C<2 ^ 24→V<2 ^ 24→(∀ v,v∈vs→0≤v∧v<24)→(tree l vs C V).full=true→acc.length≤2000→
    ∃ q,Ev (fun k=>solve_split.f k l vs (C:Int) (V:Int) acc) q∧q.2=decide (acc.length+(tree l vs C V).sz≤2000)∧(q.2=true→q.1=acc++(tree l vs C V).nod acc.length)
  | [],C,V,acc,hC,hV,hv,hf,ha=>by
    by_cases h2:acc.length=2000
    · exact ⟨(acc,false),split_two _ _ _ _ _ h2,by rw [eq_comm,decide_eq_false_iff_not];have:=(tree l [] C V).sz_pos;omega,by simp⟩
    · have hf':0≤ffl C V l 0:=by simpa [tree,Tr.full] using hf
      exact ⟨_,split_leaf h _ _ _ _ hC hV (by omega) hf',by rw [eq_comm,decide_eq_true_iff];simp only [tree,Tr.sz];omega,fun _=>rfl⟩
  | v :: vs,C,V,acc,hC,hV,hv,hf,ha=>by
    by_cases h2:acc.length=2000
    · exact ⟨(acc,false),split_two _ _ _ _ _ h2,by rw [eq_comm,decide_eq_false_iff_not];have:=(tree l (v :: vs) C V).sz_pos;omega,by simp⟩
    by_cases hf':0≤ffl C V l 0
    · rw [tree,if_pos hf']
      exact ⟨_,split_leaf h _ _ _ _ hC hV (by omega) hf',by rw [eq_comm,decide_eq_true_iff];simp only [Tr.sz];omega,fun _=>rfl⟩
    have hv0:=hv v (.head _)
    rw [tree,if_neg hf'] at hf ⊢
    simp only [Tr.full,Bool.and_eq_true] at hf
    obtain ⟨q1,e1,f1,g1⟩:=split_ev h vs (wC C v) (wV V v false) (acc++[⟨v,((acc.length+1:Nat):Int),0,0⟩]) (wC_lt hC hv0.1 hv0.2) (wV_lt _ hV hv0.1 hv0.2) (fun w hw=>hv w (.tail _ hw)) hf.1 (by simp only [List.length_append,List.length_singleton];omega)
    simp only [List.length_append,List.length_singleton] at f1 g1
    by_cases hq:q1.2=true
    · have g:=g1 hq
      rw [hq,eq_comm,decide_eq_true_iff] at f1
      have hlen:q1.1.length=acc.length+1+(tree l vs (wC C v) (wV V v false)).sz:=by rw [g];simp only [List.length_append,List.length_singleton,Tr.nod_len]
      have es:q1.1.set acc.length (⟨(rd_T96 q1.1 (acc.length:Int)).f0,(rd_T96 q1.1 (acc.length:Int)).f1,(q1.1.length:Int),(rd_T96 q1.1 (acc.length:Int)).f3⟩:S96)=acc++⟨v,((acc.length+1:Nat):Int),((acc.length+1+(tree l vs (wC C v) (wV V v false)).sz:Nat):Int),0⟩ :: (tree l vs (wC C v) (wV V v false)).nod (acc.length+1):=by
        rw [hlen,g,List.append_assoc,List.singleton_append,set_at,rdT_mid]
      have hl3:(acc++(⟨v,((acc.length+1:Nat):Int),((acc.length+1+(tree l vs (wC C v) (wV V v false)).sz:Nat):Int),0⟩:S96) :: (tree l vs (wC C v) (wV V v false)).nod (acc.length+1)).length=acc.length+1+(tree l vs (wC C v) (wV V v false)).sz:=by simp only [List.length_append,List.length_cons,Tr.nod_len];omega
      obtain ⟨q2,e2,f2,g2⟩:=split_ev h vs (wC C v) (wV V v true) _ (wC_lt hC hv0.1 hv0.2) (wV_lt _ hV hv0.1 hv0.2) (fun w hw=>hv w (.tail _ hw)) hf.2 (show (acc++(⟨v,((acc.length+1:Nat):Int),((acc.length+1+(tree l vs (wC C v) (wV V v false)).sz:Nat):Int),0⟩:S96) :: (tree l vs (wC C v) (wV V v false)).nod (acc.length+1)).length≤2000 by omega)
      rw [hl3] at f2 g2
      refine ⟨q2,split_node h v vs C V acc hC hV (by omega) hf' hv0 e1 (by rw [if_pos hq,es];exact ⟨by omega,e2⟩),?_,?_⟩
      · rw [f2]
        congr 1
        simp only [Tr.sz,eq_iff_iff]
        omega
      · intro hq2
        rw [g2 hq2]
        simp only [Tr.nod,List.append_assoc,List.cons_append]
    · have hq':q1.2=false:=by simpa using hq
      rw [hq',eq_comm,decide_eq_false_iff_not] at f1
      refine ⟨(q1.1,false),split_node h v vs C V acc hC hV (by omega) hf' hv0 e1 (by rw [if_neg hq]),?_,by simp⟩
      rw [eq_comm,decide_eq_false_iff_not]
      simp only [Tr.sz]
      omega
theorem rinner_loop {t:S49} (h:VT t.f0 t.f1) {C V:Nat} (hC:C<2 ^ 24) (hV:V<2 ^ 24) (x5:Int) (a:Nat) (ha:a<2 ^ 24) (r:Bool):∀ (d i:Nat) (b:Bool),i+d=t.f0.length→
    ((b&&(t.f0.drop i).all fun v=>!C.testBit v.toNat||a.testBit v.toNat == V.testBit v.toNat)=true→r=false)→
    ((b&&(t.f0.drop i).all fun v=>!C.testBit v.toNat||a.testBit v.toNat == V.testBit v.toNat)=false→Ev (fun k=>ancepsref40_fails.l0 k (wrap64 (x5+1)) t.f0 t.f1 (C:Int) (V:Int)) r)→
    Ev (fun k=>ancepsref40_fails.l1 k x5 (a:Int) b i t.f0 t.f1 (C:Int) (V:Int)) r
  | 0,i,b,hi,h1,h2=>by
    rw [List.drop_eq_nil_of_le (by omega)] at h1 h2
    refine Ev.step (fun k=>by rw [ancepsref40_fails.l1,if_neg (by omega)]) ?_
    cases b
    · exact ev_neg (by decide) (h2 rfl)
    · refine ev_pos rfl ?_
      rw [h1 rfl]
      exact Ev.now _
  | d+1,i,b,hi,h1,h2=>by
    have hl:=h.len
    have hi':i<t.f0.length:=by omega
    have hv:=h.vars' _ (rd_mem t.f0 i hi')
    have hw:=wrap_succ i t.f0.length hi' (by omega)
    have hs:shl .i64 1 (rd t.f0 i)=((2 ^ (rd t.f0 i).toNat:Nat):Int):=by
      have:=shl1 (rd t.f0 i).toNat (by omega)
      rw [← nat_of hv.1] at this
      exact this
    have hp:2 ^ (rd t.f0 i).toNat<2 ^ 62:=Nat.pow_lt_pow_right (by decide) (by omega)
    have ba:=fun x (hx:x<2 ^ 24)=>(bits_nat .i64 62 (by decide) w62 x (2 ^ (rd t.f0 i).toNat) (p62 hx (by decide)) hp).1
    have hb:∀ x y:Nat,(x&&& 2 ^ (rd t.f0 i).toNat=y&&& 2 ^ (rd t.f0 i).toNat)↔x.testBit (rd t.f0 i).toNat=y.testBit (rd t.f0 i).toNat:=fun x y=>by
      constructor
      · intro e
        have:=congrArg (fun z=>z.testBit (rd t.f0 i).toNat) e
        simpa [Nat.testBit_and,Nat.testBit_two_pow] using this
      · intro e
        apply Nat.eq_of_testBit_eq
        intro j
        rw [Nat.testBit_and,Nat.testBit_and,Nat.testBit_two_pow]
        by_cases e':(rd t.f0 i).toNat=j
        · rw [← e',e]
        · simp [e']
    rw [rd_at t.f0 i hi',List.all_cons] at h1 h2
    refine Ev.step (fun k=>by rw [ancepsref40_fails.l1,if_pos (by omega)]) ?_
    refine ev_pos (by omega) ?_
    refine ev_pos hv.1 ?_
    rw [hs,ba C hC,ba a ha,ba V hV,hw]
    cases b
    · refine ev_neg (by decide) ?_
      exact rinner_loop h hC hV x5 a ha r d (i+1) false (by omega) (fun e=>by simp at e) (fun _=>h2 rfl)
    · refine ev_pos rfl ?_
      have hc:=hb C 0
      rw [Nat.zero_and,Nat.zero_testBit] at hc
      by_cases e:C.testBit (rd t.f0 i).toNat=true
      · refine ev_neg (fun e'=>by have:=hc.1 (by omega);rw [e] at this;cases this) ?_
        have hav:=hb a V
        refine ev_eq (rinner_loop h hC hV x5 a ha r d (i+1) _ (by omega) (fun e2=>h1 ?_) (fun e2=>h2 ?_)) rfl
        · refine Eq.trans ?_ e2;rw [e,Bool.not_true,Bool.false_or,Bool.true_and];congr 1;rw [Bool.eq_iff_iff,beq_iff_eq,beq_iff_eq,← hav];omega
        · refine Eq.trans ?_ e2;rw [e,Bool.not_true,Bool.false_or,Bool.true_and];congr 1;rw [Bool.eq_iff_iff,beq_iff_eq,beq_iff_eq,← hav];omega
      · rw [Bool.not_eq_true] at e
        refine ev_pos (by have:=hc.2 e;omega) ?_
        rw [e] at h1 h2
        exact rinner_loop h hC hV x5 a ha r d (i+1) true (by omega) (fun e2=>h1 (by simpa using e2)) (fun e2=>h2 (by simpa using e2))
theorem fl_all {t:S49} (h:VT t.f0 t.f1) {C V:Nat} (hs:∀ j,V.testBit j=true→C.testBit j=true) {x:Int} (hx:x∈t.f1):(x.toNat&&& row t.f0 C == row t.f0 V)=t.f0.all fun v=>!C.testBit v.toNat||(asg t.f0 x.toNat).testBit v.toNat == V.testBit v.toNat:=by
  have hx':=h.row_of hx
  rw [Bool.eq_iff_iff,beq_iff_eq,List.all_eq_true]
  have key:∀ m v,t.f0[m]?=some v→((x.toNat&&& row t.f0 C).testBit m=(row t.f0 V).testBit m↔(!C.testBit v.toNat||(asg t.f0 x.toNat).testBit v.toNat == V.testBit v.toNat)=true):=fun m v hm=>by
    have r1:∀ y:Nat,(row t.f0 y).testBit m=y.testBit v.toNat:=fun y=>by
      rw [Bool.eq_iff_iff,row_bit]
      constructor
      · rintro ⟨w,hw,hb⟩
        rw [hm] at hw;cases hw;exact hb
      · exact fun hb=>⟨v,hm,hb⟩
    have r2:(asg t.f0 x.toNat).testBit v.toNat=x.toNat.testBit m:=by
      rw [Bool.eq_iff_iff,asg_bit h.vars]
      constructor
      · rintro ⟨m',v',hm',e,hb⟩
        have:=h.vars.inj m m' v v' hm hm' e
        subst this;exact hb
      · exact fun hb=>⟨m,v,hm,rfl,hb⟩
    rw [Nat.testBit_and,r1,r1,r2]
    have:=hs v.toNat
    revert this
    cases C.testBit v.toNat <;> cases V.testBit v.toNat <;> cases x.toNat.testBit m <;> simp
  constructor
  · intro e v hv
    obtain ⟨m,hm,e'⟩:=List.getElem_of_mem hv
    exact (key m v (by rw [List.getElem?_eq_getElem hm,e'])).1 (by rw [e])
  · intro ha
    apply Nat.eq_of_testBit_eq
    intro m
    by_cases hm:m<t.f0.length
    · exact (key m _ (List.getElem?_eq_getElem hm)).2 (ha _ (List.getElem_mem hm))
    · have r:∀ y:Nat,(row t.f0 y).testBit m=false:=fun y=>Nat.testBit_lt_two_pow (Nat.lt_of_lt_of_le (row_lt _ _) (Nat.pow_le_pow_right (by decide) (by omega)))
      rw [Nat.testBit_and,r,r,Bool.and_false]
theorem rfails_loop {t:S49} (h:VT t.f0 t.f1) {C V:Nat} (hC:C<2 ^ 24) (hV:V<2 ^ 24) (hs:∀ j,V.testBit j=true→C.testBit j=true):∀ (d i:Nat),i+d=t.f1.length→
    Ev (fun k=>ancepsref40_fails.l0 k i t.f0 t.f1 (C:Int) (V:Int)) (!((t.f1.drop i).any fun r=>r.toNat&&& row t.f0 C == row t.f0 V))
  | 0,i,hi=>by
    rw [List.drop_eq_nil_of_le (by omega)]
    refine Ev.step (fun k=>by rw [ancepsref40_fails.l0,if_neg (by omega)]) ?_
    exact Ev.now _
  | d+1,i,hi=>by
    have hr:=h.rows_len
    have hl:=h.len
    have hi':i<t.f1.length:=by omega
    have hx:=rd_mem t.f1 i hi'
    have hw:=wrap_succ i t.f1.length hi' (by omega)
    have ih:=rfails_loop h hC hV hs d (i+1) (by omega)
    refine Ev.step (fun k=>by rw [ancepsref40_fails.l0,if_pos (by omega)]) ?_
    refine ev_pos (by omega) ?_
    have ea:=rasg_ev h.vars (by omega) (rd t.f1 i).toNat
    rw [← nat_of (h.row_of hx).1] at ea
    refine Ev.bind ea ?_
    rw [rd_at t.f1 i hi',List.any_cons,fl_all h hs hx]
    refine rinner_loop h hC hV i _ (asg_lt h.vars _) _ t.f0.length 0 true (by omega) (fun e=>?_) (fun e=>?_)
    · rw [List.drop_zero,Bool.true_and] at e
      rw [e,Bool.true_or,Bool.not_true]
    · rw [List.drop_zero,Bool.true_and] at e
      rw [e,Bool.false_or,hw]
      exact ih
theorem rfails_ev {t:S49} (h:VT t.f0 t.f1) {C V:Nat} (hC:C<2 ^ 24) (hV:V<2 ^ 24) (hs:∀ j,V.testBit j=true→C.testBit j=true):Ev (fun k=>ancepsref40_fails.f k t.f0 t.f1 (C:Int) (V:Int)) (fl t C V):=
  rfails_loop h hC hV hs t.f1.length 0 (by omega)

theorem rsplit_loop {l:List S49} (h:VS l) (vs:List Int) {C V:Nat} (hC:C<2 ^ 24) (hV:V<2 ^ 24) (hs:∀ j,V.testBit j=true→C.testBit j=true) (acc:List S96) (ha:acc.length<4398046511104) (r:List S96) :
    ∀ (d i:Nat),i+d=l.length→(0≤ffl C V (l.drop i) i→r=acc++[⟨-1,0,0,ffl C V (l.drop i) i⟩])→(¬ 0≤ffl C V (l.drop i) i→Ev (fun k=>ancepsref40_split.l0 k l vs acc (l.length:Int) (C:Int) (V:Int)) r)→
    Ev (fun k=>ancepsref40_split.l0 k l vs acc i (C:Int) (V:Int)) r
  | 0,i,hi,h1,h2=>by
    have e:i=l.length:=by omega
    subst e
    rw [List.drop_eq_nil_of_le (Nat.le_refl _)] at h1 h2
    exact h2 (by simp [ffl])
  | d+1,i,hi,h1,h2=>by
    have hi':i<l.length:=by omega
    have h16:=h.len
    have hw:=wrap_succ i l.length hi' (by omega)
    have hT:=h.tab _ (rdT_mem l i hi')
    rw [rdT_at l i hi',ffl] at h1 h2
    refine Ev.step (fun k=>by rw [ancepsref40_split.l0,if_pos (by omega)]) ?_
    refine ev_pos (by omega) ?_
    refine Ev.bind (rfails_ev hT hC hV hs) ?_
    by_cases e:fl (rd_T49 l i) C V=true
    · rw [if_pos e] at h1
      refine ev_pos e ?_
      refine ev_pos ha ?_
      rw [h1 (by omega)]
      exact Ev.now _
    · rw [if_neg e] at h1 h2
      refine ev_neg e ?_
      rw [hw]
      exact rsplit_loop h vs hC hV hs acc ha r d (i+1) (by omega) h1 h2
theorem rwith_ev {C V:Nat} {v:Int} {vs:List Int} (b:Bool) (hC:C<2 ^ 24) (hV:V<2 ^ 24) (h:0≤v∧v<24) (hf:Free C V (v :: vs)):Ev (fun _=>ancepsref40_choices_with.f (C:Int) (V:Int) (rd (v :: vs) 0) ((b.toNat:Nat):Int)) (((wC C v:Nat):Int),((wV V v b:Nat):Int)):=by
  have e:=with_eq b hC hV h.1 h.2
  rw [show rd (v :: vs) 0=v from rfl]
  have hs:shl .i64 1 v=((2 ^ v.toNat:Nat):Int):=by
    have:=shl1 v.toNat (by omega)
    rw [← nat_of h.1] at this
    exact this
  have hp:2 ^ v.toNat<2 ^ 62:=Nat.pow_lt_pow_right (by decide) (by omega)
  have hb:shl .i64 ((b.toNat:Nat):Int) v=((b.toNat * 2 ^ v.toNat:Nat):Int):=by
    cases b
    · show shl .i64 0 v=_
      have hz:shl .i64 0 v=0:=by
        have:v=((v.toNat:Nat):Int):=nat_of h.1
        rw [this]
        simp [shl];rfl
      rw [hz];simp
    · rw [Bool.toNat_true,Nat.one_mul];exact hs
  have hp2:b.toNat * 2 ^ v.toNat<2 ^ 62:=by
    cases b
    · simp
    · simpa using hp
  unfold ancepsref40_choices_with.f
  rw [if_pos h.1,hs,hb,(bits_nat .i64 62 (by decide) w62 C _ (p62 hC (by decide)) hp).2,(bits_nat .i64 62 (by decide) w62 V _ (p62 hV (by decide)) hp2).2,wV_or hf b]
  exact Ev.now _
theorem rsplit_ev {l:List S49} (h:VS l):∀ (vs:List Int) (C V:Nat) (p:Option Int) (acc:List S96),C<2 ^ 24→V<2 ^ 24→Free C V vs→Chn 24 p vs→(tree l vs C V).full=true→acc.length≤2001→
    ∃ r,Ev (fun k=>ancepsref40_split.f k l vs (C:Int) (V:Int) acc) r∧acc.length≤r.length∧r.length≤2001∧(acc.length+(tree l vs C V).sz≤2000→r=acc++(tree l vs C V).nod acc.length)∧(2000<acc.length+(tree l vs C V).sz→2000<r.length)
  | vs,C,V,p,acc,hC,hV,hfr,hc,hf,ha=>by
    by_cases h2:2000<acc.length
    · refine ⟨acc,?_,Nat.le_refl _,ha,fun e=>by have:=(tree l vs C V).sz_pos;omega,fun _=>h2⟩
      refine Ev.step (fun k=>by rw [ancepsref40_split.f,if_pos (by omega)]) ?_
      exact Ev.now _
    by_cases hf':0≤ffl C V l 0
    · have et:tree l vs C V=.leaf (ffl C V l 0):=by
        cases vs with
        | nil=>rfl
        | cons v vs=>rw [tree,if_pos hf']
      rw [et]
      refine ⟨acc++[⟨-1,0,0,ffl C V l 0⟩],?_,by simp,by simp;omega,fun _=>rfl,fun e=>by simp only [Tr.sz] at e;simp only [List.length_append,List.length_singleton];omega⟩
      refine Ev.step (fun k=>by rw [ancepsref40_split.f,if_neg (by omega)]) ?_
      exact rsplit_loop h vs hC hV hfr.1 acc (by omega) _ l.length 0 (by omega) (fun _=>rfl) (fun e=>absurd hf' e)
    match vs,hfr,hc,hf with
    | [],hfr,hc,hf=>exact absurd (by simpa [tree,Tr.full] using hf) hf'
    | v :: vs,hfr,hc,hf=>
      have hv0:0≤v∧v<24:=⟨hc.1,hc.2.1⟩
      have hall:∀ w,w∈v :: vs→0≤w:=fun w hw=>(hc.mem w hw).1
      rw [tree,if_neg hf'] at hf ⊢
      simp only [Tr.full,Bool.and_eq_true] at hf
      obtain ⟨r1,e1,l1,m1,f1,g1⟩:=rsplit_ev h vs (wC C v) (wV V v false) (some v) (acc++[⟨v,((acc.length+1:Nat):Int),0,0⟩]) (wC_lt hC hv0.1 hv0.2) (wV_lt _ hV hv0.1 hv0.2) (hfr.step hc hall false) hc.2.2.2 hf.1 (by simp only [List.length_append,List.length_singleton];omega)
      simp only [List.length_append,List.length_singleton] at l1 f1 g1
      obtain ⟨r2,e2,l2,m2,f2,g2⟩:=rsplit_ev h vs (wC C v) (wV V v true) (some v) (r1.set ((acc.length:Int)).toNat (⟨(rd_T96 r1 (acc.length:Int)).f0,(rd_T96 r1 (acc.length:Int)).f1,(r1.length:Int),(rd_T96 r1 (acc.length:Int)).f3⟩:S96)) (wC_lt hC hv0.1 hv0.2) (wV_lt _ hV hv0.1 hv0.2) (hfr.step hc hall true) hc.2.2.2 hf.2 (by rw [List.length_set];omega)
      rw [List.length_set] at l2 f2 g2
      refine ⟨r2,?_,by omega,m2,?_,?_⟩
      · refine Ev.step (fun k=>by rw [ancepsref40_split.f,if_neg (by omega)]) ?_
        refine rsplit_loop h (v :: vs) hC hV hfr.1 acc (by omega) _ l.length 0 (by omega) (fun e=>absurd (by rw [List.drop_zero] at e;exact e) hf') (fun _=>?_)
        refine Ev.step (fun k=>by rw [ancepsref40_split.l0,if_neg (by omega)]) ?_
        refine ev_pos (by simp only [List.length_cons];omega) ?_
        refine ev_pos (by omega) ?_
        refine ev_pos (by simp only [List.length_cons];omega) ?_
        refine Ev.bind (rwith_ev false hC hV hv0 hfr) ?_
        have e1':Ev (fun k=>ancepsref40_split.f k l ((v :: vs).drop 1) ((wC C v:Nat):Int) ((wV V v false:Nat):Int) (acc++[(⟨rd (v :: vs) 0,wrap64 ((acc.length:Int)+1),0,0⟩:S96)])) r1:=by
          rw [show rd (v :: vs) 0=v from rfl,w64_in _ (by omega)]
          exact e1
        refine Ev.bind e1' ?_
        refine ev_pos (by omega) ?_
        refine ev_pos (by omega) ?_
        refine Ev.bind (rwith_ev true hC hV hv0 hfr) ?_
        refine Ev.bind e2 ?_
        exact Ev.now _
      · intro e
        simp only [Tr.sz] at e
        have e3:=f1 (by omega)
        have hlen:r1.length=acc.length+1+(tree l vs (wC C v) (wV V v false)).sz:=by rw [e3];simp only [List.length_append,List.length_singleton,Tr.nod_len]
        rw [f2 (by omega),hlen,Int.toNat_natCast,e3,List.append_assoc,List.singleton_append,set_at,rdT_mid]
        simp only [Tr.nod,List.append_assoc,List.cons_append]
      · intro e
        simp only [Tr.sz] at e
        by_cases e3:2000<acc.length+1+(tree l vs (wC C v) (wV V v false)).sz
        · have:=g1 e3
          omega
        · have e4:=f1 (by omega)
          have hlen:r1.length=acc.length+1+(tree l vs (wC C v) (wV V v false)).sz:=by rw [e4];simp only [List.length_append,List.length_singleton,Tr.nod_len]
          exact g2 (by omega)
  termination_by vs=>vs.length
theorem full_of {l:List S49} (h:VS l) (hn:SS l=[]):∀ (vs:List Int) (C V:Nat),(∀ w,w∈occ l→C.testBit w.toNat=true∨w∈vs)→(∀ v,v∈vs→v∈occ l)→(∀ j,V.testBit j=true→(mask (occ l) 0).testBit j=true)→(tree l vs C V).full=true
  | [],C,V,ho,hm,hv=>by
    simp only [tree,Tr.full,decide_eq_true_iff]
    rw [ffl_neg]
    cases e:l.any fun t=>fl t C V
    · have hin:(V:Int)∈SS l:=by
        rw [SS_mem h]
        constructor
        · unfold sat
          rw [List.all_eq_true]
          intro t ht
          rw [List.any_eq_false] at e
          have:=e t ht
          have hw:∀ w,w∈t.f0→C.testBit w.toNat=true:=fun w hw=>by
            rcases ho w ((h.occ.2 w).2 (List.mem_flatMap.2 ⟨t,ht,hw⟩)) with h1|h1
            · exact h1
            · cases h1
          rw [fl_full (h.tab t ht) hw] at this
          simpa using this
        · apply Nat.eq_of_testBit_eq
          intro j
          rw [Nat.testBit_and,Nat.testBit_xor,Nat.zero_testBit]
          cases e':V.testBit j
          · rfl
          · rw [hv j e'];rfl
      rw [hn] at hin;cases hin
    · rfl
  | v :: vs,C,V,ho,hm,hv=>by
    rw [tree]
    by_cases hf:0≤ffl C V l 0
    · rw [if_pos hf];simpa [Tr.full] using hf
    · have sub:∀ b,(tree l vs (wC C v) (wV V v b)).full=true:=fun b=>full_of h hn vs _ _ (fun w hw=>by
        rw [wC_bit]
        rcases ho w hw with h1|h1
        · rw [h1];exact .inl rfl
        · rcases List.mem_cons.1 h1 with rfl|h1
          · left;simp
          · exact .inr h1) (fun w hw=>hm w (.tail _ hw)) (fun j hj=>by
        rw [wV_bit] at hj
        by_cases e:v.toNat=j
        · rw [mask_bit,Nat.zero_testBit,Bool.false_or,List.any_eq_true]
          exact ⟨v,hm v (.head _),by simpa using e⟩
        · exact hv j (by simp [e] at hj;exact hj))
      rw [if_neg hf,Tr.full,sub false,sub true]
      rfl

theorem rsat_loop {l:List S49} (h:VS l) (most:Int) (vars out:List Int) (i a:Nat) (hi:i<16777216) (ho:out.length<17592186044416) (r:List Int):∀ (d j:Nat),j+d=l.length→
    (sat (l.drop j) a=true→Ev (fun k=>ancepsref40_solutions.l0 k l most vars (out++[(a:Int)]) ((i+1:Nat):Int)) r)→(sat (l.drop j) a=false→Ev (fun k=>ancepsref40_solutions.l0 k l most vars out ((i+1:Nat):Int)) r)→
    Ev (fun k=>ancepsref40_solutions.l1 k l most vars out i (a:Int) true j) r
  | 0,j,hd,h1,h2=>by
    rw [List.drop_eq_nil_of_le (by omega)] at h1
    have hw:wrap64 ((i:Int)+1)=((i+1:Nat):Int):=by rw [w64_in _ (by omega)];omega
    exact Ev.step (fun k=>by rw [ancepsref40_solutions.l1,if_neg (by omega),if_pos rfl,if_pos ho,hw]) (h1 rfl)
  | d+1,j,hd,h1,h2=>by
    have hj:j<l.length:=by omega
    have hl:=h.len
    have hw:wrap64 ((i:Int)+1)=((i+1:Nat):Int):=by rw [w64_in _ (by omega)];omega
    have hwj:=wrap_succ j l.length hj (by omega)
    have hm:=h.tab _ (rdT_mem l j hj)
    have e:sat (l.drop j) a=(hs (rd_T49 l j).f0 (rd_T49 l j).f1 a&&sat (l.drop (j+1)) a):=by
      unfold sat
      rw [rdT_at l j hj,List.all_cons]
    rw [e] at h1 h2
    refine Ev.step (fun k=>by rw [ancepsref40_solutions.l1,if_pos (by omega),if_pos rfl,if_pos (by omega),hwj]) (Ev.bind (holds_ev hm a) ?_)
    cases c:hs (rd_T49 l j).f0 (rd_T49 l j).f1 a
    · rw [c] at h2
      have h2:=h2 rfl
      by_cases hj2:((j+1:Nat):Int)<(l.length:Int)
      · exact Ev.step (fun k=>by rw [ancepsref40_solutions.l1,if_pos hj2,if_neg Bool.false_ne_true,hw]) h2
      · exact Ev.step (fun k=>by rw [ancepsref40_solutions.l1,if_neg hj2,if_neg Bool.false_ne_true,hw]) h2
    · rw [c,Bool.true_and] at h1 h2
      exact rsat_loop h most vars out i a hi ho r d (j+1) (by omega) h1 h2
theorem rsol_loop {l:List S49} (h:VS l) {vars:List Int} (hc:Chn 24 none vars) (hv:vars.length≤24) (most:Nat) (hm:most≤40000000):∀ (d i:Nat) (out:List Int),i+d=2 ^ vars.length→out.length≤i→out.length≤most→
    Ev (fun k=>ancepsref40_solutions.l0 k l (most:Int) vars out i) ((out++(((List.range' i d).map fun i=>asg vars i).filter (sat l)).map fun a:Nat=>(a:Int)).take most)
  | 0,i,out,hd,ho,hom=>by
    have hs1:=shl1 vars.length (by omega)
    have hp:2 ^ vars.length≤16777216:=Nat.le_trans (Nat.pow_le_pow_right (by decide) hv) (by decide)
    rw [show List.range' i 0=[] from rfl,List.map_nil,List.filter_nil,List.map_nil,List.append_nil,List.take_of_length_le hom]
    exact Ev.step (f:=fun _=>some out) (fun k=>by rw [ancepsref40_solutions.l0,hs1,if_neg (by omega)]) (Ev.now _)
  | d+1,i,out,hd,ho,hom=>by
    have hs1:=shl1 vars.length (by omega)
    have hp:2 ^ vars.length≤16777216:=Nat.le_trans (Nat.pow_le_pow_right (by decide) hv) (by decide)
    by_cases hlt:(out.length:Int)<(most:Int)
    · refine Ev.step (fun k=>by rw [ancepsref40_solutions.l0,hs1,if_pos (by omega),if_pos hlt]) (Ev.bind (rasg_ev hc hv i) ?_)
      rw [List.range'_succ,List.map_cons,List.filter_cons]
      refine rsat_loop h _ vars out i (asg vars i) (by omega) (by omega) _ l.length 0 (by omega) (fun e=>?_) (fun e=>?_)
      · rw [List.drop_zero] at e
        have ih:=rsol_loop h hc hv most hm d (i+1) (out++[((asg vars i:Nat):Int)]) (by omega) (by simp;omega) (by simp;omega)
        rw [if_pos e,List.map_cons]
        rw [List.append_assoc,List.singleton_append] at ih
        exact ih
      · rw [List.drop_zero] at e
        have ih:=rsol_loop h hc hv most hm d (i+1) out (by omega) (by omega) hom
        rw [if_neg (by rw [e];simp)]
        exact ih
    · refine ev_eq (Ev.step (f:=fun _=>some out) (fun k=>by rw [ancepsref40_solutions.l0,hs1,if_pos (by omega),if_neg hlt]) (Ev.now _)) ?_
      rw [List.take_append_of_le_length (by omega),List.take_of_length_le (by omega)]
theorem rsol_ev {l:List S49} (h:VS l) (hs:Sm l) (most:Nat) (hm:most≤40000000):Ev (fun k=>ancepsref40_solutions.f k l (most:Int)) ((SS l).take most):=by
  refine Ev.bind (rvars_ev h hs) ?_
  have:=rsol_loop h h.occ.1 h.occ_len most hm (2 ^ (occ l).length) 0 [] (by omega) (by simp) (by simp)
  rw [List.nil_append,← List.range_eq_range'] at this
  refine ev_eq this ?_
  unfold SS sl
  simp only [Nat.or_zero]

theorem rfirst_ev (l:List S49) (hs:Sm l) (hl:l.length≤1000):Ev (fun k=>ancepsref40_First.f k l) (fst1 l):=by
  refine Ev.bind (rsvalid_ev l hs hl) (ev_ite (fun h=>Ev.bind (show Ev (fun k=>ancepsref40_solutions.f k l 1) ((SS l).take 1) from rsol_ev ((sysv_VS l).1 h) hs 1 (by decide)) ?_) (fun _=>Ev.now _))
  cases SS l with
  | nil=>exact ev_pos rfl (Ev.now _)
  | cons x xs=>exact ev_neg (by simp) (ev_pos (by simp) (Ev.now _))
def lf (L:Nat) (b:S96):Bool:=decide (b.f1=0)&&decide (b.f2=0)&&decide (0≤b.f3)&&decide (b.f3<(L:Int))
def nd (b:S96):Bool:=decide (0≤b.f0)&&decide (b.f0<24)&&decide (b.f3=0)
def mrk (n i:Nat):List Int→List Bool→Option (List Bool)
  | [],M=>some M
  | k :: ks,M=>if (i:Int)<k∧k<(n:Int)∧rdOf false M k=false then mrk n i ks (M.set k.toNat true) else none
def shp (L n:Nat):List S96→Nat→List Bool→Option (List Bool)
  | [],_,M=>some M
  | b :: bs,i,M=>if b.f0=-1 then (if lf L b=true then shp L n bs (i+1) M else none) else if nd b=true then (mrk n i [b.f1,b.f2] M).bind (shp L n bs (i+1)) else none
def fin:Option (List Bool)→Bool
  | none=>false
  | some M=>(M.drop 1).all id
theorem rdN_at (l:List S96) (i:Nat) (hi:i<l.length):l.drop i=rd_T96 l i :: l.drop (i+1):=getD_drop l i z96 hi
theorem bidx_loop (M:List Bool) (hl:(M.length:Int)≤9223372036854775807):∀ (d i:Nat),i+d=M.length→∃ q:Int,Ev (fun k=>slices_Index_bool_bool.l0 k M false M.length i) q∧decide (q≥0)=!(M.drop i).all id
  | 0,i,h=>by
    refine ⟨-1,?_,by rw [List.drop_eq_nil_of_le (by omega)];rfl⟩
    refine Ev.step (fun k=>by rw [slices_Index_bool_bool.l0,if_neg (by omega)]) ?_
    exact Ev.now _
  | d+1,i,h=>by
    have hi:i<M.length:=by omega
    have hw:=wrap_succ i M.length hi hl
    obtain ⟨q,hq,hq2⟩:=bidx_loop M hl d (i+1) (by omega)
    have hd:M.drop i=rdOf false M (i:Int) :: M.drop (i+1):=getD_drop M i false hi
    rw [hd,List.all_cons]
    cases e:rdOf false M (i:Int)
    · refine ⟨i,?_,by simp⟩
      refine Ev.step (fun k=>by rw [slices_Index_bool_bool.l0,if_pos (by omega),if_pos (by omega),if_pos (by omega),e]) ?_
      refine ev_pos rfl ?_
      exact Ev.now _
    · refine ⟨q,?_,by rw [hq2];simp⟩
      refine Ev.step (fun k=>by rw [slices_Index_bool_bool.l0,if_pos (by omega),if_pos (by omega),if_pos (by omega),e,hw]) ?_
      refine ev_neg (by decide) ?_
      exact hq
theorem inner_loop (l:List S49) (N:List S96) (hn:N.length≤2000) (i:Nat) (ks:List Int) (hk:ks.length≤2) (R:List Bool→Bool)
    (hR:∀ M,M.length=N.length→Ev (fun k=>solve_shape.l0 k l N.length M N N.length (wrap64 ((i:Int)+1))) (R M)) :
    ∀ (d j:Nat) (M:List Bool),j+d=ks.length→M.length=N.length→
    Ev (fun k=>solve_shape.l1 k l N.length M i N N.length i ks ks.length j) (match mrk N.length i (ks.drop j) M with|none=>false|some M'=>R M')
  | 0,j,M,h,hM=>by
    rw [List.drop_eq_nil_of_le (by omega)]
    refine Ev.step (fun k=>by rw [solve_shape.l1,if_neg (by omega)]) ?_
    exact hR M hM
  | d+1,j,M,h,hM=>by
    have hj:j<ks.length:=by omega
    have hw:=wrap_succ j ks.length hj (by omega)
    rw [rd_at ks j hj,mrk]
    refine Ev.step (fun k=>by rw [solve_shape.l1,if_pos (by omega),if_pos (by omega),if_pos (by omega)]) ?_
    by_cases h1:rd ks j≤(i:Int)
    · rw [if_neg (by omega)]
      refine ev_pos h1 ?_
      exact Ev.now _
    refine ev_neg h1 ?_
    by_cases h2:rd ks j≥(N.length:Int)
    · rw [if_neg (by omega)]
      refine ev_pos h2 ?_
      exact Ev.now _
    refine ev_neg h2 ?_
    refine ev_pos (by omega) ?_
    refine ev_pos (by omega) ?_
    cases h3:rdOf false M (rd ks j)
    · rw [if_pos ⟨by omega,by omega,rfl⟩]
      refine ev_neg (by decide) ?_
      rw [hw]
      exact inner_loop l N hn i ks hk R hR d (j+1) _ (by omega) (by rw [List.length_set];exact hM)
    · rw [if_neg (by rintro ⟨_,_,h⟩;cases h)]
      refine ev_pos rfl ?_
      exact Ev.now _
theorem shape_loop (l:List S49) (hL:l.length≤1000) (N:List S96) (hn:N.length≤2000) (h0:1≤N.length):∀ (d i:Nat) (M:List Bool),i+d=N.length→M.length=N.length→
    Ev (fun k=>solve_shape.l0 k l N.length M N N.length i) (fin (shp l.length N.length (N.drop i) i M))
  | 0,i,M,h,hM=>by
    rw [List.drop_eq_nil_of_le (by omega)]
    refine Ev.step (fun k=>by rw [solve_shape.l0,if_neg (by omega)]) ?_
    refine ev_pos (by omega) ?_
    obtain ⟨q,hq,hq2⟩:=bidx_loop (M.drop 1) (by rw [List.length_drop];omega) (M.drop 1).length 0 (by omega)
    refine Ev.bind (show Ev (fun k=>slices_Contains_bool_bool.f k (M.drop 1) false) (decide (q≥0)) from Ev.bind hq (Ev.now _)) ?_
    rw [hq2,List.drop_zero,Bool.not_not]
    exact Ev.now _
  | d+1,i,M,h,hM=>by
    have hi:i<N.length:=by omega
    have hw:=wrap_succ i N.length hi (by omega)
    have ih:=fun M' hM'=>shape_loop l hL N hn h0 d (i+1) M' (by omega) hM'
    rw [rdN_at N i hi,shp]
    refine Ev.step (fun k=>by rw [solve_shape.l0,if_pos (by omega),if_pos (by omega),if_pos (by omega)]) ?_
    by_cases c0:(rd_T96 N i).f0=-1
    · rw [if_pos c0]
      refine ev_pos c0 ?_
      unfold lf
      by_cases c1:(rd_T96 N i).f1=0
      · refine ev_pos c1 ?_
        by_cases c2:(rd_T96 N i).f2=0
        · refine ev_pos c2 ?_
          by_cases c3:(rd_T96 N i).f3<0
          · refine ev_pos c3 ?_
            rw [if_neg (by simp;omega)]
            exact Ev.now _
          · refine ev_neg c3 ?_
            by_cases c4:(rd_T96 N i).f3≥(l.length:Int)
            · refine ev_pos c4 ?_
              rw [if_neg (by simp;omega)]
              exact Ev.now _
            · refine ev_neg c4 ?_
              rw [if_pos (by simp;omega),hw]
              exact ih M hM
        · refine ev_neg c2 ?_
          rw [if_neg (by simp;omega)]
          exact Ev.now _
      · refine ev_neg c1 ?_
        rw [if_neg (by simp;omega)]
        exact Ev.now _
    · rw [if_neg c0]
      refine ev_neg c0 ?_
      have hfin:∀ o:Option (List Bool),fin (o.bind (shp l.length N.length (N.drop (i+1)) (i+1)))=match o with|none=>false|some M'=>fin (shp l.length N.length (N.drop (i+1)) (i+1) M'):=fun o=>by cases o <;> rfl
      unfold nd
      by_cases c1:(rd_T96 N i).f0<0
      · refine ev_pos c1 ?_
        rw [if_neg (by simp;omega)]
        exact Ev.now _
      · refine ev_neg c1 ?_
        by_cases c2:(rd_T96 N i).f0≥24
        · refine ev_pos c2 ?_
          rw [if_neg (by simp;omega)]
          exact Ev.now _
        · refine ev_neg c2 ?_
          by_cases c3:(rd_T96 N i).f3=0
          · rw [if_pos (by simp;omega),hfin]
            refine ev_pos c3 (Ev.bind (Ev.now [(rd_T96 N i).f1,(rd_T96 N i).f2]) ?_)
            exact inner_loop l N hn i [(rd_T96 N i).f1,(rd_T96 N i).f2] (by simp) _ (fun M' hM'=>by rw [hw];exact ih M' hM') 2 0 M rfl hM
          · rw [if_neg (by simp;omega)]
            exact ev_neg c3 (Ev.now _)
def shpB (L:Nat) (N:List S96):Bool:=decide (1≤N.length)&&decide (N.length≤2000)&&fin (shp L N.length N 0 (List.replicate N.length false))
theorem shape_ev (l:List S49) (hL:l.length≤1000) (N:List S96):Ev (fun k=>solve_shape.f k l N) (shpB l.length N):=by
  unfold shpB
  by_cases h0:(N.length:Int)=0
  · refine ev_pos h0 ?_
    rw [decide_eq_false (show ¬ 1≤N.length by omega),Bool.false_and,Bool.false_and]
    exact Ev.now _
  · refine ev_neg h0 ?_
    by_cases h1:(N.length:Int)>2000
    · refine ev_pos h1 ?_
      rw [decide_eq_false (show ¬ N.length≤2000 by omega),Bool.and_false,Bool.false_and]
      exact Ev.now _
    · refine ev_neg h1 (ev_pos (by omega) (ev_pos (by omega) ?_))
      rw [decide_eq_true (show 1≤N.length by omega),decide_eq_true (show N.length≤2000 by omega),Bool.true_and,Bool.true_and,Int.toNat_natCast]
      have h:=shape_loop l hL N (by omega) (by omega) N.length 0 (List.replicate N.length false) (by omega) (by simp)
      rwa [List.drop_zero] at h
def vis (l:List S49) (N:List S96):Nat→Nat→Nat→Nat→Option (List Nat)
  | 0,_,_,_=>none
  | k+1,p,C,V=>if p<N.length then (if (rd_T96 N p).f0=-1 then (if lf l.length (rd_T96 N p)=true∧fl (rd_T49 l (rd_T96 N p).f3) C V=true then some [p] else none)
    else if nd (rd_T96 N p)=true∧(p:Int)<(rd_T96 N p).f1∧(p:Int)<(rd_T96 N p).f2∧C.testBit (rd_T96 N p).f0.toNat=false then
      (vis l N k (rd_T96 N p).f1.toNat (wC C (rd_T96 N p).f0) (wV V (rd_T96 N p).f0 false)).bind fun a=>(vis l N k (rd_T96 N p).f2.toNat (wC C (rd_T96 N p).f0) (wV V (rd_T96 N p).f0 true)).bind fun b=>some (p :: (a++b)) else none) else none
theorem bit_of (C:Nat) (hC:C<2 ^ 24) (v:Int) (h0:0≤v) (h1:v<24):Go.bits .and .i64 (shr .i64 (C:Int) v) 1=(((C.testBit v.toNat).toNat:Nat):Int):=by
  have e1:shr .i64 (C:Int) v=((C / 2 ^ v.toNat:Nat):Int):=by
    obtain ⟨n,rfl⟩:∃ n:Nat,v=n:=⟨v.toNat,nat_of h0⟩
    unfold shr
    rw [show IntKind.i64.bits=64 from rfl,show min ((n:Int)).toNat 64=n by omega]
    simp
  rw [e1]
  have hd:C / 2 ^ v.toNat<2 ^ 62:=Nat.lt_of_le_of_lt (Nat.div_le_self _ _) (p62 hC (by decide))
  have:=(bits_nat .i64 62 (by decide) w62 (C / 2 ^ v.toNat) 1 hd (by decide)).1
  rw [Nat.and_one_is_mod,← Nat.toNat_testBit] at this
  exact this
theorem ov_rd {l:List S49} (h:VS l) {i:Int} (h0:0≤i) (h1:i<(l.length:Int)):VT (rd_T49 l i).f0 (rd_T49 l i).f1:=by
  have:=rdT_mem l i.toNat (by omega)
  rw [← nat_of h0] at this
  exact h.tab _ this
def Flds (L:Nat) (N:List S96):Prop:=∀ i:Nat,i<N.length→((rd_T96 N i).f0=-1→lf L (rd_T96 N i)=true)∧((rd_T96 N i).f0≠-1→nd (rd_T96 N i)=true∧(i:Int)<(rd_T96 N i).f1∧(rd_T96 N i).f1<(N.length:Int)∧(i:Int)<(rd_T96 N i).f2∧(rd_T96 N i).f2<(N.length:Int))
theorem lf_iff (L:Nat) (b:S96):lf L b=true↔b.f1=0∧b.f2=0∧0≤b.f3∧b.f3<(L:Int):=by unfold lf;simp [and_assoc]
theorem nd_iff (b:S96):nd b=true↔0≤b.f0∧b.f0<24∧b.f3=0:=by unfold nd;simp [and_assoc]
theorem right_ev {l:List S49} (h:VS l) {N:List S96} (hF:Flds l.length N):∀ (d p C V:Nat),p<N.length→N.length≤p+d→C<2 ^ 24→V<2 ^ 24→
    Ev (fun k=>solve_right.f k l N p (C:Int) (V:Int)) (vis l N d p C V).isSome
  | 0,p,C,V,hp,hd,hC,hV=>by omega
  | d+1,p,C,V,hp,hd,hC,hV=>by
    have hf:=hF p hp
    rw [vis,if_pos hp]
    refine Ev.step (fun k=>by rw [solve_right.f,if_pos (by omega),if_pos (by omega)]) ?_
    by_cases c0:(rd_T96 N p).f0=-1
    · have h1:=(lf_iff _ _).1 (hf.1 c0)
      rw [if_pos c0]
      refine ev_pos (by omega) ?_
      refine ev_pos h1.2.2.1 ?_
      refine ev_pos h1.2.2.2 ?_
      refine Ev.bind (fails_ev (ov_rd h h1.2.2.1 h1.2.2.2) C V hC hV) ?_
      refine ev_eq (Ev.now _) ?_
      by_cases e:fl (rd_T49 l (rd_T96 N p).f3) C V=true
      · rw [if_pos ⟨hf.1 c0,e⟩,e];rfl
      · rw [if_neg (fun e'=>e e'.2),(Bool.not_eq_true _).mp e];rfl
    · obtain ⟨h1,h2,h3,h4,h5⟩:=hf.2 c0
      have h1':=(nd_iff _).1 h1
      have wl:=wC_lt hC h1'.1 h1'.2.1
      have wv:=fun b=>wV_lt b hV h1'.1 h1'.2.1
      rw [if_neg c0]
      refine ev_neg (by omega) ?_
      refine ev_pos h1'.1 ?_
      rw [bit_of C hC _ h1'.1 h1'.2.1]
      cases e:C.testBit (rd_T96 N p).f0.toNat
      · rw [if_pos ⟨h1,h2,h4,rfl⟩]
        refine ev_pos rfl ?_
        have w:=fun b=>with_eq b hC hV h1'.1 h1'.2.1
        refine Ev.bind (show Ev (fun _=>solve_choices_with.f (C:Int) (V:Int) (rd_T96 N p).f0 0) _ from (w false) ▸ Ev.now _) ?_
        have i1:=right_ev h hF d (rd_T96 N p).f1.toNat _ _ (by omega) (by omega) wl (wv false)
        rw [← nat_of (by omega:0≤(rd_T96 N p).f1)] at i1
        refine Ev.bind i1 ?_
        cases v1:vis l N d (rd_T96 N p).f1.toNat (wC C (rd_T96 N p).f0) (wV V (rd_T96 N p).f0 false) with
        | none=>
          refine ev_neg (by decide) ?_
          exact Ev.now _
        | some a=>
          refine ev_pos rfl ?_
          refine Ev.bind (show Ev (fun _=>solve_choices_with.f (C:Int) (V:Int) (rd_T96 N p).f0 1) _ from (w true) ▸ Ev.now _) ?_
          have i2:=right_ev h hF d (rd_T96 N p).f2.toNat _ _ (by omega) (by omega) wl (wv true)
          rw [← nat_of (by omega:0≤(rd_T96 N p).f2)] at i2
          refine Ev.bind i2 ?_
          refine ev_eq (Ev.now _) ?_
          cases v2:vis l N d (rd_T96 N p).f2.toNat (wC C (rd_T96 N p).f0) (wV V (rd_T96 N p).f0 true) <;> simp [v2]
      · rw [if_neg (by rintro ⟨_,_,_,h⟩;cases h)]
        refine ev_neg (by decide) ?_
        exact Ev.now _
theorem mrk_bounds (n i:Nat):∀ (ks:List Int) (M M':List Bool),mrk n i ks M=some M'→∀ k,k∈ks→(i:Int)<k∧k<(n:Int)
  | [],_,_,_=>fun _ hk=>by cases hk
  | x :: ks,M,M',h=>fun k hk=>by
    rw [mrk] at h
    split at h
    · next hc=>
      rcases List.mem_cons.1 hk with rfl|hk
      · exact ⟨hc.1,hc.2.1⟩
      · exact mrk_bounds n i ks _ _ h k hk
    · cases h
theorem shp_flds (L:Nat) (N:List S96):∀ (d i:Nat) (M M':List Bool),i+d=N.length→shp L N.length (N.drop i) i M=some M'→∀ j:Nat,i≤j→j<N.length→((rd_T96 N j).f0=-1→lf L (rd_T96 N j)=true)∧((rd_T96 N j).f0≠-1→nd (rd_T96 N j)=true∧(j:Int)<(rd_T96 N j).f1∧(rd_T96 N j).f1<(N.length:Int)∧(j:Int)<(rd_T96 N j).f2∧(rd_T96 N j).f2<(N.length:Int))
  | 0,i,M,M',h,hs=>fun j h1 h2=>by omega
  | d+1,i,M,M',h,hs=>fun j h1 h2=>by
    have hi:i<N.length:=by omega
    rw [rdN_at N i hi,shp] at hs
    by_cases c0:(rd_T96 N i).f0=-1
    · rw [if_pos c0] at hs
      by_cases c1:lf L (rd_T96 N i)=true
      · rw [if_pos c1] at hs
        by_cases e:j=i
        · subst e;exact ⟨fun _=>c1,fun c=>absurd c0 c⟩
        · exact shp_flds L N d (i+1) M M' (by omega) hs j (by omega) h2
      · rw [if_neg c1] at hs;cases hs
    · rw [if_neg c0] at hs
      by_cases c1:nd (rd_T96 N i)=true
      · rw [if_pos c1] at hs
        cases e2:mrk N.length i [(rd_T96 N i).f1,(rd_T96 N i).f2] M with
        | none=>rw [e2] at hs;cases hs
        | some M1=>
          rw [e2] at hs
          by_cases e:j=i
          · subst e
            have b:=mrk_bounds _ _ _ _ _ e2
            have b1:=b _ (.head _)
            have b2:=b _ (.tail _ (.head _))
            exact ⟨fun c=>absurd c c0,fun _=>⟨c1,b1.1,b1.2,b2.1,b2.2⟩⟩
          · exact shp_flds L N d (i+1) M1 M' (by omega) hs j (by omega) h2
      · rw [if_neg c1] at hs;cases hs
def chk1 (l:List S49) (N:List S96):Bool:=if sysv l=0 then shpB l.length N&&(vis l N N.length 0 0 0).isSome else false
theorem scheck_ev (l:List S49) (hs:Sm l) (hl:l.length≤1000) (N:List S96):Ev (fun k=>solve_Check.f k l N) (chk1 l N):=by
  refine Ev.bind (svalid_ev l hs hl) ?_
  unfold chk1
  refine ev_ite (fun h=>?_) (fun h=>Ev.now _)
  have hv:=(sysv_VS l).1 h
  refine Ev.bind (shape_ev l hl N) ?_
  cases e:shpB l.length N
  · refine ev_neg (by decide) ?_
    exact Ev.now _
  · refine ev_pos rfl ?_
    unfold shpB at e
    simp only [Bool.and_eq_true,decide_eq_true_iff] at e
    cases e2:shp l.length N.length N 0 (List.replicate N.length false) with
    | none=>rw [e2] at e;simp [fin] at e
    | some M=>
      have hF:Flds l.length N:=fun j hj=>shp_flds l.length N N.length 0 _ M (by omega) (by rw [List.drop_zero];exact e2) j (by omega) hj
      refine Ev.bind (right_ev hv hF N.length 0 0 0 (by omega) (by omega) (by decide) (by decide)) ?_
      rw [Bool.true_and]
      exact Ev.now _

theorem ffl_spec (C V:Nat):∀ (l:List S49) (i:Nat),0≤ffl C V l i→∃ j,j<l.length∧ffl C V l i=((i+j:Nat):Int)∧fl (rd_T49 l (j:Int)) C V=true
  | [],i,h=>by simp [ffl] at h
  | t :: ts,i,h=>by
    rw [ffl] at h ⊢
    by_cases e:fl t C V=true
    · rw [if_pos e]
      exact ⟨0,by simp,rfl,e⟩
    · rw [if_neg e] at h ⊢
      obtain ⟨j,h1,h2,h3⟩:=ffl_spec C V ts (i+1) h
      refine ⟨j+1,by simpa using h1,by rw [h2];omega,?_⟩
      rw [show rd_T49 (t :: ts) ((j+1:Nat):Int)=rd_T49 ts (j:Int) by simp [rd_T49,List.getD]]
      exact h3
namespace Tr
def ok (L:Nat):Tr→Prop
  | leaf t=>0≤t∧t<(L:Int)
  | node v a b=>(0≤v∧v<24)∧a.ok L∧b.ok L
end Tr
theorem tree_ok (l:List S49):∀ (vs:List Int) (C V:Nat),(∀ v,v∈vs→0≤v∧v<24)→(tree l vs C V).full=true→(tree l vs C V).ok l.length:=by
  have lfk:∀ C V,0≤ffl C V l 0→(Tr.leaf (ffl C V l 0)).ok l.length:=fun C V h=>by
    obtain ⟨j,h1,h2,_⟩:=ffl_spec C V l 0 h
    exact ⟨h,by rw [h2];omega⟩
  intro vs
  induction vs with
  | nil=>exact fun C V _ hf=>lfk C V (by simpa [tree,Tr.full] using hf)
  | cons v vs ih=>
    intro C V hv hf
    rw [tree] at hf ⊢
    by_cases h:0≤ffl C V l 0
    · rw [if_pos h];exact lfk C V h
    · rw [if_neg h] at hf ⊢
      simp only [Tr.full,Bool.and_eq_true] at hf
      exact ⟨hv v (.head _),ih _ _ (fun w hw=>hv w (.tail _ hw)) hf.1,ih _ _ (fun w hw=>hv w (.tail _ hw)) hf.2⟩
def upto (M:List Bool) (lo hi:Nat):List Bool:=M.mapIdx fun j b=>b||(decide (lo<j)&&decide (j<hi))
theorem upto_len (M:List Bool) (lo hi:Nat):(upto M lo hi).length=M.length:=by simp [upto]
theorem bl_ext {M M':List Bool} (hl:M.length=M'.length) (h:∀ j:Nat,j<M.length→rdOf false M (j:Int)=rdOf false M' (j:Int)):M=M':=by
  apply List.ext_getElem hl
  intro j h1 h2
  have:=h j h1
  simpa [rdOf,List.getD,List.getElem?_eq_getElem h1,List.getElem?_eq_getElem h2] using this
theorem upto_at (M:List Bool) (lo hi j:Nat) (hj:j<M.length):rdOf false (upto M lo hi) (j:Int)=(rdOf false M (j:Int)||(decide (lo<j)&&decide (j<hi))):=by
  have:j<(upto M lo hi).length:=by rw [upto_len];exact hj
  simp [rdOf,List.getD,upto,hj]
theorem std_shp (L n:Nat):∀ (T:Tr) (p:Nat) (M:List Bool) (suf:List S96),T.ok L→M.length=n→p+T.sz≤n→(∀ j:Nat,p<j→j<p+T.sz→rdOf false M (j:Int)=false)→
    shp L n (T.nod p++suf) p M=shp L n suf (p+T.sz) (upto M p (p+T.sz))
  | .leaf t,p,M,suf,ho,hM,hp,hu=>by
    show shp L n (⟨-1,0,0,t⟩ :: suf) p M=_
    rw [shp,if_pos rfl,if_pos ((lf_iff _ _).2 ⟨rfl,rfl,ho.1,ho.2⟩)]
    simp only [Tr.sz]
    congr 1
    refine bl_ext (by rw [upto_len]) (fun j hj=>?_)
    rw [upto_at _ _ _ _ hj]
    rw [show (decide (p<j)&&decide (j<p+1))=false by simp;omega,Bool.or_false]
  | .node v a b,p,M,suf,ho,hM,hp,hu=>by
    obtain ⟨hv,ha,hb⟩:=ho
    have sa:=a.sz_pos
    have sb:=b.sz_pos
    simp only [Tr.sz] at hp hu ⊢
    show shp L n (⟨v,((p+1:Nat):Int),((p+1+a.sz:Nat):Int),0⟩ :: ((a.nod (p+1)++b.nod (p+1+a.sz))++suf)) p M=_
    have h1:=hu (p+1) (by omega) (by omega)
    have h2:rdOf false (M.set (p+1) true) ((p+1+a.sz:Nat):Int)=false:=by
      rw [rdb_set _ _ _ _ (by omega),if_neg (by omega)]
      exact hu _ (by omega) (by omega)
    rw [shp,if_neg (by show ¬ v=-1;omega),if_pos ((nd_iff _).2 ⟨hv.1,hv.2,rfl⟩)]
    have hm:mrk n p [((p+1:Nat):Int),((p+1+a.sz:Nat):Int)] M=some ((M.set (p+1) true).set (p+1+a.sz) true):=by
      rw [mrk,if_pos ⟨by omega,by omega,h1⟩,Int.toNat_natCast,mrk,if_pos ⟨by omega,by omega,h2⟩,Int.toNat_natCast,mrk]
    show (mrk n p [((p+1:Nat):Int),((p+1+a.sz:Nat):Int)] M).bind _=_
    rw [hm,Option.bind_some,List.append_assoc]
    have at1:∀ j:Nat,rdOf false ((M.set (p+1) true).set (p+1+a.sz) true) (j:Int)=if p+1+a.sz=j then true else if p+1=j then true else rdOf false M (j:Int):=fun j=>by
      rw [rdb_set _ _ _ _ (by rw [List.length_set];omega),rdb_set _ _ _ _ (by omega)]
    rw [std_shp L n a (p+1) _ _ ha (by rw [List.length_set,List.length_set];exact hM) (by omega) (fun j k1 k2=>by
      rw [at1,if_neg (by omega),if_neg (by omega)];exact hu j (by omega) (by omega))]
    rw [std_shp L n b (p+1+a.sz) _ _ hb (by rw [upto_len,List.length_set,List.length_set];exact hM) (by omega) (fun j k1 k2=>by
      rw [upto_at _ _ _ _ (by rw [List.length_set,List.length_set];omega),at1,if_neg (by omega),if_neg (by omega),hu j (by omega) (by omega)];simp;omega)]
    rw [show p+(1+a.sz+b.sz)=p+1+a.sz+b.sz by omega]
    congr 1
    refine bl_ext (by simp only [upto_len,List.length_set]) (fun j hj=>?_)
    simp only [upto_len,List.length_set] at hj
    rw [upto_at _ _ _ _ (by simp only [upto_len,List.length_set];exact hj),upto_at _ _ _ _ (by simp only [List.length_set];exact hj),at1,upto_at _ _ _ _ hj]
    by_cases e1:p+1+a.sz=j
    · rw [if_pos e1]
      simp;right;omega
    · rw [if_neg e1]
      by_cases e2:p+1=j
      · rw [if_pos e2]
        simp;right;omega
      · rw [if_neg e2]
        cases rdOf false M (j:Int)
        · simp only [Bool.false_or]
          rw [Bool.eq_iff_iff]
          simp
          omega
        · simp
def Lies (N:List S96) (T:Tr) (p:Nat):Prop:=∃ suf,N.drop p=T.nod p++suf
theorem Lies.lt {N:List S96} {T:Tr} {p:Nat} (h:Lies N T p):p+T.sz≤N.length:=by
  obtain ⟨suf,h⟩:=h
  have:=congrArg List.length h
  rw [List.length_drop,List.length_append,T.nod_len] at this
  have:=T.sz_pos
  omega
theorem Lies.rd {N:List S96} {T:Tr} {p:Nat} (h:Lies N T p):(∀ t,T=.leaf t→rd_T96 N p=⟨-1,0,0,t⟩)∧(∀ v a b,T=.node v a b→rd_T96 N p=⟨v,((p+1:Nat):Int),((p+1+a.sz:Nat):Int),0⟩∧Lies N a (p+1)∧Lies N b (p+1+a.sz)):=by
  have hl:=h.lt
  have hs:=T.sz_pos
  obtain ⟨suf,h⟩:=h
  rw [rdN_at N p (by omega)] at h
  constructor
  · rintro t rfl
    exact (List.cons.inj h).1
  · rintro v a b rfl
    obtain ⟨h1,h2⟩:=List.cons.inj h
    change _=(a.nod (p+1)++b.nod (p+1+a.sz))++suf at h2
    rw [List.append_assoc] at h2
    refine ⟨h1,⟨_,h2⟩,⟨suf,?_⟩⟩
    have:=congrArg (List.drop a.sz) h2
    have e:(a.nod (p+1)).drop a.sz=[]:=List.drop_eq_nil_of_le (by rw [a.nod_len];omega)
    rw [List.drop_drop,List.drop_append_of_le_length (by rw [a.nod_len];omega),e,List.nil_append] at this
    exact this
theorem std_vis {l:List S49} {N:List S96}:∀ (vs:List Int) (k C V p:Nat) (q:Option Int),Chn 24 q vs→Free C V vs→(tree l vs C V).full=true→Lies N (tree l vs C V) p→N.length≤p+k→(vis l N k p C V).isSome=true:=by
  have hleaf:∀ (k C V p:Nat),Lies N (.leaf (ffl C V l 0)) p→0≤ffl C V l 0→(vis l N (k+1) p C V).isSome=true:=fun k C V p h hf=>by
    have hl:=h.lt
    simp only [Tr.sz] at hl
    obtain ⟨j,h1,h2,h3⟩:=ffl_spec C V l 0 hf
    rw [Nat.zero_add] at h2
    rw [vis,if_pos (by omega),h.rd.1 _ rfl,if_pos rfl,if_pos ⟨(lf_iff _ _).2 ⟨rfl,rfl,hf,by show ffl C V l 0<_;rw [h2];omega⟩,by show fl (rd_T49 l (ffl C V l 0)) C V=true;rw [h2];exact h3⟩]
    rfl
  intro vs
  induction vs with
  | nil=>
    intro k C V p q hc hfr hf h hk
    have hl:=h.lt
    simp only [tree,Tr.sz] at hl
    obtain ⟨k,rfl⟩:∃ k',k=k'+1:=⟨k - 1,by omega⟩
    exact hleaf k C V p h (by simpa [tree,Tr.full] using hf)
  | cons v vs ih=>
    intro k C V p q hc hfr hf h hk
    have hl:=h.lt
    have hs:=(tree l (v :: vs) C V).sz_pos
    obtain ⟨k,rfl⟩:∃ k',k=k'+1:=⟨k - 1,by omega⟩
    by_cases hf':0≤ffl C V l 0
    · rw [tree,if_pos hf'] at h
      exact hleaf k C V p h hf'
    · rw [tree,if_neg hf'] at h hf
      simp only [Tr.full,Bool.and_eq_true] at hf
      have hall:∀ w,w∈v :: vs→0≤w:=fun w hw=>(hc.mem w hw).1
      obtain ⟨h1,h2,h3⟩:=h.rd.2 _ _ _ rfl
      have v1:=ih k _ _ _ _ hc.2.2.2 (hfr.step hc hall false) hf.1 h2 (by omega)
      have v2:=ih k _ _ _ _ hc.2.2.2 (hfr.step hc hall true) hf.2 h3 (by omega)
      obtain ⟨x1,e1⟩:=Option.isSome_iff_exists.1 v1
      obtain ⟨x2,e2⟩:=Option.isSome_iff_exists.1 v2
      rw [vis,if_pos (by omega),h1,if_neg (by show ¬ v=-1;have:=hc.1;omega),if_pos ⟨(nd_iff _).2 ⟨hc.1,hc.2.1,rfl⟩,by show (p:Int)<((p+1:Nat):Int);omega,by show (p:Int)<((p+1+_:Nat):Int);omega,hfr.2 v (.head _)⟩]
      simp only [Int.toNat_natCast]
      rw [e1,e2]
      rfl
theorem std_chk {l:List S49} (h:VS l) (hf:(tree l (occ l) 0 0).full=true) (hz:(tree l (occ l) 0 0).sz≤2000):chk1 l ((tree l (occ l) 0 0).nod 0)=true:=by
  have hn:=(tree l (occ l) 0 0).nod_len 0
  have hs:=(tree l (occ l) 0 0).sz_pos
  have hok:=tree_ok l (occ l) 0 0 h.occ' hf
  unfold chk1
  rw [if_pos ((sysv_VS l).2 h),std_vis (occ l) _ 0 0 0 none h.occ.1 ⟨fun j hj=>by simp at hj,fun v _=>by simp⟩ hf ⟨[],by simp⟩ (by omega),Bool.and_true]
  unfold shpB
  rw [hn,decide_eq_true (by omega),decide_eq_true (by omega)]
  have e:=std_shp l.length (tree l (occ l) 0 0).sz (tree l (occ l) 0 0) 0 (List.replicate (tree l (occ l) 0 0).sz false) [] hok (by simp) (by omega) (fun j h1 h2=>by rw [rdOf,List.getD,Int.toNat_natCast,List.getElem?_replicate];split <;> rfl)
  rw [List.append_nil] at e
  rw [e,shp]
  simp only [Bool.and_self,Bool.true_and,fin]
  rw [List.all_eq_true]
  intro x hx
  obtain ⟨j,hj,e2⟩:=List.getElem_of_mem hx
  rw [List.length_drop,upto_len,List.length_replicate] at hj
  rw [List.getElem_drop] at e2
  have:=upto_at (List.replicate (tree l (occ l) 0 0).sz false) 0 (0+(tree l (occ l) 0 0).sz) (1+j) (by simp;omega)
  have h3:1+j<(upto (List.replicate (tree l (occ l) 0 0).sz false) 0 (0+(tree l (occ l) 0 0).sz)).length:=by rw [upto_len];simp;omega
  rw [rdOf,Int.toNat_natCast,List.getD,List.getElem?_eq_getElem h3,Option.getD_some,e2] at this
  rw [this]
  simp
  omega
theorem same_loop (N:List S96) (hn:N.length≤3000):∀ (d i:Nat),i+d=N.length→Ev (fun k=>ancepsref40_Same.l0 k i N N) true
  | 0,i,h=>by
    refine Ev.step (fun k=>by rw [ancepsref40_Same.l0,if_neg (by omega)]) ?_
    exact Ev.now _
  | d+1,i,h=>by
    have hi:i<N.length:=by omega
    have hw:=wrap_succ i N.length hi (by omega)
    refine Ev.step (fun k=>by rw [ancepsref40_Same.l0,if_pos (by omega),if_pos (by omega),if_pos (by omega),hw]) ?_
    refine ev_neg (by simp) ?_
    exact same_loop N hn d (i+1) (by omega)
theorem nsame_ev (N:List S96) (hn:N.length≤3000):Ev (fun k=>ancepsref40_Same.f k N N) true:=ev_pos rfl (same_loop N hn N.length 0 (by omega))
def rfu (l:List S49):List S96×Int:=if sysv l=0 then (if SS l=[] then (if (tree l (occ l) 0 0).sz≤2000 then ((tree l (occ l) 0 0).nod 0,0) else ([],3)) else ([],11)) else ([],sysv l)
theorem free0 (l:List S49):Free 0 0 (occ l):=⟨fun j hj=>by simp at hj,fun v _=>by simp⟩
theorem full0 {l:List S49} (h:VS l) (hn:SS l=[]):(tree l (occ l) 0 0).full=true:=full_of h hn (occ l) 0 0 (fun w hw=>.inr hw) (fun v hv=>hv) (fun j hj=>by simp at hj)
theorem drefute_ev (l:List S49) (hs:Sm l) (hl:l.length≤1000):Ev (fun k=>solve_Refute.f k l) (rfu l):=by
  refine Ev.bind (svalid_ev l hs hl) ?_
  unfold rfu
  refine ev_ite (fun h=>?_) (fun h=>Ev.now _)
  have hv:=(sysv_VS l).1 h
  refine Ev.bind (occ_ev l hs hl) (Ev.bind (allsearch_ev hv) ?_)
  by_cases e:SS l=[]
  · rw [if_pos e]
    refine ev_pos (by rw [e];rfl) ?_
    obtain ⟨q,e1,e2,e3⟩:=split_ev hv (occ l) 0 0 [] (by decide) (by decide) hv.occ' (full0 hv e) (by simp)
    refine Ev.bind e1 (ev_eq (Ev.now _) ?_)
    unfold solve_Refute.of
    rw [List.length_nil,Nat.zero_add] at e2
    by_cases hz:(tree l (occ l) 0 0).sz≤2000
    · rw [decide_eq_true hz] at e2
      rw [if_pos e2,if_pos hz,e3 e2];rfl
    · rw [decide_eq_false hz] at e2
      rw [if_neg (by rw [e2];decide),if_neg hz]
  · rw [if_neg e]
    refine ev_neg (by rw [Int.natCast_eq_zero,List.length_eq_zero_iff];exact e) ?_
    exact Ev.now _
theorem rrefute_ev (l:List S49) (hs:Sm l) (hl:l.length≤1000):Ev (fun k=>ancepsref40_Refute.f k l) (rfu l):=by
  refine Ev.bind (rsvalid_ev l hs hl) ?_
  unfold rfu
  refine ev_ite (fun h=>?_) (fun h=>Ev.now _)
  have hv:=(sysv_VS l).1 h
  refine Ev.bind (rsol_ev hv hs 1 (by decide)) ?_
  by_cases e:SS l=[]
  · rw [if_pos e]
    refine ev_neg (by rw [e];decide) ?_
    refine Ev.bind (rvars_ev hv hs) ?_
    obtain ⟨r,e1,_,_,e4,e5⟩:=rsplit_ev hv (occ l) 0 0 none [] (by decide) (by decide) (free0 l) hv.occ.1 (full0 hv e) (by simp)
    rw [List.length_nil,Nat.zero_add] at e4 e5
    refine Ev.bind e1 ?_
    by_cases hz:(tree l (occ l) 0 0).sz≤2000
    · rw [if_pos hz]
      have:=e4 hz
      rw [List.nil_append] at this
      rw [this]
      refine ev_neg (by rw [Tr.nod_len];omega) ?_
      exact Ev.now _
    · rw [if_neg hz]
      refine ev_pos (by have:=e5 (by omega);omega) ?_
      exact Ev.now _
  · rw [if_neg e]
    refine ev_pos ?_ (Ev.now _)
    cases hS:SS l with
    | nil=>exact absurd hS e
    | cons x xs=>simp
theorem SS_hld {l:List S49} (h:VS l) {x:Int} (hx:x∈SS l):hld l x=true:=by
  have hx':=hx
  unfold SS sl at hx'
  obtain ⟨a,ha,rfl⟩:=List.mem_map.1 hx'
  obtain ⟨h1,h2⟩:=(SS_mem h a).1 hx
  rw [← asgrow_iff h.occ.1] at h2
  have hlt:a<2 ^ 24:=by rw [← h2];exact asg_lt h.occ.1 _
  unfold hld hsS
  rw [if_pos ((sysv_VS l).2 h),if_neg (by omega),if_neg (by omega),Int.toNat_natCast,h2]
  simpa [sat] using h1
structure Md (l:List S49):Prop where
  len:l.length≤6
  tab:∀ t,t∈l→VT t.f0 t.f1∧Chn 8 none t.f0
theorem Md.vs {l:List S49} (h:Md l):VS l:=⟨by have:=h.len;omega,fun t ht=>(h.tab t ht).1⟩
theorem vs_sm {l:List S49} (h:VS l):Sm l:=fun t ht=>by
  have h1:=(h.tab t ht).len
  have h2:=(h.tab t ht).rows_len
  omega
theorem Md.sm {l:List S49} (h:Md l):Sm l:=vs_sm h.vs
def cmb:Nat→Nat→Nat→List (List Int)
  | _,0,_=>[[]]
  | 0,_+1,_=>[]
  | d+1,s+1,f=>((cmb d s (f+1)).map fun l=>(f:Int) :: l)++cmb d (s+1) (f+1)
theorem cmb_zero (d f:Nat):cmb d 0 f=[[]]:=by cases d <;> rfl
theorem cmb_len:∀ (d s f:Nat),(cmb d s f).length≤2 ^ d
  | d,0,f=>by rw [cmb_zero];exact Nat.one_le_two_pow
  | 0,s+1,f=>by simp [cmb]
  | d+1,s+1,f=>by
    have h1:=cmb_len d s (f+1)
    have h2:=cmb_len d (s+1) (f+1)
    rw [cmb,List.length_append,List.length_map,Nat.pow_succ]
    omega
theorem Chn.of_low {hi:Int} {q:Int}:∀ {l:List Int},Chn hi none l→(∀ x,x∈l→q<x)→Chn hi (some q) l
  | [],_,_=>trivial
  | x :: l,⟨h0,h1,_,h3⟩,h=>⟨h0,h1,fun p hp=>by injection hp with hp;have:=h x List.mem_cons_self;omega,h3⟩
theorem mem_cmb:∀ (d s f:Nat) (l:List Int),l∈cmb d s f↔l.length=s∧Chn ((f+d:Nat):Int) none l∧∀ x,x∈l→(f:Int)≤x
  | d,0,f,l=>by
    rw [cmb_zero,List.mem_singleton]
    constructor
    · rintro rfl;exact ⟨rfl,trivial,fun x hx=>by simp at hx⟩
    · rintro ⟨h,_⟩;exact List.eq_nil_of_length_eq_zero h
  | 0,s+1,f,l=>by
    constructor
    · intro h;simp [cmb] at h
    · rintro ⟨h1,h2,h3⟩
      cases l with
      | nil=>simp at h1
      | cons x l=>have:=h2.2.1;have:=h3 x List.mem_cons_self;omega
  | d+1,s+1,f,l=>by
    rw [cmb,List.mem_append,List.mem_map,mem_cmb d (s+1) (f+1) l]
    have e:((f+1+d:Nat):Int)=((f+(d+1):Nat):Int):=by omega
    rw [e]
    constructor
    · rintro (⟨m,hm,rfl⟩|⟨h1,h2,h3⟩)
      · obtain ⟨h1,h2,h3⟩:=(mem_cmb d s (f+1) m).1 hm
        rw [e] at h2
        refine ⟨by rw [List.length_cons,h1],⟨by omega,by omega,(fun q hq=>by cases hq),h2.of_low (fun x hx=>by have:=h3 x hx;omega)⟩,fun x hx=>?_⟩
        rcases List.mem_cons.1 hx with rfl|hx
        · exact Int.le_refl _
        · have:=h3 x hx;omega
      · exact ⟨h1,h2,fun x hx=>by have:=h3 x hx;omega⟩
    · rintro ⟨h1,h2,h3⟩
      cases l with
      | nil=>simp at h1
      | cons x m=>
        have hx:=h3 x List.mem_cons_self
        by_cases hf:x=(f:Int)
        · subst hf
          refine .inl ⟨m,(mem_cmb d s (f+1) m).2 ⟨by simpa using h1,by rw [e];exact h2.2.2.2.weak,fun y hy=>?_⟩,rfl⟩
          have:=(h2.2.2.2.mem y hy).2.2 _ rfl
          omega
        · refine .inr ⟨h1,h2,fun y hy=>?_⟩
          rcases List.mem_cons.1 hy with rfl|hy
          · omega
          · have:=(h2.2.2.2.mem y hy).2.2 _ rfl
            omega
theorem cmb_nodup:∀ (d s f:Nat),(cmb d s f).Nodup
  | d,0,f=>by rw [cmb_zero];simp
  | 0,s+1,f=>by simp [cmb]
  | d+1,s+1,f=>by
    rw [cmb]
    refine List.nodup_append.2 ⟨?_,cmb_nodup d (s+1) (f+1),?_⟩
    · unfold List.Nodup
      rw [List.pairwise_map]
      exact (cmb_nodup d s (f+1)).imp (fun h e=>h (List.cons.inj e).2)
    · intro a ha b hb e
      subst e
      obtain ⟨m,_,rfl⟩:=List.mem_map.1 ha
      have:=((mem_cmb d (s+1) (f+1) _).1 hb).2.2 f List.mem_cons_self
      omega
theorem cmb_shift:∀ (d s f g:Nat),cmb d s (f+g)=(cmb d s f).map fun l=>l.map fun x=>x+(g:Int)
  | d,0,f,g=>by rw [cmb_zero,cmb_zero];rfl
  | 0,s+1,f,g=>rfl
  | d+1,s+1,f,g=>by
    have h1:=cmb_shift d s (f+1) g
    have h2:=cmb_shift d (s+1) (f+1) g
    rw [show f+1+g=f+g+1 by omega] at h1 h2
    rw [cmb,cmb,h1,h2,List.map_append,List.map_map,List.map_map]
    congr 1
def frm (f:Nat) (l:List Int):Nat:=match l.getLast? with
  | none=>f
  | some x=>x.toNat+1
def ext (n f:Nat) (l:List Int):List (List Int):=(List.range' (frm f l) (n - frm f l)).map fun i:Nat=>l++[(i:Int)]
theorem frm_cons (f:Nat) (l:List Int):frm f ((f:Int) :: l)=frm (f+1) l:=by
  unfold frm
  cases l with
  | nil=>simp
  | cons y l=>
    rw [List.getLast?_cons_cons]
    cases e:(y :: l).getLast? with
    | none=>exact absurd (List.getLast?_eq_none_iff.1 e) (by simp)
    | some x=>rfl
theorem ext_cons (n f:Nat) (l:List Int):ext n f ((f:Int) :: l)=(ext n (f+1) l).map fun l=>(f:Int) :: l:=by
  unfold ext
  rw [frm_cons,List.map_map]
  congr 1
theorem frm_any (f g:Nat) {l:List Int} (h:l≠[]):frm f l=frm g l:=by
  unfold frm
  cases e:l.getLast? with
  | none=>exact absurd (List.getLast?_eq_none_iff.1 e) h
  | some x=>rfl
theorem ext_one (n:Nat):∀ (d f:Nat),f+d=n→ext n f []=cmb d 1 f
  | 0,f,h=>by
    unfold ext
    rw [show frm f []=f from rfl,show n - f=0 by omega]
    rfl
  | d+1,f,h=>by
    have ih:=ext_one n d (f+1) (by omega)
    unfold ext at ih ⊢
    rw [show frm f []=f from rfl,show n - f=d+1 by omega,List.range'_succ,List.map_cons,cmb,cmb_zero,← ih,show frm (f+1) []=f+1 from rfl,show n - (f+1)=d by omega]
    rfl
theorem cmb_ext (n:Nat):∀ (d s f:Nat),f+d=n→(cmb d s f).flatMap (ext n f)=cmb d (s+1) f
  | d,0,f,h=>by rw [cmb_zero,List.flatMap_cons,List.flatMap_nil,List.append_nil,ext_one n d f h]
  | 0,s+1,f,h=>rfl
  | d+1,s+1,f,h=>by
    have h1:=cmb_ext n d s (f+1) (by omega)
    have h2:=cmb_ext n d (s+1) (f+1) (by omega)
    have e1:∀ L:List (List Int),(L.map fun l=>(f:Int) :: l).flatMap (ext n f)=(L.flatMap (ext n (f+1))).map fun l=>(f:Int) :: l:=by
      intro L
      induction L with
      | nil=>rfl
      | cons l L ih=>rw [List.map_cons,List.flatMap_cons,List.flatMap_cons,List.map_append,ih,ext_cons]
    have e2:∀ L:List (List Int),(∀ l,l∈L→l≠[])→L.flatMap (ext n f)=L.flatMap (ext n (f+1)):=by
      intro L
      induction L with
      | nil=>intro _;rfl
      | cons l L ih=>
        intro hL
        rw [List.flatMap_cons,List.flatMap_cons,ih (fun m hm=>hL m (List.mem_cons_of_mem _ hm))]
        congr 1
        unfold ext
        rw [frm_any f (f+1) (hL l List.mem_cons_self)]
    rw [cmb,List.flatMap_append,e1,h1,e2 _ (fun l hl e=>by have:=((mem_cmb d (s+1) (f+1) l).1 hl).1;rw [e] at this;simp at this),h2]
    rfl
def mini (P:List Int→Bool) (s:List Int):Bool:=P s&&(List.range s.length).all fun i=>!P (s.eraseIdx i)
def Mon (n:Nat) (P:List Int→Bool):Prop:=∀ s t,Chn n none s→Chn n none t→(∀ x,x∈s→x∈t)→P s=true→P t=true
def low (n:Nat) (P:List Int→Bool) (k:Nat):List (List Int):=(List.range k).flatMap fun j=>(cmb n j 0).filter (mini P)
def lst (n:Nat) (P:List Int→Bool):List (List Int):=low n P (n+1)
def step (P:List Int→Bool) (out:List (List Int)) (s:List Int):List (List Int):=if (out.any fun o=>o.all fun x=>decide (x∈s))=true then out else if P s=true then out++[s] else out
theorem mini_iff (P:List Int→Bool) (s:List Int):mini P s=true↔P s=true∧∀ i,i<s.length→P (s.eraseIdx i)=false:=by
  unfold mini
  rw [Bool.and_eq_true,List.all_eq_true]
  constructor
  · rintro ⟨h1,h2⟩;exact ⟨h1,fun i hi=>by have:=h2 i (List.mem_range.2 hi);simpa using this⟩
  · rintro ⟨h1,h2⟩;exact ⟨h1,fun i hi=>by rw [h2 i (List.mem_range.1 hi)];rfl⟩
theorem Chn.sub {hi:Int}:∀ {l' l:List Int},l'.Sublist l→∀ {p:Option Int},Chn hi p l→Chn hi p l':=by
  intro l' l h
  induction h with
  | slnil=>intro p _;trivial
  | @cons l1 l2 a h ih=>
    intro p hc
    have h3:=hc.2.2.2
    have:Chn hi none l1:=ih h3.weak
    cases p with
    | none=>exact this
    | some q=>exact this.of_low (fun x hx=>by have h4:=(h3.mem x (h.subset hx)).2.2 a rfl;have:=hc.2.2.1 q rfl;omega)
  | cons_cons a h ih=>intro p hc;exact ⟨hc.1,hc.2.1,hc.2.2.1,ih hc.2.2.2⟩
theorem Chn.nodup {hi:Int}:∀ {l:List Int} {p:Option Int},Chn hi p l→l.Nodup
  | [],_,_=>List.nodup_nil
  | x :: l,p,h=>List.nodup_cons.2 ⟨fun hx=>by have:=(h.2.2.2.mem x hx).2.2 x rfl;omega,h.2.2.2.nodup⟩
theorem mini_in (P:List Int→Bool):∀ (n:Nat) (s:List Int),s.length=n→P s=true→∃ o,o.Sublist s∧mini P o=true
  | n,s,hn,hs=>by
    by_cases h:mini P s=true
    · exact ⟨s,List.Sublist.refl _,h⟩
    · have:∃ i,i<s.length∧P (s.eraseIdx i)=true:=by
        by_cases hx:∃ i,i<s.length∧P (s.eraseIdx i)=true
        · exact hx
        · exact absurd ((mini_iff P s).2 ⟨hs,fun i hi=>by rw [← Bool.not_eq_true];exact fun h2=>hx ⟨i,hi,h2⟩⟩) h
      obtain ⟨i,hi,hp⟩:=this
      have hl:(s.eraseIdx i).length<n:=by rw [List.length_eraseIdx];split <;> omega
      obtain ⟨o,ho,hm⟩:=mini_in P _ (s.eraseIdx i) rfl hp
      exact ⟨o,ho.trans (List.eraseIdx_sublist _ _),hm⟩
  termination_by n=>n
theorem mem_low (n:Nat) (P:List Int→Bool) (k:Nat) (s:List Int):s∈low n P k↔s.length<k∧Chn n none s∧mini P s=true:=by
  unfold low
  rw [List.mem_flatMap]
  constructor
  · rintro ⟨j,hj,hs⟩
    obtain ⟨h1,h2⟩:=List.mem_filter.1 hs
    obtain ⟨h3,h4,_⟩:=(mem_cmb n j 0 s).1 h1
    rw [Nat.zero_add] at h4
    have:=List.mem_range.1 hj
    exact ⟨by omega,h4,h2⟩
  · rintro ⟨h1,h2,h3⟩
    refine ⟨s.length,List.mem_range.2 h1,List.mem_filter.2 ⟨(mem_cmb n _ 0 s).2 ⟨rfl,by rw [Nat.zero_add];exact h2,fun x hx=>?_⟩,h3⟩⟩
    have:=(h2.mem x hx).1
    omega
theorem mem_lst (n:Nat) (P:List Int→Bool) (s:List Int):s∈lst n P↔Chn n none s∧mini P s=true:=by
  unfold lst
  rw [mem_low]
  constructor
  · rintro ⟨_,h1,h2⟩;exact ⟨h1,h2⟩
  · rintro ⟨h1,h2⟩;exact ⟨by have:=h1.len (by omega);omega,h1,h2⟩
theorem part_erase {n:Int} {o s:List Int} (ho:Chn n none o) (hs:Chn n none s) (h:∀ x,x∈o→x∈s) (hne:o≠s):∃ i,i<s.length∧∀ x,x∈o→x∈s.eraseIdx i:=by
  have:∃ x,x∈s∧x∉o:=by
    by_cases hx:∃ x,x∈s∧x∉o
    · exact hx
    · refine absurd (ho.same hs (fun x=>⟨h x,fun hx2=>?_⟩)) hne
      by_cases hxo:x∈o
      · exact hxo
      · exact absurd ⟨x,hx2,hxo⟩ hx
  obtain ⟨x,hx,hxo⟩:=this
  obtain ⟨i,hi,rfl⟩:=List.getElem_of_mem hx
  refine ⟨i,hi,fun y hy=>?_⟩
  obtain ⟨j,hj,rfl⟩:=List.getElem_of_mem (h y hy)
  exact List.mem_eraseIdx_iff_getElem.2 ⟨j,hj,fun e=>hxo (by subst e;exact hy),rfl⟩
theorem least_step {n:Nat} {P:List Int→Bool} (hP:Mon n P) {k:Nat} {pre rest:List (List Int)} {s:List Int} (h:cmb n k 0=pre++s :: rest):step P (low n P k++pre.filter (mini P)) s=low n P k++(pre++[s]).filter (mini P):=by
  have hmem:∀ o,o∈pre++s :: rest→o.length=k∧Chn n none o:=fun o ho=>by
    rw [← h] at ho
    obtain ⟨h1,h2,_⟩:=(mem_cmb n k 0 o).1 ho
    rw [Nat.zero_add] at h2
    exact ⟨h1,h2⟩
  obtain ⟨hsl,hsc⟩:=hmem s (by simp)
  have hnd:=cmb_nodup n k 0
  rw [h] at hnd
  have hsp:s∉pre:=fun hs=>(List.nodup_append.1 hnd).2.2 s hs s List.mem_cons_self rfl
  rw [List.filter_append]
  unfold step
  by_cases hm:mini P s=true
  · have hn:¬ ((low n P k++pre.filter (mini P)).any fun o=>o.all fun x=>decide (x∈s))=true:=by
      intro ha
      obtain ⟨o,ho,hos⟩:=List.any_eq_true.1 ha
      have hos:∀ x,x∈o→x∈s:=fun x hx=>by have:=List.all_eq_true.1 hos x hx;simpa using this
      have:o≠s∧Chn n none o∧mini P o=true:=by
        rcases List.mem_append.1 ho with ho|ho
        · obtain ⟨h1,h2,h3⟩:=(mem_low n P k o).1 ho
          exact ⟨fun e=>by rw [e] at h1;omega,h2,h3⟩
        · obtain ⟨h1,h2⟩:=List.mem_filter.1 ho
          exact ⟨fun e=>hsp (e ▸ h1),(hmem o (List.mem_append_left _ h1)).2,h2⟩
      obtain ⟨h1,h2,h3⟩:=this
      obtain ⟨i,hi,h4⟩:=part_erase h2 hsc hos h1
      have h5:=hP o (s.eraseIdx i) h2 (hsc.sub (List.eraseIdx_sublist _ _)) h4 ((mini_iff P o).1 h3).1
      rw [((mini_iff P s).1 hm).2 i hi] at h5
      cases h5
    rw [if_neg hn,if_pos ((mini_iff P s).1 hm).1,List.filter_cons_of_pos hm,List.filter_nil,List.append_assoc]
  · rw [List.filter_cons_of_neg hm,List.filter_nil,List.append_nil]
    by_cases hp:P s=true
    · have ha:((low n P k++pre.filter (mini P)).any fun o=>o.all fun x=>decide (x∈s))=true:=by
        have:∃ i,i<s.length∧P (s.eraseIdx i)=true:=by
          by_cases hx:∃ i,i<s.length∧P (s.eraseIdx i)=true
          · exact hx
          · exact absurd ((mini_iff P s).2 ⟨hp,fun i hi=>by rw [← Bool.not_eq_true];exact fun h2=>hx ⟨i,hi,h2⟩⟩) hm
        obtain ⟨i,hi,hpi⟩:=this
        obtain ⟨o,ho,hmo⟩:=mini_in P _ _ rfl hpi
        have hsub:=ho.trans (List.eraseIdx_sublist s i)
        have hlen:o.length<k:=by
          have h1:=ho.length_le
          rw [List.length_eraseIdx,if_pos hi] at h1
          omega
        refine List.any_eq_true.2 ⟨o,List.mem_append_left _ ((mem_low n P k o).2 ⟨hlen,hsc.sub hsub,hmo⟩),List.all_eq_true.2 (fun x hx=>?_)⟩
        simpa using hsub.subset hx
      rw [if_pos ha]
    · rw [if_neg hp]
      split <;> rfl
theorem low_succ (n:Nat) (P:List Int→Bool) (k:Nat):low n P (k+1)=low n P k++(cmb n k 0).filter (mini P):=by
  unfold low
  rw [List.range_succ,List.flatMap_append,List.flatMap_cons,List.flatMap_nil,List.append_nil]
theorem low_len (n:Nat) (P:List Int→Bool):∀ k,(low n P k).length≤k * 2 ^ n
  | 0=>by simp [low]
  | k+1=>by
    have h1:=low_len n P k
    have h2:=List.length_filter_le (mini P) (cmb n k 0)
    have h3:=cmb_len n k 0
    rw [low_succ,List.length_append,Nat.succ_mul]
    omega

def sub (l:List S49) (s:List Int):List S49:=s.map (rd_T49 l)
def bad (l:List S49) (s:List Int):Bool:=(fst1 (sub l s)).2 != 0
theorem rdT_in {l:List S49} {i:Int} (h0:0≤i) (h1:i<(l.length:Int)):rd_T49 l i∈l:=by
  have:=rdT_mem l i.toNat (by omega)
  rw [← nat_of h0] at this
  exact this
theorem sub_in {l:List S49} {s:List Int} (hs:Chn (l.length:Int) none s):∀ t,t∈sub l s→t∈l:=fun t ht=>by
  obtain ⟨i,hi,rfl⟩:=List.mem_map.1 ht
  have:=hs.mem i hi
  exact rdT_in this.1 this.2.1
theorem sub_VS {l:List S49} (h:VS l) {s:List Int} (hs:Chn (l.length:Int) none s):VS (sub l s):=by
  refine ⟨?_,fun t ht=>h.tab t (sub_in hs t ht)⟩
  have h1:=hs.len (by omega)
  have h2:=h.len
  unfold sub
  rw [List.length_map]
  omega
theorem SS_sat {l:List S49} (h:VS l):SS l≠[]↔∃ a,sat l a=true:=by
  unfold SS sl
  constructor
  · intro hn
    obtain ⟨x,hx⟩:=List.exists_mem_of_ne_nil _ hn
    obtain ⟨a,ha,_⟩:=List.mem_map.1 hx
    exact ⟨a,(List.mem_filter.1 ha).2⟩
  · rintro ⟨a,ha⟩ hn
    have hb:sat l (asg (occ l) (row (occ l) a)||| 0)=true:=by
      rw [Nat.or_zero]
      refine List.all_eq_true.2 (fun t ht=>?_)
      have:=List.all_eq_true.1 ha t ht
      rw [← this]
      exact hs_agree _ _ (fun w hw=>asg_at h.occ.1 a ((h.occ.2 w).2 (List.mem_flatMap.2 ⟨t,ht,hw⟩)))
    have:(asg (occ l) (row (occ l) a)||| 0)∈((List.range (2 ^ (occ l).length)).map fun i=>asg (occ l) i||| 0).filter (sat l):=List.mem_filter.2 ⟨List.mem_map.2 ⟨_,List.mem_range.2 (row_lt _ _),rfl⟩,hb⟩
    rw [List.map_eq_nil_iff] at hn
    rw [hn] at this
    cases this
theorem fst1_err {l:List S49} (h:VS l):(fst1 l).2=0↔∃ a,sat l a=true:=by
  rw [← SS_sat h]
  unfold fst1
  rw [if_pos ((sysv_VS l).2 h)]
  cases SS l with
  | nil=>exact ⟨fun e=>absurd e (by decide),fun e=>absurd rfl e⟩
  | cons x xs=>exact ⟨fun _ e=>(by cases e),fun _=>rfl⟩
theorem sub_sat (l:List S49) (s:List Int) (a:Nat):sat (sub l s) a=true↔∀ i,i∈s→hs (rd_T49 l i).f0 (rd_T49 l i).f1 a=true:=by
  unfold sat sub
  rw [List.all_eq_true]
  exact ⟨fun h i hi=>h _ (List.mem_map.2 ⟨i,hi,rfl⟩),fun h t ht=>by obtain ⟨i,hi,rfl⟩:=List.mem_map.1 ht;exact h i hi⟩
theorem bad_iff {l:List S49} (h:VS l) {s:List Int} (hc:Chn (l.length:Int) none s):bad l s=false↔∃ a,∀ i,i∈s→hs (rd_T49 l i).f0 (rd_T49 l i).f1 a=true:=by
  unfold bad
  have e:((fst1 (sub l s)).2 != 0)=false↔(fst1 (sub l s)).2=0:=by simp
  rw [e,fst1_err (sub_VS h hc)]
  exact ⟨fun ⟨a,ha⟩=>⟨a,(sub_sat l s a).1 ha⟩,fun ⟨a,ha⟩=>⟨a,(sub_sat l s a).2 ha⟩⟩
theorem bad_mon {l:List S49} (h:VS l):Mon l.length (bad l):=fun s t hs ht hst hb=>by
  cases e:bad l t with
  | true=>rfl
  | false=>
    obtain ⟨a,ha⟩:=(bad_iff h ht).1 e
    have:=(bad_iff h hs).2 ⟨a,fun i hi=>ha i (hst i hi)⟩
    rw [this] at hb
    cases hb
def oth (n:Nat) (s:List Int):List Int:=flt (fun m=>!decide ((m:Int)∈s)) n 0
theorem oth_mem (n:Nat) (s:List Int) (x:Int):x∈oth n s↔0≤x∧x<(n:Int)∧x∉s:=by
  unfold oth
  rw [flt_mem]
  constructor
  · rintro ⟨m,_,h1,h2,rfl⟩;exact ⟨by omega,by omega,by simpa using h2⟩
  · rintro ⟨h0,h1,h2⟩;exact ⟨x.toNat,by omega,by omega,by rw [← nat_of h0];simpa using h2,nat_of h0⟩
theorem oth_chn (n:Nat) (s:List Int):Chn (n:Int) none (oth n s):=by
  have:=flt_chn (fun m=>!decide ((m:Int)∈s)) n 0 none (fun q hq=>by cases hq)
  rw [Nat.zero_add] at this
  exact this
def rep (l:List S49) (s:List Int):Bool:=!bad l (oth l.length s)
theorem rep_mon {l:List S49} (h:VS l):Mon l.length (rep l):=fun s t hs ht hst hb=>by
  unfold rep at hb ⊢
  cases e:bad l (oth l.length t) with
  | false=>rfl
  | true=>
    have:=bad_mon h _ _ (oth_chn _ t) (oth_chn _ s) (fun x hx=>by
      rw [oth_mem] at hx ⊢
      exact ⟨hx.1,hx.2.1,fun hs2=>hx.2.2 (hst x hs2)⟩) e
    rw [this] at hb
    cases hb
theorem Sm_sub {l:List S49} (h:Sm l) {s:List Int} (hs:Chn (l.length:Int) none s):Sm (sub l s):=fun t ht=>h t (sub_in hs t ht)
theorem chn_small {n:Nat} (hn:n≤1000) {s:List Int} (hs:Chn (n:Int) none s):s.length≤n:=by have:=hs.len (by omega);omega
theorem system_loop (l:List S49) (s:List Int) (hs:Chn (l.length:Int) none s) (hl:s.length≤1000):∀ (d i:Nat) (out:List S49),i+d=s.length→out.length=i→Ev (fun k=>conflict_system.l0 k l out s s.length i) (out++sub l (s.drop i))
  | 0,i,out,h,ho=>by
    rw [List.drop_eq_nil_of_le (by omega)]
    exact ev_eq (Ev.step (f:=fun _=>some out) (fun k=>by rw [conflict_system.l0,if_neg (by omega)]) (Ev.now _)) (by simp [sub])
  | d+1,i,out,h,ho=>by
    have hi:i<s.length:=by omega
    have hw:=wrap_succ i s.length hi (by omega)
    have hm:=hs.mem _ (rd_mem s i hi)
    have ih:=system_loop l s hs hl d (i+1) (out++[rd_T49 l (rd s i)]) (by omega) (by simp;omega)
    refine ev_eq (Ev.step (fun k=>by rw [conflict_system.l0,if_pos (by omega),if_pos (by omega),if_pos (by omega),if_pos hm.1,if_pos hm.2.1,if_pos (by omega),hw]) ih) ?_
    rw [rd_at s i hi,List.append_assoc]
    rfl
theorem system_ev (l:List S49) {s:List Int} (hs:Chn (l.length:Int) none s) (hl:s.length≤1000):Ev (fun k=>conflict_system.f k l s) (sub l s):=by
  have:=system_loop l s hs hl s.length 0 [] (by omega) rfl
  rw [List.drop_zero,List.nil_append] at this
  exact this
theorem solvable_ev {l:List S49} (h:Sm l) {s:List Int} (hs:Chn (l.length:Int) none s) (hl:s.length≤1000):Ev (fun k=>conflict_solvable.f k l s) (!bad l s):=by
  refine Ev.bind (system_ev l hs hl) (Ev.bind (dfirst_ev _ (Sm_sub h hs) (by unfold sub;rw [List.length_map];exact hl)) ?_)
  refine ev_eq (Ev.now _) ?_
  unfold bad
  cases e:(fst1 (sub l s)).2 == 0 <;> simp [bne,e]
theorem chn_erase {n:Int} {s:List Int} (hs:Chn n none s) (i:Nat):Chn n none (s.eraseIdx i):=hs.sub (List.eraseIdx_sublist _ _)
theorem rdL_at (l:List (List Int)) (i:Nat) (hi:i<l.length):l.drop i=rd_L1 l i :: l.drop (i+1):=getD_drop l i [] hi
theorem sets_in (n:Nat) (hn:n≤16) (L:List (List Int)) (s:List Int) (i:Nat) (r:List (List Int)):∀ (d j:Nat) (out:List (List Int)),j+d=n→s.length≤1000→out.length+d≤2000000→
    Ev (fun k=>conflict_sets.l0 k n (out++(List.range' j d).map fun m:Nat=>s++[(m:Int)]) L L.length (wrap64 ((i:Int)+1))) r→Ev (fun k=>conflict_sets.l1 k n out s j L L.length i) r
  | 0,j,out,h,hs,ho,H=>by
    rw [show List.range' j 0=[] from rfl,List.map_nil,List.append_nil] at H
    exact Ev.step (fun k=>by rw [conflict_sets.l1,if_neg (by omega)]) H
  | d+1,j,out,h,hs,ho,H=>by
    have hw:wrap64 ((j:Int)+1)=((j+1:Nat):Int):=by rw [w64_in _ (by omega)];omega
    refine Ev.step (fun k=>by rw [conflict_sets.l1,if_pos (by omega)]) (Ev.bind (f:=fun k t=>if t.length<17592186044416 then (if out.length<5864062014805 then conflict_sets.l1 k n (out++[t++[(j:Int)]]) s (wrap64 ((j:Int)+1)) L L.length i else none) else none) (show Ev (fun _=>slices_Clone_int_int.f s) s from ?_) (ev_pos (by omega) (ev_pos (by omega) ?_)))
    · refine ev_eq (ev_pos (by simp;omega) (Ev.now _)) (by simp)
    · rw [hw]
      refine sets_in n hn L s i r d (j+1) _ (by omega) hs (by simp;omega) ?_
      rw [List.range'_succ,List.map_cons] at H
      rw [List.append_assoc]
      exact H
theorem frm_lt {n:Nat} {s:List Int} (hs:Chn (n:Int) none s):frm 0 s≤n:=by
  unfold frm
  cases e:s.getLast? with
  | none=>exact Nat.zero_le _
  | some x=>have:=hs.mem x (List.mem_of_getLast? e);show x.toNat+1≤n;omega
theorem sets_loop (n:Nat) (hn:n≤16) (L:List (List Int)) (hL:∀ s,s∈L→Chn (n:Int) none s) (hl:L.length≤100000):∀ (d i:Nat) (out:List (List Int)),i+d=L.length→out.length≤16 * i→
    Ev (fun k=>conflict_sets.l0 k n out L L.length i) (out++(L.drop i).flatMap (ext n 0))
  | 0,i,out,h,ho=>by
    rw [List.drop_eq_nil_of_le (by omega)]
    exact ev_eq (Ev.step (f:=fun _=>some out) (fun k=>by rw [conflict_sets.l0,if_neg (by omega)]) (Ev.now _)) (by simp)
  | d+1,i,out,h,ho=>by
    have hi:i<L.length:=by omega
    have hw:=wrap_succ i L.length hi (by omega)
    have hs:=hL (rd_L1 L i) (by have:=rdL_at L i hi;have h2:=List.mem_of_mem_drop (l:=L) (i:=i) (a:=rd_L1 L i) (by rw [this];exact List.mem_cons_self);exact h2)
    have hsl:=chn_small (by omega) hs
    have hf:=frm_lt hs
    have ih:=sets_loop n hn L hL hl d (i+1) (out++ext n 0 (rd_L1 L i)) (by omega) (by unfold ext;rw [List.length_append,List.length_map,List.length_range'];omega)
    rw [rdL_at L i hi,List.flatMap_cons,← List.append_assoc]
    refine Ev.step (fun k=>by rw [conflict_sets.l0,if_pos (by omega),if_pos (by omega),if_pos (by omega)]) ?_
    have key:∀ m:Nat,m=frm 0 (rd_L1 L i)→Ev (fun k=>conflict_sets.l1 k n out (rd_L1 L i) m L L.length i) (out++ext n 0 (rd_L1 L i)++(L.drop (i+1)).flatMap (ext n 0)):=by
      intro m hm
      subst hm
      refine sets_in n hn L _ i _ (n - frm 0 (rd_L1 L i)) _ out (by omega) (by omega) (by omega) ?_
      rw [hw]
      exact ih
    generalize hg:rd_L1 L i=s at *
    refine ev_eq (s:=out++ext n 0 s++(L.drop (i+1)).flatMap (ext n 0)) ?_ rfl
    by_cases hp:(s.length:Int)>0
    · refine ev_pos hp ?_
      have hw1:wrap64 ((s.length:Int) - 1)=((s.length - 1:Nat):Int):=by rw [w64_in _ (by omega)];omega
      refine Ev.congr (fun k=>by rw [hw1,if_pos (by omega),if_pos (by omega)]) ?_
      have hlast:s.getLast?=some (rd s ((s.length - 1:Nat):Int)):=by
        rw [List.getLast?_eq_getElem?]
        exact rd_get s _ (by omega)
      have hfr:frm 0 s=(rd s ((s.length - 1:Nat):Int)).toNat+1:=by unfold frm;rw [hlast]
      have hmem:=hs.mem _ (List.mem_of_getLast? hlast)
      have hw2:wrap64 (rd s ((s.length - 1:Nat):Int)+1)=((frm 0 s:Nat):Int):=by rw [hfr,w64_in _ (by omega)];omega
      refine Ev.congr (fun k=>by rw [hw2]) (key _ rfl)
    · refine ev_neg hp ?_
      have hs0:s=[]:=List.eq_nil_of_length_eq_zero (by omega)
      exact key 0 (by rw [hs0];rfl)
theorem sets_ev (n:Nat) (hn:n≤16):∀ s:Nat,s≤1000→Ev (fun k=>conflict_sets.f k n s) (cmb n s 0)
  | 0,_=>by
    rw [cmb_zero]
    exact Ev.step (f:=fun _=>some [[]]) (fun k=>by rw [conflict_sets.f,if_pos (by omega)]) (Ev.now _)
  | s+1,hs=>by
    have ih:=sets_ev n hn s (by omega)
    have hw:wrap64 (((s+1:Nat):Int) - 1)=(s:Int):=by rw [w64_in _ (by omega)];omega
    have hlen:=cmb_len n s 0
    have hp:2 ^ n≤2 ^ 16:=Nat.pow_le_pow_right (by decide) hn
    have h16:(2:Nat) ^ 16=65536:=by decide
    refine Ev.step (fun k=>by rw [conflict_sets.f,if_neg (by omega),hw]) (Ev.bind ih ?_)
    have:=sets_loop n hn (cmb n s 0) (fun t ht=>by have:=((mem_cmb n s 0 t).1 ht).2.1;rw [Nat.zero_add] at this;exact this) (by omega) (cmb n s 0).length 0 [] (by omega) (by simp)
    rw [List.drop_zero,List.nil_append,cmb_ext n n s 0 (by omega)] at this
    exact this

theorem partif_loop (sm lg:List Int) (h1:sm.length≤1000) (h2:lg.length≤1000):∀ (d i:Nat),i+d=sm.length→∃ q:Int,Ev (fun k=>slices_IndexFunc_int_int_conflict_part_1.l0 k sm sm.length i lg) q∧decide (q≥0)=(sm.drop i).any fun x=>!decide (x∈lg)
  | 0,i,hd=>by
    rw [List.drop_eq_nil_of_le (by omega)]
    exact ⟨-1,Ev.step (f:=fun _=>some (-1)) (fun k=>by rw [slices_IndexFunc_int_int_conflict_part_1.l0,if_neg (by omega)]) (Ev.now _),rfl⟩
  | d+1,i,hd=>by
    have hi:i<sm.length:=by omega
    have hw:=wrap_succ i sm.length hi (by omega)
    obtain ⟨q,hq,hq2⟩:=partif_loop sm lg h1 h2 d (i+1) (by omega)
    have hc:Ev (fun k=>conflict_part_1_v1.f k (rd sm i) lg) (!decide (rd sm i∈lg)):=Ev.bind (contains_ev lg (by omega) _) (Ev.now _)
    rw [rd_at sm i hi,List.any_cons]
    by_cases e:(!decide (rd sm i∈lg))=true
    · rw [e] at hc ⊢
      exact ⟨i,Ev.step (fun k=>by rw [slices_IndexFunc_int_int_conflict_part_1.l0,if_pos (by omega),if_pos (by omega),if_pos (by omega)]) (Ev.bind hc (ev_pos rfl (Ev.now _))),by rw [Bool.true_or];exact decide_eq_true (by omega)⟩
    · rw [Bool.not_eq_true] at e
      rw [e] at hc ⊢
      exact ⟨q,Ev.step (fun k=>by rw [slices_IndexFunc_int_int_conflict_part_1.l0,if_pos (by omega),if_pos (by omega),if_pos (by omega),hw]) (Ev.bind hc (ev_neg Bool.false_ne_true hq)),by rw [Bool.false_or];exact hq2⟩
theorem part_ev (sm lg:List Int) (h1:sm.length≤1000) (h2:lg.length≤1000):Ev (fun k=>conflict_part.f k sm lg) (sm.all fun x=>decide (x∈lg)):=by
  obtain ⟨q,hq,hq2⟩:=partif_loop sm lg h1 h2 sm.length 0 (by omega)
  rw [List.drop_zero] at hq2
  refine Ev.bind (show Ev (fun k=>slices_ContainsFunc_int_int_conflict_part_1.f k sm lg) (decide (q≥0)) from Ev.bind hq (Ev.now _)) (ev_eq (Ev.now _) ?_)
  rw [hq2,List.not_any_eq_all_not]
  simp
theorem leastif_loop (out:List (List Int)) (s:List Int) (h1:out.length≤2000000) (h2:s.length≤1000) (h3:∀ o,o∈out→o.length≤1000):∀ (d i:Nat),i+d=out.length→∃ q:Int,Ev (fun k=>slices_IndexFunc_int_int_conflict_least_1.l0 k out out.length i s) q∧decide (q≥0)=(out.drop i).any fun o=>o.all fun x=>decide (x∈s)
  | 0,i,hd=>by
    rw [List.drop_eq_nil_of_le (by omega)]
    exact ⟨-1,Ev.step (f:=fun _=>some (-1)) (fun k=>by rw [slices_IndexFunc_int_int_conflict_least_1.l0,if_neg (by omega)]) (Ev.now _),rfl⟩
  | d+1,i,hd=>by
    have hi:i<out.length:=by omega
    have hw:=wrap_succ i out.length hi (by omega)
    obtain ⟨q,hq,hq2⟩:=leastif_loop out s h1 h2 h3 d (i+1) (by omega)
    have hm:rd_L1 out i∈out:=by have:=rdL_at out i hi;exact List.mem_of_mem_drop (l:=out) (i:=i) (by rw [this];exact List.mem_cons_self)
    have hc:Ev (fun k=>conflict_least_1_v1.f k (rd_L1 out i) s) ((rd_L1 out i).all fun x=>decide (x∈s)):=Ev.bind (part_ev _ s (h3 _ hm) h2) (Ev.now _)
    rw [rdL_at out i hi,List.any_cons]
    by_cases e:((rd_L1 out i).all fun x=>decide (x∈s))=true
    · rw [e] at hc ⊢
      exact ⟨i,Ev.step (fun k=>by rw [slices_IndexFunc_int_int_conflict_least_1.l0,if_pos (by omega),if_pos (by omega),if_pos (by omega)]) (Ev.bind hc (ev_pos rfl (Ev.now _))),by rw [Bool.true_or];exact decide_eq_true (by omega)⟩
    · rw [Bool.not_eq_true] at e
      rw [e] at hc ⊢
      exact ⟨q,Ev.step (fun k=>by rw [slices_IndexFunc_int_int_conflict_least_1.l0,if_pos (by omega),if_pos (by omega),if_pos (by omega),hw]) (Ev.bind hc (ev_neg Bool.false_ne_true hq)),by rw [Bool.false_or];exact hq2⟩
theorem leasthas_ev (out:List (List Int)) (s:List Int) (h1:out.length≤2000000) (h2:s.length≤1000) (h3:∀ o,o∈out→o.length≤1000):Ev (fun k=>slices_ContainsFunc_int_int_conflict_least_1.f k out s) (out.any fun o=>o.all fun x=>decide (x∈s)):=by
  obtain ⟨q,hq,hq2⟩:=leastif_loop out s h1 h2 h3 out.length 0 (by omega)
  rw [List.drop_zero] at hq2
  rw [← hq2]
  exact Ev.bind hq (Ev.now _)
theorem fold_low {n:Nat} {P:List Int→Bool} (hP:Mon n P) {k:Nat}:∀ (rest pre:List (List Int)),cmb n k 0=pre++rest→rest.foldl (step P) (low n P k++pre.filter (mini P))=low n P (k+1)
  | [],pre,h=>by rw [List.foldl_nil,low_succ,h,List.append_nil]
  | s :: rest,pre,h=>by
    rw [List.foldl_cons,least_step hP h]
    exact fold_low hP rest (pre++[s]) (by rw [h,List.append_assoc];rfl)
theorem fold_low' {n:Nat} {P:List Int→Bool} (hP:Mon n P) (k:Nat):(cmb n k 0).foldl (step P) (low n P k)=low n P (k+1):=by
  have:=fold_low hP (cmb n k 0) [] rfl
  rwa [List.filter_nil,List.append_nil] at this
theorem step_len (P:List Int→Bool) (out:List (List Int)) (s:List Int):(step P out s).length≤out.length+1:=by
  unfold step
  split
  · omega
  · split <;> simp
theorem step_mem {P:List Int→Bool} {out:List (List Int)} {s o:List Int} (h:o∈step P out s):o∈out∨o=s:=by
  unfold step at h
  split at h
  · exact .inl h
  · split at h
    · rcases List.mem_append.1 h with h|h
      · exact .inl h
      · exact .inr (List.mem_singleton.1 h)
    · exact .inl h
theorem cmb_in {n k:Nat} {s:List Int} (h:s∈cmb n k 0):Chn (n:Int) none s:=by
  have:=((mem_cmb n k 0 s).1 h).2.1
  rwa [Nat.zero_add] at this
theorem two16 {n:Nat} (hn:n≤16):2 ^ n≤65536:=Nat.le_trans (Nat.pow_le_pow_right (by decide) hn) (by decide)
theorem low_small {n:Nat} (hn:n≤16) (P:List Int→Bool) {k:Nat} (hk:k≤n+1):(low n P k).length≤1114112:=by
  have h1:=low_len n P k
  have h2:=two16 hn
  have h3:k * 2 ^ n≤17 * 65536:=Nat.mul_le_mul (by omega) h2
  omega
theorem low_chn {n:Nat} {P:List Int→Bool} {k:Nat} {s:List Int} (h:s∈low n P k):Chn (n:Int) none s:=((mem_low n P k s).1 h).2.1
theorem corein_loop {l:List S49} (hS:Sm l) (hl:l.length≤16) (n1 j:Int) (L:List (List Int)) (hL:∀ s,s∈L→Chn (l.length:Int) none s) (hLl:L.length≤100000) (r:List (List Int)):∀ (d i:Nat) (out:List (List Int)),i+d=L.length→out.length+d≤1500000→(∀ o,o∈out→Chn (l.length:Int) none o)→
    Ev (fun k=>conflict_least_conflict_Cores_1.l0 k l.length ((L.drop i).foldl (step (bad l)) out) n1 (wrap64 (j+1)) l) r→Ev (fun k=>conflict_least_conflict_Cores_1.l1 k l.length out n1 j L L.length i l) r
  | 0,i,out,h,ho,hc,H=>by
    rw [List.drop_eq_nil_of_le (by omega),List.foldl_nil] at H
    exact Ev.step (fun k=>by rw [conflict_least_conflict_Cores_1.l1,if_neg (by omega)]) H
  | d+1,i,out,h,ho,hc,H=>by
    have hi:i<L.length:=by omega
    have hw:=wrap_succ i L.length hi (by omega)
    have hm:rd_L1 L i∈L:=by have:=rdL_at L i hi;exact List.mem_of_mem_drop (l:=L) (i:=i) (by rw [this];exact List.mem_cons_self)
    have hs:=hL _ hm
    have hsl:=chn_small (by omega) hs
    rw [rdL_at L i hi,List.foldl_cons] at H
    have ih:=corein_loop hS hl n1 j L hL hLl r d (i+1) (step (bad l) out (rd_L1 L i)) (by omega) (by have:=step_len (bad l) out (rd_L1 L i);omega) (fun o ho=>by rcases step_mem ho with h|rfl;exact hc o h;exact hs) H
    refine Ev.step (fun k=>by rw [conflict_least_conflict_Cores_1.l1,if_pos (by omega),if_pos (by omega),if_pos (by omega),hw]) (Ev.bind (leasthas_ev out _ (by omega) (by omega) (fun o ho=>Nat.le_trans (chn_small (by omega) (hc o ho)) (by omega))) ?_)
    unfold step at ih
    by_cases e:(out.any fun o=>o.all fun x=>decide (x∈rd_L1 L i))=true
    · rw [if_pos e] at ih
      exact ev_pos e ih
    · rw [if_neg e] at ih
      refine ev_neg e (Ev.bind (show Ev (fun k=>conflict_Cores_1_v1.f k (rd_L1 L i) l) (bad l (rd_L1 L i)) from Ev.bind (solvable_ev hS hs (by omega)) (ev_eq (Ev.now _) (by simp))) ?_)
      by_cases e2:bad l (rd_L1 L i)=true
      · rw [if_pos e2] at ih
        exact ev_pos e2 (ev_pos (by omega) ih)
      · rw [if_neg e2] at ih
        exact ev_neg e2 ih
theorem core_loop {l:List S49} (h:VS l) (hl:l.length≤16):∀ (d j:Nat),j+d=l.length+1→Ev (fun k=>conflict_least_conflict_Cores_1.l0 k l.length (low l.length (bad l) j) ((l.length+1:Nat):Int) j l) (lst l.length (bad l))
  | 0,j,hj=>by
    have:j=l.length+1:=by omega
    subst this
    exact Ev.step (f:=fun _=>some (low l.length (bad l) (l.length+1))) (fun k=>by rw [conflict_least_conflict_Cores_1.l0,if_neg (by omega)]) (Ev.now _)
  | d+1,j,hj=>by
    have ih:=core_loop h hl d (j+1) (by omega)
    have hw:wrap64 ((j:Int)+1)=((j+1:Nat):Int):=by rw [w64_in _ (by omega)];omega
    have h2:=two16 hl
    have h3:=cmb_len l.length j 0
    refine Ev.step (fun k=>by rw [conflict_least_conflict_Cores_1.l0,if_pos (by omega)]) (Ev.bind (sets_ev l.length hl j (by omega)) ?_)
    refine corein_loop (vs_sm h) hl _ _ _ (fun s hs=>cmb_in hs) (by omega) _ (cmb l.length j 0).length 0 _ (by omega) (by have:=low_small hl (bad l) (k:=j) (by omega);omega) (fun o ho=>low_chn ho) ?_
    rw [List.drop_zero,fold_low' (bad_mon h),hw]
    exact ih
def cvl (l:List S49):Int:=if (l.length:Int)>12 then 3 else fstErr l
theorem cvl_VS {l:List S49} (h:cvl l=0):VS l∧l.length≤12:=by
  unfold cvl at h
  by_cases e:(l.length:Int)>12
  · rw [if_pos e] at h;cases h
  · rw [if_neg e] at h
    exact ⟨⟨by omega,(fstErr_VT l).1 h⟩,by omega⟩
theorem cvalid_loop (l:List S49) (hs:Sm l) (hl:l.length≤1000):∀ (d i:Nat),i+d=l.length→Ev (fun k=>conflict_valid.l0 k l l.length i) (fstErr (l.drop i))
  | 0,i,h=>by
    rw [List.drop_eq_nil_of_le (by omega)]
    exact Ev.step (f:=fun _=>some 0) (fun k=>by rw [conflict_valid.l0,if_neg (by omega)]) (Ev.now _)
  | d+1,i,h=>by
    have hi:i<l.length:=by omega
    have hw:=wrap_succ i l.length hi (by omega)
    have hm:=hs _ (rdT_mem l i hi)
    rw [rdT_at l i hi,fstErr]
    refine Ev.step (fun k=>by rw [conflict_valid.l0,if_pos (by omega),if_pos (by omega),if_pos (by omega),hw]) (Ev.bind (valid_ev _ _ (by omega) (by omega)) ?_)
    exact ev_ite (fun _=>cvalid_loop l hs hl d (i+1) (by omega)) (fun _=>Ev.now _)
theorem cvalid_ev (l:List S49) (hs:Sm l) (hl:l.length≤1000):Ev (fun k=>conflict_valid.f k l) (cvl l):=by
  unfold cvl conflict_valid.f
  exact ev_ite (fun _=>Ev.now _) (fun _=>by simpa using cvalid_loop l hs hl l.length 0 (by omega))
def crs (l:List S49):List (List Int)×Int:=if cvl l=0 then (lst l.length (bad l),0) else ([],cvl l)
theorem cores_ev (l:List S49) (hs:Sm l) (hl:l.length≤1000):Ev (fun k=>conflict_Cores.f k l) (crs l):=by
  refine Ev.bind (cvalid_ev l hs hl) (ev_ite (fun e=>?_) (fun _=>Ev.now _))
  obtain ⟨h,h12⟩:=cvl_VS e
  have hw:wrap64 ((l.length:Int)+1)=((l.length+1:Nat):Int):=by rw [w64_in _ (by omega)];omega
  refine Ev.bind (Ev.congr (fun k=>?_) (core_loop h (by omega) (l.length+1) 0 (by omega))) (Ev.now _)
  unfold conflict_least_conflict_Cores_1.f
  rw [hw]
  rfl
theorem others_loop (n:Nat) (s:List Int) (hs:s.length≤1000) (hn:n≤1000):∀ (d i:Nat) (out:List Int),i+d=n→out.length≤i→Ev (fun k=>conflict_others.l0 k s out n i) (out++flt (fun m=>!decide ((m:Int)∈s)) d i)
  | 0,i,out,h,ho=>ev_eq (Ev.step (f:=fun _=>some out) (fun k=>by rw [conflict_others.l0,if_neg (by omega)]) (Ev.now _)) (by simp [flt])
  | d+1,i,out,h,ho=>by
    have hw:=wrap_succ i n (by omega) (by omega)
    refine Ev.step (fun k=>by rw [conflict_others.l0,if_pos (by omega),hw]) (Ev.bind (contains_ev s (by omega) _) ?_)
    rw [flt]
    by_cases e:(i:Int)∈s
    · rw [if_neg (by simpa using e)]
      exact ev_pos (decide_eq_true e) (others_loop n s hs hn d (i+1) out (by omega) (by omega))
    · rw [if_pos (by simpa using e)]
      have ih:=others_loop n s hs hn d (i+1) (out++[(i:Int)]) (by omega) (by simp;omega)
      rw [List.append_assoc] at ih
      exact ev_neg (by simpa using e) (ev_pos (by omega) ih)
theorem others_ev (n:Nat) (s:List Int) (hs:s.length≤1000) (hn:n≤1000):Ev (fun k=>conflict_others.f k n s) (oth n s):=by
  have:=others_loop n s hs hn n 0 [] (by omega) (by simp)
  rwa [List.nil_append] at this
theorem repP_ev {l:List S49} (hS:Sm l) (hl:l.length≤16) {s:List Int} (hs:Chn (l.length:Int) none s):Ev (fun k=>conflict_Repairs_1_v1.f k s l) (rep l s):=by
  have h1:=chn_small (by omega) hs
  have h2:=chn_small (n:=l.length) (by omega) (oth_chn l.length s)
  exact Ev.bind (others_ev l.length s (by omega) (by omega)) (Ev.bind (solvable_ev hS (oth_chn _ s) (by omega)) (Ev.now _))
theorem repin_loop {l:List S49} (hS:Sm l) (hl:l.length≤16) (n1 j:Int) (L:List (List Int)) (hL:∀ s,s∈L→Chn (l.length:Int) none s) (hLl:L.length≤100000) (r:List (List Int)):∀ (d i:Nat) (out:List (List Int)),i+d=L.length→out.length+d≤1500000→(∀ o,o∈out→Chn (l.length:Int) none o)→
    Ev (fun k=>conflict_least_conflict_Repairs_1.l0 k l.length ((L.drop i).foldl (step (rep l)) out) n1 (wrap64 (j+1)) l) r→Ev (fun k=>conflict_least_conflict_Repairs_1.l1 k l.length out n1 j L L.length i l) r
  | 0,i,out,h,ho,hc,H=>by
    rw [List.drop_eq_nil_of_le (by omega),List.foldl_nil] at H
    exact Ev.step (fun k=>by rw [conflict_least_conflict_Repairs_1.l1,if_neg (by omega)]) H
  | d+1,i,out,h,ho,hc,H=>by
    have hi:i<L.length:=by omega
    have hw:=wrap_succ i L.length hi (by omega)
    have hm:rd_L1 L i∈L:=by have:=rdL_at L i hi;exact List.mem_of_mem_drop (l:=L) (i:=i) (by rw [this];exact List.mem_cons_self)
    have hs:=hL _ hm
    have hsl:=chn_small (by omega) hs
    rw [rdL_at L i hi,List.foldl_cons] at H
    have ih:=repin_loop hS hl n1 j L hL hLl r d (i+1) (step (rep l) out (rd_L1 L i)) (by omega) (by have:=step_len (rep l) out (rd_L1 L i);omega) (fun o ho=>by rcases step_mem ho with h|rfl;exact hc o h;exact hs) H
    refine Ev.step (fun k=>by rw [conflict_least_conflict_Repairs_1.l1,if_pos (by omega),if_pos (by omega),if_pos (by omega),hw]) (Ev.bind (leasthas_ev out _ (by omega) (by omega) (fun o ho=>Nat.le_trans (chn_small (by omega) (hc o ho)) (by omega))) ?_)
    unfold step at ih
    by_cases e:(out.any fun o=>o.all fun x=>decide (x∈rd_L1 L i))=true
    · rw [if_pos e] at ih
      exact ev_pos e ih
    · rw [if_neg e] at ih
      refine ev_neg e (Ev.bind (repP_ev hS hl hs) ?_)
      by_cases e2:rep l (rd_L1 L i)=true
      · rw [if_pos e2] at ih
        exact ev_pos e2 (ev_pos (by omega) ih)
      · rw [if_neg e2] at ih
        exact ev_neg e2 ih
theorem rep_loop {l:List S49} (h:VS l) (hl:l.length≤16):∀ (d j:Nat),j+d=l.length+1→Ev (fun k=>conflict_least_conflict_Repairs_1.l0 k l.length (low l.length (rep l) j) ((l.length+1:Nat):Int) j l) (lst l.length (rep l))
  | 0,j,hj=>by
    have:j=l.length+1:=by omega
    subst this
    exact Ev.step (f:=fun _=>some (low l.length (rep l) (l.length+1))) (fun k=>by rw [conflict_least_conflict_Repairs_1.l0,if_neg (by omega)]) (Ev.now _)
  | d+1,j,hj=>by
    have ih:=rep_loop h hl d (j+1) (by omega)
    have hw:wrap64 ((j:Int)+1)=((j+1:Nat):Int):=by rw [w64_in _ (by omega)];omega
    have h2:=two16 hl
    have h3:=cmb_len l.length j 0
    refine Ev.step (fun k=>by rw [conflict_least_conflict_Repairs_1.l0,if_pos (by omega)]) (Ev.bind (sets_ev l.length hl j (by omega)) ?_)
    refine repin_loop (vs_sm h) hl _ _ _ (fun s hs=>cmb_in hs) (by omega) _ (cmb l.length j 0).length 0 _ (by omega) (by have:=low_small hl (rep l) (k:=j) (by omega);omega) (fun o ho=>low_chn ho) ?_
    rw [List.drop_zero,fold_low' (rep_mon h),hw]
    exact ih
def rps (l:List S49):List (List Int)×Int:=if cvl l=0 then (lst l.length (rep l),0) else ([],cvl l)
theorem repairs_ev (l:List S49) (hs:Sm l) (hl:l.length≤1000):Ev (fun k=>conflict_Repairs.f k l) (rps l):=by
  refine Ev.bind (cvalid_ev l hs hl) (ev_ite (fun e=>?_) (fun _=>Ev.now _))
  obtain ⟨h,h12⟩:=cvl_VS e
  have hw:wrap64 ((l.length:Int)+1)=((l.length+1:Nat):Int):=by rw [w64_in _ (by omega)];omega
  refine Ev.bind (Ev.congr (fun k=>?_) (rep_loop h (by omega) (l.length+1) 0 (by omega))) (Ev.now _)
  unfold conflict_least_conflict_Repairs_1.f
  rw [hw]
  rfl

theorem rdL_mem (l:List (List Int)) (i:Nat) (hi:i<l.length):rd_L1 l i∈l:=by
  have:=rdL_at l i hi
  exact List.mem_of_mem_drop (l:=l) (i:=i) (by rw [this];exact List.mem_cons_self)
theorem concat_app (L:List (List Int)) (hl:L.length≤2000000) (hs:∀ s,s∈L→s.length≤1000):∀ (d i:Nat) (out:List Int),i+d=L.length→out.length≤1000 * i→Ev (fun k=>slices_Concat_int_int.l1 k out L L.length i) (out++(L.drop i).flatten)
  | 0,i,out,h,ho=>by
    rw [List.drop_eq_nil_of_le (by omega)]
    exact ev_eq (Ev.step (f:=fun _=>some out) (fun k=>by rw [slices_Concat_int_int.l1,if_neg (by omega)]) (Ev.now _)) (by simp)
  | d+1,i,out,h,ho=>by
    have hi:i<L.length:=by omega
    have hw:=wrap_succ i L.length hi (by omega)
    have hm:=hs _ (rdL_mem L i hi)
    have ih:=concat_app L hl hs d (i+1) (out++rd_L1 L i) (by omega) (by simp;omega)
    rw [rdL_at L i hi,List.flatten_cons,← List.append_assoc]
    exact Ev.step (fun k=>by rw [slices_Concat_int_int.l1,if_pos (by omega),if_pos (by omega),if_pos (by omega),if_pos (by omega),hw]) ih
theorem concat_loop (L:List (List Int)) (hl:L.length≤2000000) (hs:∀ s,s∈L→s.length≤1000):∀ (d i n:Nat),i+d=L.length→n≤1000 * i→Ev (fun k=>slices_Concat_int_int.l0 k L n L L.length i) L.flatten
  | 0,i,n,h,hn=>by
    refine Ev.step (fun k=>by rw [slices_Concat_int_int.l0,if_neg (by omega)]) (Ev.bind (show Ev (fun _=>slices_Grow_int_int.f [] n) [] from ev_pos (by omega) (ev_pos (by simp;omega) (Ev.now _))) ?_)
    have:=concat_app L hl hs L.length 0 [] (by omega) (by simp)
    rw [List.drop_zero,List.nil_append] at this
    exact this
  | d+1,i,n,h,hn=>by
    have hi:i<L.length:=by omega
    have hw:=wrap_succ i L.length hi (by omega)
    have hm:=hs _ (rdL_mem L i hi)
    have hw2:wrap64 ((n:Int)+((rd_L1 L i).length:Int))=((n+(rd_L1 L i).length:Nat):Int):=by rw [w64_in _ (by omega)];omega
    exact Ev.step (fun k=>by rw [slices_Concat_int_int.l0,if_pos (by omega),if_pos (by omega),if_pos (by omega),hw2,if_neg (by omega),hw]) (concat_loop L hl hs d (i+1) (n+(rd_L1 L i).length) (by omega) (by omega))
theorem concat_ev (L:List (List Int)) (hl:L.length≤2000000) (hs:∀ s,s∈L→s.length≤1000):Ev (fun k=>slices_Concat_int_int.f k L) L.flatten:=concat_loop L hl hs L.length 0 0 (by omega) (by omega)
theorem flat_small {L:List (List Int)} (hs:∀ s,s∈L→s.length≤1000):L.flatten.length≤1000 * L.length:=by
  induction L with
  | nil=>simp
  | cons s L ih=>
    have h1:=hs s List.mem_cons_self
    have h2:=ih (fun t ht=>hs t (List.mem_cons_of_mem _ ht))
    rw [List.flatten_cons,List.length_append,List.length_cons]
    omega
theorem lst_small {n:Nat} (hn:n≤16) (P:List Int→Bool):(lst n P).length≤1114112∧∀ s,s∈lst n P→s.length≤1000:=
  ⟨low_small hn P (Nat.le_refl _),fun s hs=>Nat.le_trans (chn_small (by omega) (low_chn hs)) (by omega)⟩
def uni (L:List (List Int)):List Int:=Lib.compact (L.flatten.mergeSort fun x y=>decide (x≤y))
theorem uni_spec {n:Nat} {L:List (List Int)} (h:∀ s,s∈L→Chn (n:Int) none s):Chn (n:Int) none (uni L)∧∀ x,x∈uni L↔∃ s,s∈L∧x∈s:=by
  obtain ⟨h1,h2⟩:=sorted_compact (hi:=n) L.flatten (fun x hx=>by
    obtain ⟨s,hs,hx⟩:=List.mem_flatten.1 hx
    have:=(h s hs).mem x hx
    exact ⟨this.1,this.2.1⟩)
  exact ⟨h1,fun x=>by rw [show uni L=Lib.compact (L.flatten.mergeSort fun x y=>decide (x≤y)) from rfl,h2,List.mem_flatten]⟩
def blm (l:List S49):List Int×Int:=if cvl l=0 then (uni (lst l.length (bad l)),0) else ([],cvl l)
theorem blame_ev (l:List S49) (hs:Sm l) (hl:l.length≤1000):Ev (fun k=>conflict_Blame.f k l) (blm l):=by
  refine Ev.bind (cores_ev l hs hl) ?_
  unfold crs blm
  by_cases e:cvl l=0
  · rw [if_pos e,if_pos e]
    obtain ⟨h,h12⟩:=cvl_VS e
    obtain ⟨h1,h2⟩:=lst_small (n:=l.length) (by omega) (bad l)
    have h3:=flat_small h2
    exact ev_pos rfl (Ev.bind (concat_ev (lst l.length (bad l)) (by omega) h2) (Ev.bind (show Ev (fun _=>slices_Sort_int_int.f (lst l.length (bad l)).flatten) _ from ev_pos (by omega) (Ev.now _)) (Ev.bind (show Ev (fun _=>slices_Compact_int_int.f ((lst l.length (bad l)).flatten.mergeSort fun x y=>decide (x≤y))) _ from Ev.now _) (Ev.now _))))
  · rw [if_neg e,if_neg e]
    exact ev_neg e (Ev.now _)
def ok0 (z:Int):Bool:=z == 0
theorem ok0_iff (z:Int):ok0 z=true↔z=0:=by unfold ok0;exact beq_iff_eq
theorem ascn_loop (n:Nat) (s:List Int) (hl:s.length≤1000):∀ (d i:Nat),i+d=s.length→Ev (fun k=>conflict_ascending.l0 k s n s s.length i) (ok0 (chk n (prv s i) (s.drop i)))
  | 0,i,h=>by
    rw [List.drop_eq_nil_of_le (by omega)]
    refine Ev.step (f:=fun _=>some true) (fun k=>by rw [conflict_ascending.l0,if_neg (by omega)]) ?_
    cases prv s i <;> exact Ev.now _
  | d+1,i,h=>by
    have hi:i<s.length:=by omega
    have hw:=wrap_succ i s.length hi (by omega)
    have ih:=ascn_loop n s hl d (i+1) (by omega)
    rw [prv_succ] at ih
    rw [rd_at s i hi]
    have hj:rd s i<0∨(n:Int)≤rd s i→∀ p,ok0 (chk n p (rd s i :: s.drop (i+1)))=false:=fun h p=>by
      cases p <;> simp only [chk] <;> rw [if_pos h] <;> rfl
    by_cases h0:rd s i<0
    · rw [hj (.inl h0)]
      exact Ev.step (f:=fun _=>some false) (fun k=>by rw [conflict_ascending.l0,if_pos (by omega),if_pos (by omega),if_pos (by omega),if_pos h0]) (Ev.now _)
    · by_cases h1:rd s i≥(n:Int)
      · rw [hj (.inr h1)]
        exact Ev.step (f:=fun _=>some false) (fun k=>by rw [conflict_ascending.l0,if_pos (by omega),if_pos (by omega),if_pos (by omega),if_neg h0,if_pos h1]) (Ev.now _)
      · by_cases e:i=0
        · have ep:prv s i=none:=by unfold prv;rw [if_pos e]
          rw [ep]
          simp only [chk]
          rw [if_neg (by omega)]
          exact Ev.step (fun k=>by rw [conflict_ascending.l0,if_pos (by omega),if_pos (by omega),if_pos (by omega),if_neg h0,if_neg h1,if_neg (by omega),hw]) ih
        · have ep:prv s i=some (rd s ((i:Int) - 1)):=by unfold prv;rw [if_neg e]
          rw [ep]
          simp only [chk]
          rw [if_neg (by omega)]
          by_cases h2:rd s i≤rd s ((i:Int) - 1)
          · rw [if_pos h2]
            exact Ev.step (f:=fun _=>some false) (fun k=>by rw [conflict_ascending.l0,if_pos (by omega),if_pos (by omega),if_pos (by omega),if_neg h0,if_neg h1,if_pos (by omega),w64_in ((i:Int) - 1) (by omega),if_pos (by omega),if_pos (by omega),if_pos (by omega)]) (Ev.now _)
          · rw [if_neg h2]
            exact Ev.step (fun k=>by rw [conflict_ascending.l0,if_pos (by omega),if_pos (by omega),if_pos (by omega),if_neg h0,if_neg h1,if_pos (by omega),w64_in ((i:Int) - 1) (by omega),if_pos (by omega),if_pos (by omega),if_neg (by omega),hw]) ih
theorem ascn_ev (n:Nat) (s:List Int) (hl:s.length≤1000):Ev (fun k=>conflict_ascending.f k s n) (ok0 (chk n none s)):=by
  have:=ascn_loop n s hl s.length 0 (by omega)
  rw [List.drop_zero] at this
  exact this
def er (out:List Int) (t:Int):List Int:=out.eraseIdx (out.idxOf t)
def shr (P:List Int→Bool):List Int→List Int→List Int
  | out,[]=>out
  | out,t :: ts=>shr P (if P (er out t)=true then er out t else out) ts
theorem idx_loop (l:List Int) (hl:l.length≤1000) (x:Int):∀ (d i:Nat),i+d=l.length→x∈l.drop i→Ev (fun k=>slices_Index_int_int.l0 k l x l.length i) ((i+(l.drop i).idxOf x:Nat):Int)
  | 0,i,h,hx=>by rw [List.drop_eq_nil_of_le (by omega)] at hx;cases hx
  | d+1,i,h,hx=>by
    have hi:i<l.length:=by omega
    have hw:=wrap_succ i l.length hi (by omega)
    rw [rd_at l i hi] at hx ⊢
    by_cases e:x=rd l i
    · rw [e,List.idxOf_cons_self,Nat.add_zero]
      exact Ev.step (f:=fun _=>some (i:Int)) (fun k=>by rw [slices_Index_int_int.l0,if_pos (by omega),if_pos (by omega),if_pos (by omega),if_pos rfl]) (Ev.now _)
    · have ih:=idx_loop l hl x d (i+1) (by omega) (by rcases List.mem_cons.1 hx with h|h;exact absurd h e;exact h)
      rw [List.idxOf_cons,show (rd l i == x)=false by simpa using fun h=>e h.symm,cond_false,show i+((l.drop (i+1)).idxOf x+1)=i+1+(l.drop (i+1)).idxOf x by omega]
      exact Ev.step (fun k=>by rw [slices_Index_int_int.l0,if_pos (by omega),if_pos (by omega),if_pos (by omega),if_neg e,hw]) ih
theorem idx_ev (l:List Int) (hl:l.length≤1000) {x:Int} (hx:x∈l):Ev (fun k=>slices_Index_int_int.f k l x) ((l.idxOf x:Nat):Int):=by
  have:=idx_loop l hl x l.length 0 (by omega) hx
  rw [List.drop_zero,Nat.zero_add] at this
  exact this
theorem er_mem {n:Int} {out:List Int} (h:Chn n none out) (t x:Int):x∈er out t↔x∈out∧x≠t:=by
  unfold er
  have e:out.erase t=out.eraseIdx (out.idxOf t):=by first|exact List.erase_eq_eraseIdx_of_idxOf _ _ _ rfl|exact List.erase_eq_eraseIdx_of_idxOf rfl
  rw [← e,h.nodup.mem_erase_iff]
  exact ⟨fun h=>⟨h.2,h.1⟩,fun h=>⟨h.2,h.1⟩⟩
theorem er_chn {n:Int} {out:List Int} (h:Chn n none out) (t:Int):Chn n none (er out t):=chn_erase h _
theorem shrink_loop {l:List S49} (hS:Sm l) (hl:l.length≤16) (ts:List Int) (hts:Chn (l.length:Int) none ts):∀ (d i:Nat) (out:List Int),i+d=ts.length→Chn (l.length:Int) none out→(∀ t,t∈ts.drop i→t∈out)→Ev (fun k=>conflict_Shrink.l0 k l out ts ts.length i) (shr (bad l) out (ts.drop i),0)
  | 0,i,out,h,ho,hm=>by
    rw [List.drop_eq_nil_of_le (by omega)]
    exact Ev.step (f:=fun _=>some (out,0)) (fun k=>by rw [conflict_Shrink.l0,if_neg (by omega)]) (Ev.now _)
  | d+1,i,out,h,ho,hm=>by
    have hi:i<ts.length:=by omega
    have htl:=chn_small (by omega) hts
    have hol:=chn_small (by omega) ho
    have hw:=wrap_succ i ts.length hi (by omega)
    rw [rd_at ts i hi] at hm ⊢
    have hx:=hm (rd ts i) List.mem_cons_self
    have hlt:=List.idxOf_lt_length_of_mem hx
    have hw2:wrap64 (((out.idxOf (rd ts i):Nat):Int)+1)=((out.idxOf (rd ts i)+1:Nat):Int):=by rw [w64_in _ (by omega)];omega
    have hne:∀ t,t∈ts.drop (i+1)→t≠rd ts i:=fun t ht e=>by
      have hd:Chn (l.length:Int) none (ts.drop i):=hts.sub (List.drop_sublist i ts)
      rw [rd_at ts i hi] at hd
      have:=(hd.2.2.2.mem t ht).2.2 _ rfl
      omega
    refine Ev.step (fun k=>by rw [conflict_Shrink.l0,if_pos (by omega),if_pos (by omega),if_pos (by omega),hw]) (Ev.bind (idx_ev out (by omega) hx) (Ev.bind (show Ev (fun _=>slices_Clone_int_int.f out) out from ev_eq (ev_pos (by simp;omega) (Ev.now _)) (by simp)) ?_))
    refine Ev.congr (fun k=>by rw [hw2]) (Ev.bind (show Ev (fun _=>slices_Delete_int_int.f out ((out.idxOf (rd ts i):Nat):Int) ((out.idxOf (rd ts i)+1:Nat):Int)) (er out (rd ts i)) from ev_pos (by omega) (ev_pos (by omega) (ev_pos (by omega) (ev_eq (Ev.now _) ?_)))) (Ev.bind (solvable_ev hS (er_chn ho (rd ts i)) (by have:=chn_small (by omega) (er_chn ho (rd ts i));omega)) ?_))
    · rw [Int.toNat_natCast,Int.toNat_natCast]
      unfold er
      rw [List.eraseIdx_eq_take_drop_succ]
    · rw [shr]
      by_cases e:bad l (er out (rd ts i))=true
      · rw [if_pos e]
        exact ev_neg (by rw [e];simp) (shrink_loop hS hl ts hts d (i+1) _ (by omega) (er_chn ho _) (fun t ht=>(er_mem ho _ _).2 ⟨hm t (List.mem_cons_of_mem _ ht),hne t ht⟩))
      · rw [if_neg e]
        exact ev_pos (by rw [Bool.not_eq_true] at e;rw [e];rfl) (shrink_loop hS hl ts hts d (i+1) _ (by omega) ho (fun t ht=>hm t (List.mem_cons_of_mem _ ht)))
def shk (l:List S49) (ts:List Int):List Int×Int:=if cvl l=0 then (if chk l.length none ts=0 then (if bad l ts=true then (shr (bad l) ts ts,0) else ([],11)) else ([],1)) else ([],cvl l)
theorem dshrink_ev (l:List S49) (hs:Sm l) (hl:l.length≤1000) (ts:List Int) (ht:ts.length≤1000):Ev (fun k=>conflict_Shrink.f k l ts) (shk l ts):=by
  refine Ev.bind (cvalid_ev l hs hl) ?_
  unfold shk
  refine ev_ite (fun e=>?_) (fun _=>Ev.now _)
  obtain ⟨h,h12⟩:=cvl_VS e
  refine Ev.bind (ascn_ev _ ts ht) ?_
  by_cases c:chk l.length none ts=0
  · rw [if_pos c]
    have hc:=(chk_Chn _ _ _).1 c
    refine ev_pos ((ok0_iff _).2 c) (Ev.bind (solvable_ev hs hc ht) ?_)
    by_cases b:bad l ts=true
    · rw [if_pos b]
      refine ev_neg (by rw [b];simp) (Ev.bind (show Ev (fun _=>slices_Clone_int_int.f ts) ts from ev_eq (ev_pos (by simp;omega) (Ev.now _)) (by simp)) ?_)
      have:=shrink_loop hs (by omega) ts hc ts.length 0 ts (by omega) hc (fun t ht=>by rw [List.drop_zero] at ht;exact ht)
      rw [List.drop_zero] at this
      exact this
    · rw [if_neg b]
      exact ev_pos (by rw [Bool.not_eq_true] at b;rw [b];rfl) (Ev.now _)
  · rw [if_neg c]
    exact ev_neg (fun h=>c ((ok0_iff _).1 h)) (Ev.now _)

theorem rints_loop (a:List Int) (ha:a.length≤2000000):∀ (d i:Nat),i+d=a.length→Ev (fun k=>ancepsref42_Ints.l0 k a a i) true
  | 0,i,h=>Ev.step (f:=fun _=>some true) (fun k=>by rw [ancepsref42_Ints.l0,if_neg (by omega)]) (Ev.now _)
  | d+1,i,h=>by
    have hw:=wrap_succ i a.length (by omega) (by omega)
    exact Ev.step (fun k=>by rw [ancepsref42_Ints.l0,if_pos (by omega),if_pos (by omega),if_pos (by omega),if_pos rfl,hw]) (rints_loop a ha d (i+1) (by omega))
theorem rints_ev (a:List Int) (ha:a.length≤2000000):Ev (fun k=>ancepsref42_Ints.f k a a) true:=ev_pos rfl (rints_loop a ha a.length 0 (by omega))
theorem rlists_loop (a:List (List Int)) (ha:a.length≤2000000) (hs:∀ s,s∈a→s.length≤1000):∀ (d i:Nat),i+d=a.length→Ev (fun k=>ancepsref42_Lists.l0 k a a i) true
  | 0,i,h=>Ev.step (f:=fun _=>some true) (fun k=>by rw [ancepsref42_Lists.l0,if_neg (by omega)]) (Ev.now _)
  | d+1,i,h=>by
    have hw:=wrap_succ i a.length (by omega) (by omega)
    exact Ev.step (fun k=>by rw [ancepsref42_Lists.l0,if_pos (by omega),if_pos (by omega),if_pos (by omega),hw]) (Ev.bind (rints_ev _ (Nat.le_trans (hs _ (rdL_mem a i (by omega))) (by omega))) (ev_pos rfl (rlists_loop a ha hs d (i+1) (by omega))))
theorem rlists_ev (a:List (List Int)) (ha:a.length≤2000000) (hs:∀ s,s∈a→s.length≤1000):Ev (fun k=>ancepsref42_Lists.f k a a) true:=ev_pos rfl (rlists_loop a ha hs a.length 0 (by omega))
def L4:List S49:=[⟨[0],[1]⟩,⟨[0],[0]⟩,⟨[1],[0,1]⟩,⟨[0,1],[3]⟩]
def L2:List S49:=[⟨[0],[1]⟩,⟨[0],[0]⟩]
def T0:List S49:=[⟨[0],[1]⟩]
def T1:List S49:=[⟨[0],[0]⟩]
theorem L4_vs:VS L4:=(sysv_VS _).1 (by decide)
theorem L2_vs:VS L2:=(sysv_VS _).1 (by decide)
theorem T0_vs:VS T0:=(sysv_VS _).1 (by decide)
theorem T1_vs:VS T1:=(sysv_VS _).1 (by decide)
def badc (s:List Int):Bool:=!(List.range 4).any fun a=>s.all fun i=>hs (rd_T49 L4 i).f0 (rd_T49 L4 i).f1 a
theorem bad_c (s:List Int) (h:Chn ((4:Nat):Int) none s):bad L4 s=badc s:=by
  have hi:=bad_iff L4_vs (s:=s) h
  have hv:∀ t,t∈L4→∀ w,w∈t.f0→w.toNat<2:=by decide
  have e:badc s=false↔∃ a,∀ i,i∈s→hs (rd_T49 L4 i).f0 (rd_T49 L4 i).f1 a=true:=by
    unfold badc
    rw [Bool.not_eq_false',List.any_eq_true]
    constructor
    · rintro ⟨a,_,ha⟩;exact ⟨a,fun i hi=>List.all_eq_true.1 ha i hi⟩
    · rintro ⟨a,ha⟩
      refine ⟨a % 4,List.mem_range.2 (by omega),List.all_eq_true.2 (fun i hi=>?_)⟩
      rw [← ha i hi]
      refine hs_agree _ _ (fun w hw=>?_)
      have hm:=h.mem i hi
      have:=hv _ (rdT_in (l:=L4) hm.1 hm.2.1) w hw
      rw [show (4:Nat)=2 ^ 2 from rfl,Nat.testBit_mod_two_pow,decide_eq_true this,Bool.true_and]
  rw [← e] at hi
  cases h1:bad L4 s with
  | false=>exact (hi.1 h1).symm
  | true=>cases h2:badc s with
    | false=>rw [hi.2 h2] at h1;cases h1
    | true=>rfl
theorem mini_congr {n:Int} {P Q:List Int→Bool} (h:∀ s,Chn n none s→P s=Q s) {s:List Int} (hs:Chn n none s):mini P s=mini Q s:=by
  unfold mini
  rw [h s hs]
  congr 1
  congr 1
  funext i
  rw [h _ (chn_erase hs i)]
theorem low_congr {n:Nat} {P Q:List Int→Bool} (h:∀ s,Chn (n:Int) none s→P s=Q s):∀ k,low n P k=low n Q k
  | 0=>rfl
  | k+1=>by
    rw [low_succ,low_succ,low_congr h k]
    congr 1
    exact List.filter_congr (fun s hs=>mini_congr h (cmb_in hs))
theorem cores4:crs L4=([[0,1],[1,3]],0):=by
  unfold crs
  rw [if_pos (by decide),show L4.length=4 from rfl]
  unfold lst
  rw [low_congr (n:=4) bad_c]
  kernel_rfl
def repc (s:List Int):Bool:=!badc (oth 4 s)
theorem rep_c (s:List Int) (_:Chn ((4:Nat):Int) none s):rep L4 s=repc s:=by
  unfold rep repc
  rw [show L4.length=4 from rfl,bad_c _ (oth_chn 4 s)]
theorem reps4:rps L4=([[1],[0,3]],0):=by
  unfold rps
  rw [if_pos (by decide),show L4.length=4 from rfl]
  unfold lst
  rw [low_congr (n:=4) rep_c]
  kernel_rfl
theorem blame4:blm L4=([0,1,3],0):=by
  have h:=cores4
  unfold crs at h
  rw [if_pos (by decide)] at h
  unfold blm
  rw [if_pos (by decide),(Prod.mk.inj h).1]
  obtain ⟨h1,h2⟩:=uni_spec (n:=4) (L:=[[0,1],[1,3]]) (by intro s hs;simp at hs;rcases hs with rfl|rfl <;> simp [Chn])
  rw [h1.same (hi':=4) (q:=none) (ys:=[0,1,3]) (by simp [Chn]) (fun x=>by rw [h2];simp;omega)]
theorem shr_congr {n:Int} {P Q:List Int→Bool} (h:∀ s,Chn n none s→P s=Q s):∀ (ts out:List Int),Chn n none out→shr P out ts=shr Q out ts
  | [],_,_=>rfl
  | t :: ts,out,ho=>by
    rw [shr,shr,h _ (er_chn ho t)]
    split
    · exact shr_congr h ts _ (er_chn ho t)
    · exact shr_congr h ts _ ho
theorem shrink4:shk L4 [0,1,2,3]=([1,3],0):=by
  have hc:Chn ((4:Nat):Int) none [0,1,2,3]:=by simp [Chn]
  have e:shr (bad L4) [0,1,2,3] [0,1,2,3]=[1,3]:=(shr_congr bad_c _ _ hc).trans (by kernel_rfl)
  have b:bad L4 [0,1,2,3]=true:=(bad_c _ hc).trans (by kernel_rfl)
  unfold shk
  rw [if_pos (by decide),if_pos (by decide),if_pos b,e]
theorem occ_of {l:List S49} (h:VS l) {vs:List Int} (hc:Chn 24 none vs) (hm:∀ v,v∈vs↔v∈flat l):occ l=vs:=Chn.same h.occ.1 hc (fun n=>by rw [h.occ.2,hm])
theorem L2_occ:occ L2=[0]:=occ_of L2_vs (by simp [Chn]) (fun v=>by simp [flat,L2])
theorem T0_occ:occ T0=[0]:=occ_of T0_vs (by simp [Chn]) (fun v=>by simp [flat,T0])
theorem T1_occ:occ T1=[0]:=occ_of T1_vs (by simp [Chn]) (fun v=>by simp [flat,T1])
def R2:List S96:=((solve_split.f 60 L2 [0] 0 0 []).getD ([],false)).1
theorem smallest4:Ev (fun k=>conflict_Smallest.f k L4) ([0,1],R2,[0,1],0):=by
  have v2:Ev (fun k=>solve_valid.f k L2) 0:=ev_eq (svalid_ev L2 (vs_sm L2_vs) (by decide)) ((sysv_VS _).2 L2_vs)
  have v0:Ev (fun k=>solve_valid.f k T0) 0:=ev_eq (svalid_ev T0 (vs_sm T0_vs) (by decide)) ((sysv_VS _).2 T0_vs)
  have v1:Ev (fun k=>solve_valid.f k T1) 0:=ev_eq (svalid_ev T1 (vs_sm T1_vs) (by decide)) ((sysv_VS _).2 T1_vs)
  have o2:Ev (fun k=>solve_occurring.f k L2) [0]:=ev_eq (occ_ev L2 (vs_sm L2_vs) (by decide)) L2_occ
  have o0:Ev (fun k=>solve_occurring.f k T0) [0]:=ev_eq (occ_ev T0 (vs_sm T0_vs) (by decide)) T0_occ
  have o1:Ev (fun k=>solve_occurring.f k T1) [0]:=ev_eq (occ_ev T1 (vs_sm T1_vs) (by decide)) T1_occ
  have s2:Ev (fun k=>solve_search.f k L2 [0] 0 0) []:=Ev.of (fun k=>solve_search.mono _ _ _ _ k) (k:=60) (by kernel_rfl)
  have s0:Ev (fun k=>solve_search.f k T0 [0] 0 0) [1]:=Ev.of (fun k=>solve_search.mono _ _ _ _ k) (k:=60) (by kernel_rfl)
  have s1:Ev (fun k=>solve_search.f k T1 [0] 0 0) [0]:=Ev.of (fun k=>solve_search.mono _ _ _ _ k) (k:=60) (by kernel_rfl)
  have p2:Ev (fun k=>solve_split.f k L2 [0] 0 0 []) (R2,true):=Ev.of (fun k=>solve_split.mono _ _ _ _ _ k) (k:=60) (by kernel_rfl)
  have hR:Ev (fun k=>solve_Refute.f k L2) (R2,0):=Ev.bind v2 (ev_pos rfl (Ev.bind o2 (Ev.bind s2 (ev_pos rfl (Ev.bind p2 (Ev.now _))))))
  have f0:Ev (fun k=>solve_First.f k T0) (1,0):=Ev.bind v0 (ev_pos rfl (Ev.bind o0 (Ev.bind s0 (Ev.now _))))
  have f1:Ev (fun k=>solve_First.f k T1) (0,0):=Ev.bind v1 (ev_pos rfl (Ev.bind o1 (Ev.bind s1 (Ev.now _))))
  have hc:Ev (fun k=>conflict_Cores.f k L4) ([[0,1],[1,3]],0):=ev_eq (cores_ev L4 (vs_sm L4_vs) (by decide)) cores4
  have hs:Ev (fun k=>conflict_system.f k L4 [0,1]) L2:=system_ev L4 (s:=[0,1]) (by simp [Chn,L4]) (by decide)
  refine Ev.bind hc (ev_pos rfl (ev_neg (by decide) (ev_pos (by decide) (Ev.bind hs (Ev.bind hR (ev_pos rfl ?_))))))
  have e2:Ev (fun k=>conflict_Smallest.l0 k L2 ((2:Nat):Int) ((2:Nat):Int) [0,1] R2 [0,1]) ([0,1],R2,[0,1],0):=Ev.step (f:=fun _=>some ([0,1],R2,[0,1],0)) (fun k=>by rw [conflict_Smallest.l0,if_neg (by omega)]) (Ev.now _)
  have e1:Ev (fun k=>conflict_Smallest.l0 k L2 ((2:Nat):Int) ((1:Nat):Int) [0,1] R2 [0]) ([0,1],R2,[0,1],0):=
    Ev.step (f:=fun k=>(some L2).bind fun a=>(some T0).bind fun b=>(solve_First.f k b).bind fun c=>if c.2=0 then (if ([0]:List Int).length<17592186044416 then conflict_Smallest.l0 k L2 ((2:Nat):Int) ((2:Nat):Int) [0,1] R2 ([0]++[c.1]) else none) else some ([],[],[],c.2)) (fun k=>by rw [conflict_Smallest.l0,if_pos (by decide)];kernel_rfl) (Ev.bind (Ev.now L2) (Ev.bind (Ev.now T0) (Ev.bind f0 (ev_pos rfl (ev_pos (by decide) e2)))))
  exact Ev.step (f:=fun k=>(some L2).bind fun a=>(some T1).bind fun b=>(solve_First.f k b).bind fun c=>if c.2=0 then (if ([]:List Int).length<17592186044416 then conflict_Smallest.l0 k L2 ((2:Nat):Int) ((1:Nat):Int) [0,1] R2 ([]++[c.1]) else none) else some ([],[],[],c.2)) (fun k=>by rw [conflict_Smallest.l0,if_pos (by decide)];kernel_rfl) (Ev.bind (Ev.now L2) (Ev.bind (Ev.now T1) (Ev.bind f1 (ev_pos rfl (ev_pos (by decide) e1)))))
theorem awake_ev:Ev (fun k=>ancepslaw42_awake.f k) true:=by
  have hS:=vs_sm L4_vs
  have hc:Ev (fun k=>conflict_Cores.f k L4) ([[0,1],[1,3]],0):=ev_eq (cores_ev L4 hS (by decide)) cores4
  have hr:Ev (fun k=>conflict_Repairs.f k L4) ([[1],[0,3]],0):=ev_eq (repairs_ev L4 hS (by decide)) reps4
  have hb:Ev (fun k=>conflict_Blame.f k L4) ([0,1,3],0):=ev_eq (blame_ev L4 hS (by decide)) blame4
  have hk:Ev (fun k=>conflict_Shrink.f k L4 [0,1,2,3]) ([1,3],0):=ev_eq (dshrink_ev L4 hS (by decide) _ (by decide)) shrink4
  have q1:=rlists_ev [[0,1],[1,3]] (by decide) (by decide)
  have q2:=rlists_ev [[1],[0,3]] (by decide) (by decide)
  have q3:=sequal_ev [0,1,3] (by decide)
  have q4:=sequal_ev [1,3] (by decide)
  have q5:=sequal_ev [0,1] (by decide)
  unfold ancepslaw42_awake.f
  exact Ev.bind (Ev.now L4) (Ev.bind hc (Ev.bind hr (Ev.bind hb (Ev.bind hk (Ev.bind smallest4 (ev_pos rfl (Ev.bind q1 (ev_pos rfl (ev_pos rfl (Ev.bind q2 (ev_pos rfl (ev_pos rfl (Ev.bind q3 (ev_pos rfl (ev_pos rfl (Ev.bind q4 (ev_pos rfl (ev_pos rfl (Ev.bind q5 (ev_pos rfl (Ev.bind q5 (Ev.now _))))))))))))))))))))))
theorem awake_bind:Ev (fun k=>(ancepslaw42_awake.f k).bind fun t=>some t) true:=Ev.bind awake_ev (Ev.now _)

theorem rcvalid_loop (l:List S49) (hs:Sm l) (hl:l.length≤1000):∀ (d i:Nat),i+d=l.length→Ev (fun k=>ancepsref42_Valid.l0 k l i) (fstErr (l.drop i))
  | 0,i,h=>by
    rw [List.drop_eq_nil_of_le (by omega)]
    exact Ev.step (f:=fun _=>some 0) (fun k=>by rw [ancepsref42_Valid.l0,if_neg (by omega)]) (Ev.now _)
  | d+1,i,h=>by
    have hi:i<l.length:=by omega
    have hw:=wrap_succ i l.length hi (by omega)
    have hm:=hs _ (rdT_mem l i hi)
    rw [rdT_at l i hi,fstErr]
    refine Ev.step (fun k=>by rw [ancepsref42_Valid.l0,if_pos (by omega),if_pos (by omega),hw]) (Ev.bind (rvalid_ev _ _ (by omega) (by omega)) ?_)
    exact ev_ite (fun _=>rcvalid_loop l hs hl d (i+1) (by omega)) (fun _=>Ev.now _)
theorem rcvalid_ev (l:List S49) (hs:Sm l) (hl:l.length≤1000):Ev (fun k=>ancepsref42_Valid.f k l) (cvl l):=by
  unfold cvl ancepsref42_Valid.f
  exact ev_ite (fun _=>Ev.now _) (fun _=>by simpa using rcvalid_loop l hs hl l.length 0 (by omega))
theorem cfew_ev (l:List S49):∃ b,Ev (fun k=>ancepsref42_Few.f k l) b∧(b=true→Sm l∧l.length≤18):=by
  obtain ⟨b,hb,hq⟩:=sfew_ev l
  cases b with
  | false=>exact ⟨false,Ev.bind hb (ev_neg (by simp) (Ev.now _)),fun h=>by cases h⟩
  | true=>
    obtain ⟨h1,h2⟩:=hq rfl
    by_cases e:cvl l=0
    · obtain ⟨hv,_⟩:=cvl_VS e
      by_cases h6:(l.length:Int)≤6
      · exact ⟨_,Ev.bind hb (ev_pos rfl (Ev.bind (rcvalid_ev l h1 (by omega)) (ev_pos e (ev_pos h6 (Ev.bind (rvars_ev hv h1) (Ev.now _)))))),fun _=>⟨h1,h2⟩⟩
      · exact ⟨_,Ev.bind hb (ev_pos rfl (Ev.bind (rcvalid_ev l h1 (by omega)) (ev_pos e (ev_neg h6 (Ev.now _))))),fun _=>⟨h1,h2⟩⟩
    · exact ⟨_,Ev.bind hb (ev_pos rfl (Ev.bind (rcvalid_ev l h1 (by omega)) (ev_neg e (Ev.now _)))),fun _=>⟨h1,h2⟩⟩
theorem without_ev (s:List Int) (hs:s.length≤1000) (i:Nat) (hi:i<s.length):Ev (fun _=>ancepsref42_Without.f s i) (s.eraseIdx i):=by
  have hw:wrap64 ((i:Int)+1)=((i+1:Nat):Int):=by rw [w64_in _ (by omega)];omega
  refine ev_some (ev_pos (by omega) (ev_pos (by omega) (ev_pos (by simp;omega) (ev_some ?_))))
  refine Ev.congr (fun k=>by rw [hw]) (ev_pos (by omega) (ev_pos (by omega) (ev_pos (by simp;omega) (ev_eq (Ev.now _) ?_))))
  rw [Int.toNat_natCast,Int.toNat_natCast,List.nil_append,List.eraseIdx_eq_take_drop_succ]
theorem rsystem_loop (l:List S49) (s:List Int) (hs:Chn (l.length:Int) none s) (hl:s.length≤1000):∀ (d i:Nat) (out:List S49),i+d=s.length→out.length=i→Ev (fun k=>ancepsref42_System.l0 k l s out i) (out++sub l (s.drop i))
  | 0,i,out,h,ho=>by
    rw [List.drop_eq_nil_of_le (by omega)]
    exact ev_eq (Ev.step (f:=fun _=>some out) (fun k=>by rw [ancepsref42_System.l0,if_neg (by omega)]) (Ev.now _)) (by simp [sub])
  | d+1,i,out,h,ho=>by
    have hi:i<s.length:=by omega
    have hw:=wrap_succ i s.length hi (by omega)
    have hm:=hs.mem _ (rd_mem s i hi)
    have ih:=rsystem_loop l s hs hl d (i+1) (out++[rd_T49 l (rd s i)]) (by omega) (by simp;omega)
    refine ev_eq (Ev.step (fun k=>by rw [ancepsref42_System.l0,if_pos (by omega),if_pos (by omega),if_pos hm.1,if_pos hm.2.1,if_pos (by omega),hw]) ih) ?_
    rw [rd_at s i hi,List.append_assoc]
    rfl
theorem rsystem_ev (l:List S49) {s:List Int} (hs:Chn (l.length:Int) none s) (hl:s.length≤1000):Ev (fun k=>ancepsref42_System.f k l s) (sub l s):=by
  have:=rsystem_loop l s hs hl s.length 0 [] (by omega) rfl
  rwa [List.drop_zero,List.nil_append] at this
theorem rbad_ev {l:List S49} (h:Sm l) {s:List Int} (hs:Chn (l.length:Int) none s) (hl:s.length≤1000):Ev (fun k=>ancepsref42_contradictory.f k l s) (bad l s):=
  Ev.bind (rsystem_ev l hs hl) (Ev.bind (rfirst_ev _ (Sm_sub h hs) (by unfold sub;rw [List.length_map];exact hl)) (Ev.now _))
theorem rset_loop (n s:Int) (out L:List (List Int)) (f i:Nat) (hi:i<L.length) (hf:f≤16) (ho:out.length<5864062014805) (hr:∀ x,x∈rd_L1 L i→0≤x∧x≤16) (hl:(rd_L1 L i).length≤16) (r:List (List Int)):∀ (d j:Nat) (c:List Int),j+d=(rd_L1 L i).length→c.length≤j+1→
    Ev (fun k=>ancepsref42_Sets.l1 k n s (out++[c++((rd_L1 L i).drop j).map fun x=>x+((f+1:Nat):Int)]) f L (wrap64 ((i:Int)+1))) r→Ev (fun k=>ancepsref42_Sets.l2 k n s out f L i c j) r
  | 0,j,c,h,hc,H=>by
    rw [List.drop_eq_nil_of_le (by omega),List.map_nil,List.append_nil] at H
    exact Ev.step (fun k=>by rw [ancepsref42_Sets.l2,if_pos (by omega),if_pos (by omega),if_neg (by omega),if_pos ho]) H
  | d+1,j,c,h,hc,H=>by
    have hj:j<(rd_L1 L i).length:=by omega
    have hw:=wrap_succ j _ hj (by omega)
    have hx:=hr _ (rd_mem _ j hj)
    have e:wrap64 (wrap64 (rd (rd_L1 L i) j+(f:Int))+1)=rd (rd_L1 L i) j+((f+1:Nat):Int):=by rw [w64_in (rd (rd_L1 L i) j+(f:Int)) (by omega),w64_in _ (by omega)];omega
    rw [rd_at _ j hj,List.map_cons] at H
    refine Ev.step (fun k=>by rw [ancepsref42_Sets.l2,if_pos (by omega),if_pos (by omega),if_pos (by omega),if_pos (by omega),if_pos (by omega),hw,e]) (rset_loop n s out L f i hi hf ho hr hl r d (j+1) _ (by omega) (by simp;omega) ?_)
    rw [List.append_assoc]
    exact H
theorem rsets_loop (n s:Int) (L:List (List Int)) (f:Nat) (hf:f≤16) (hL:L.length≤100000) (hr:∀ t,t∈L→(∀ x,x∈t→0≤x∧x≤16)∧t.length≤16) (r:List (List Int)):∀ (d i:Nat) (out:List (List Int)),i+d=L.length→out.length+d≤5000000→
    Ev (fun k=>ancepsref42_Sets.l0 k n s (out++(L.drop i).map fun t=>(f:Int) :: t.map fun x=>x+((f+1:Nat):Int)) (wrap64 ((f:Int)+1))) r→Ev (fun k=>ancepsref42_Sets.l1 k n s out f L i) r
  | 0,i,out,h,ho,H=>by
    rw [List.drop_eq_nil_of_le (by omega),List.map_nil,List.append_nil] at H
    exact Ev.step (fun k=>by rw [ancepsref42_Sets.l1,if_neg (by omega)]) H
  | d+1,i,out,h,ho,H=>by
    have hi:i<L.length:=by omega
    have hw:=wrap_succ i L.length hi (by omega)
    obtain ⟨h1,h2⟩:=hr _ (rdL_mem L i hi)
    rw [rdL_at L i hi,List.map_cons] at H
    refine Ev.step (fun k=>by rw [ancepsref42_Sets.l1,if_pos (by omega)];rfl) (rset_loop n s out L f i hi hf (by omega) h1 h2 r (rd_L1 L i).length 0 [(f:Int)] (by omega) (by simp) ?_)
    rw [List.drop_zero,hw]
    refine rsets_loop n s L f hf hL hr r d (i+1) _ (by omega) (by simp;omega) ?_
    rw [List.append_assoc]
    exact H
theorem rsets_out (n:Nat) (hn:n≤16) (s:Nat) (hs:s≤1000) (rec:∀ m:Nat,m≤16→Ev (fun k=>ancepsref42_Sets.f k m s) (cmb m s 0)):∀ (d f:Nat) (out:List (List Int)),f+d=n→out.length≤f * 65536→Ev (fun k=>ancepsref42_Sets.l0 k n ((s+1:Nat):Int) out f) (out++cmb d (s+1) f)
  | 0,f,out,h,ho=>ev_eq (Ev.step (f:=fun _=>some out) (fun k=>by rw [ancepsref42_Sets.l0,if_neg (by omega)]) (Ev.now _)) (by simp [cmb])
  | d+1,f,out,h,ho=>by
    have hw:wrap64 ((f:Int)+1)=((f+1:Nat):Int):=by rw [w64_in _ (by omega)];omega
    have e1:wrap64 (wrap64 ((n:Int) - (f:Int)) - 1)=(d:Int):=by rw [w64_in ((n:Int) - (f:Int)) (by omega),w64_in _ (by omega)];omega
    have e2:wrap64 (((s+1:Nat):Int) - 1)=(s:Int):=by rw [w64_in _ (by omega)];omega
    have hlen:=cmb_len d s 0
    have h16:=two16 (n:=d) (by omega)
    have sh:=cmb_shift d s 0 (f+1)
    rw [Nat.zero_add] at sh
    refine Ev.step (fun k=>by rw [ancepsref42_Sets.l0,if_pos (by omega),e1,e2]) (Ev.bind (rec d (by omega)) ?_)
    refine rsets_loop n _ (cmb d s 0) f (by omega) (by omega) (fun t ht=>?_) _ (cmb d s 0).length 0 out (by omega) (by omega) ?_
    · obtain ⟨h1,h2,_⟩:=(mem_cmb d s 0 t).1 ht
      rw [Nat.zero_add] at h2
      have:=chn_small (by omega) h2
      exact ⟨fun x hx=>by have:=h2.mem x hx;omega,by omega⟩
    · rw [List.drop_zero,hw]
      have ih:=rsets_out n hn s hs rec d (f+1) (out++(cmb d s (f+1)).map fun l=>(f:Int) :: l) (by omega) (by rw [List.length_append,List.length_map,sh,List.length_map];omega)
      rw [cmb,← List.append_assoc]
      refine ev_eq (Ev.congr (fun k=>?_) ih) rfl
      rw [sh,List.map_map]
      rfl
theorem rsets_ev:∀ (s n:Nat),n≤16→s≤1000→Ev (fun k=>ancepsref42_Sets.f k n s) (cmb n s 0)
  | 0,n,hn,_=>by
    rw [cmb_zero]
    exact Ev.step (f:=fun _=>some [[]]) (fun k=>by rw [ancepsref42_Sets.f,if_pos (by omega)]) (Ev.now _)
  | s+1,n,hn,hs=>by
    have:=rsets_out n hn s (by omega) (fun m hm=>rsets_ev s m hm (by omega)) n 0 [] (by omega) (by simp)
    rw [List.nil_append] at this
    exact Ev.step (fun k=>by rw [ancepsref42_Sets.f,if_neg (by omega)];rfl) this
theorem rcore_loop {l:List S49} (hS:Sm l) (hl:l.length≤16) {s:List Int} (hs:Chn (l.length:Int) none s):∀ (d i:Nat),i+d=s.length→Ev (fun k=>ancepsref42_core.l0 k l s i) ((List.range' i d).all fun i=>!bad l (s.eraseIdx i))
  | 0,i,h=>Ev.step (f:=fun _=>some true) (fun k=>by rw [ancepsref42_core.l0,if_neg (by omega)]) (Ev.now _)
  | d+1,i,h=>by
    have hsl:=chn_small (by omega) hs
    have hw:=wrap_succ i s.length (by omega) (by omega)
    have hlen:=List.length_eraseIdx_le s i
    rw [List.range'_succ,List.all_cons]
    refine Ev.step (fun k=>by rw [ancepsref42_core.l0,if_pos (by omega),hw]) (Ev.bind (without_ev s (by omega) i (by omega)) (Ev.bind (rbad_ev hS (chn_erase hs i) (by omega)) ?_))
    cases e:bad l (s.eraseIdx i) with
    | true=>exact ev_pos rfl (Ev.now _)
    | false=>exact ev_neg (by simp) (ev_eq (rcore_loop hS hl hs d (i+1) (by omega)) (by simp))
theorem rcore_ev {l:List S49} (hS:Sm l) (hl:l.length≤16) {s:List Int} (hs:Chn (l.length:Int) none s):Ev (fun k=>ancepsref42_core.f k l s) (mini (bad l) s):=by
  have hsl:=chn_small (by omega) hs
  refine Ev.bind (rbad_ev hS hs (by omega)) ?_
  unfold mini
  cases e:bad l s with
  | true=>
    have:=rcore_loop hS hl hs s.length 0 (by omega)
    rw [← List.range_eq_range'] at this
    exact ev_pos rfl (ev_eq this (by simp))
  | false=>exact ev_neg (by simp) (Ev.now _)
theorem rcoresin_loop {l:List S49} (hS:Sm l) (hl:l.length≤16) (j:Int) (L:List (List Int)) (hL:∀ s,s∈L→Chn (l.length:Int) none s) (hLl:L.length≤100000) (r:List (List Int)×Int):∀ (d i:Nat) (out:List (List Int)),i+d=L.length→out.length+d≤1500000→
    Ev (fun k=>ancepsref42_Cores.l0 k l (out++(L.drop i).filter (mini (bad l))) (wrap64 (j+1))) r→Ev (fun k=>ancepsref42_Cores.l1 k l out j L i) r
  | 0,i,out,h,ho,H=>by
    rw [List.drop_eq_nil_of_le (by omega),List.filter_nil,List.append_nil] at H
    exact Ev.step (fun k=>by rw [ancepsref42_Cores.l1,if_neg (by omega)]) H
  | d+1,i,out,h,ho,H=>by
    have hi:i<L.length:=by omega
    have hw:=wrap_succ i L.length hi (by omega)
    rw [rdL_at L i hi] at H
    refine Ev.step (fun k=>by rw [ancepsref42_Cores.l1,if_pos (by omega),if_pos (by omega),hw]) (Ev.bind (rcore_ev hS hl (hL _ (rdL_mem L i hi))) ?_)
    by_cases e:mini (bad l) (rd_L1 L i)=true
    · rw [List.filter_cons_of_pos e] at H
      refine ev_pos e (ev_pos (by omega) (rcoresin_loop hS hl j L hL hLl r d (i+1) _ (by omega) (by simp;omega) ?_))
      rw [List.append_assoc]
      exact H
    · rw [List.filter_cons_of_neg e] at H
      exact ev_neg e (rcoresin_loop hS hl j L hL hLl r d (i+1) _ (by omega) (by omega) H)
theorem rcores_loop {l:List S49} (hS:Sm l) (hl:l.length≤16):∀ (d j:Nat),j+d=l.length+1→Ev (fun k=>ancepsref42_Cores.l0 k l (low l.length (bad l) j) j) (lst l.length (bad l),0)
  | 0,j,hj=>by
    have:j=l.length+1:=by omega
    subst this
    exact Ev.step (f:=fun _=>some (low l.length (bad l) (l.length+1),0)) (fun k=>by rw [ancepsref42_Cores.l0,if_neg (by omega)]) (Ev.now _)
  | d+1,j,hj=>by
    have ih:=rcores_loop hS hl d (j+1) (by omega)
    have hw:wrap64 ((j:Int)+1)=((j+1:Nat):Int):=by rw [w64_in _ (by omega)];omega
    have h2:=two16 hl
    have h3:=cmb_len l.length j 0
    refine Ev.step (fun k=>by rw [ancepsref42_Cores.l0,if_pos (by omega)]) (Ev.bind (rsets_ev j l.length hl (by omega)) ?_)
    refine rcoresin_loop hS hl j _ (fun s hs=>cmb_in hs) (by omega) _ (cmb l.length j 0).length 0 _ (by omega) (by have:=low_small hl (bad l) (k:=j) (by omega);omega) ?_
    rw [List.drop_zero,← low_succ,hw]
    exact ih
theorem rcores_ev (l:List S49) (hs:Sm l) (hl:l.length≤1000):Ev (fun k=>ancepsref42_Cores.f k l) (crs l):=by
  refine Ev.bind (rcvalid_ev l hs hl) ?_
  unfold crs
  refine ev_ite (fun e=>?_) (fun _=>Ev.now _)
  have:=rcores_loop hs (by have:=(cvl_VS e).2;omega) (l.length+1) 0 (by omega)
  exact this
theorem clone_ev (xs:List Int) (hx:xs.length≤1030):Ev (fun _=>slices_Clone_int_int.f xs) xs:=ev_eq (ev_pos (by simp;omega) (Ev.now _)) (by simp)
theorem copied_loop (l:List S49) (hs:Sm l) (hl:l.length≤1000):∀ (d i:Nat) (out:List S49),i+d=l.length→out.length=i→Ev (fun k=>ancepslaw42_copied.l0 k out l l.length i) (out++l.drop i)
  | 0,i,out,h,ho=>by
    rw [List.drop_eq_nil_of_le (by omega)]
    exact ev_eq (Ev.step (f:=fun _=>some out) (fun k=>by rw [ancepslaw42_copied.l0,if_neg (by omega)]) (Ev.now _)) (by simp)
  | d+1,i,out,h,ho=>by
    have hi:i<l.length:=by omega
    have hw:=wrap_succ i l.length hi (by omega)
    have hm:=hs _ (rdT_mem l i hi)
    have ih:=copied_loop l hs hl d (i+1) (out++[rd_T49 l i]) (by omega) (by simp;omega)
    rw [rdT_at l i hi]
    refine ev_eq (Ev.step (fun k=>by rw [ancepslaw42_copied.l0,if_pos (by omega),if_pos (by omega),if_pos (by omega),hw]) (Ev.bind (clone_ev _ hm.1) (Ev.bind (clone_ev _ hm.2) (ev_pos (show out.length<2932031007402 by omega) ih)))) ?_
    rw [List.append_assoc]
    rfl
theorem copied_ev (l:List S49) (hs:Sm l) (hl:l.length≤1000):Ev (fun k=>ancepslaw42_copied.f k l) l:=by
  have:=copied_loop l hs hl l.length 0 [] (by omega) rfl
  rwa [List.drop_zero,List.nil_append] at this

def ots (l:List S49):List (List Int)→List Int→List Int×Int
  | [],out=>(out,0)
  | s :: L,out=>if (fst1 (sub l s)).2=0 then ots l L (out++[(fst1 (sub l s)).1]) else ([],12)
theorem dothers_loop {l:List S49} (hS:Sm l) (hl:l.length≤16) (L:List (List Int)) (hL:∀ s,s∈L→Chn (l.length:Int) none s) (hLl:L.length≤100000):∀ (d i:Nat) (out:List Int),i+d=L.length→out.length=i→Ev (fun k=>conflict_Others.l0 k l out L L.length i) (ots l (L.drop i) out)
  | 0,i,out,h,ho=>by
    rw [List.drop_eq_nil_of_le (by omega)]
    exact Ev.step (f:=fun _=>some (out,0)) (fun k=>by rw [conflict_Others.l0,if_neg (by omega)]) (Ev.now _)
  | d+1,i,out,h,ho=>by
    have hi:i<L.length:=by omega
    have hw:=wrap_succ i L.length hi (by omega)
    have hs:=hL _ (rdL_mem L i hi)
    have hsl:=chn_small (by omega) hs
    rw [rdL_at L i hi,ots]
    refine Ev.step (fun k=>by rw [conflict_Others.l0,if_pos (by omega),if_pos (by omega),if_pos (by omega),hw]) (Ev.bind (system_ev l hs (by omega)) (Ev.bind (dfirst_ev _ (Sm_sub hS hs) (by unfold sub;rw [List.length_map];omega)) ?_))
    exact ev_ite (fun _=>ev_pos (by omega) (dothers_loop hS hl L hL hLl d (i+1) _ (by omega) (by simp;omega))) (fun _=>Ev.now _)
def oth1 (l:List S49) (size:Int):List Int×Int:=if cvl l=0 then (if size<0 then ([],6) else if size>(l.length:Int) then ([],6) else ots l (cmb l.length size.toNat 0) []) else ([],cvl l)
theorem dothers_ev (l:List S49) (hs:Sm l) (hl:l.length≤1000) (size:Int):Ev (fun k=>conflict_Others.f k l size) (oth1 l size):=by
  refine Ev.bind (cvalid_ev l hs hl) (ev_ite (fun e=>ev_ite (fun _=>Ev.now _) (fun h0=>ev_ite (fun _=>Ev.now _) (fun h1=>?_))) (fun _=>Ev.now _))
  have h12:=(cvl_VS e).2
  obtain ⟨s,rfl⟩:∃ s:Nat,size=s:=⟨size.toNat,by omega⟩
  rw [Int.toNat_natCast]
  have h2:=two16 (n:=l.length) (by omega)
  have h3:=cmb_len l.length s 0
  have:=dothers_loop hs (by omega) (cmb l.length s 0) (fun t ht=>cmb_in ht) (by omega) (cmb l.length s 0).length 0 [] (by omega) rfl
  rw [List.drop_zero] at this
  exact Ev.bind (sets_ev l.length (by omega) s (by omega)) this
theorem rfu_len (l:List S49):(rfu l).1.length≤2000:=by
  unfold rfu
  by_cases e:sysv l=0
  · rw [if_pos e]
    by_cases e1:SS l=[]
    · rw [if_pos e1]
      by_cases e2:(tree l (occ l) 0 0).sz≤2000
      · rw [if_pos e2]
        show ((tree l (occ l) 0 0).nod 0).length≤2000
        rw [Tr.nod_len]
        exact e2
      · rw [if_neg e2];simp
    · rw [if_neg e1];simp
  · rw [if_neg e];simp
theorem rfu_chk {l:List S49} (h:(rfu l).2=0):chk1 l (rfu l).1=true:=by
  unfold rfu at h ⊢
  by_cases e:sysv l=0
  · rw [if_pos e] at h ⊢
    have hv:=(sysv_VS l).1 e
    by_cases e1:SS l=[]
    · rw [if_pos e1] at h ⊢
      by_cases e2:(tree l (occ l) 0 0).sz≤2000
      · rw [if_pos e2] at h ⊢
        exact std_chk hv (full0 hv e1) e2
      · rw [if_neg e2] at h;cases h
    · rw [if_neg e1] at h;cases h
  · rw [if_neg e] at h;exact absurd h e
theorem sub_len (l:List S49) (s:List Int):(sub l s).length=s.length:=List.length_map ..
theorem sub_erase (l:List S49) (s:List Int) (i:Nat):(sub l s).eraseIdx i=sub l (s.eraseIdx i):=by
  unfold sub
  rw [List.eraseIdx_eq_take_drop_succ,List.eraseIdx_eq_take_drop_succ,List.map_append,List.map_take,List.map_drop]
theorem del_at {t:List S49} (ht:t.length≤1000) {i:Nat} (hi:i<t.length):(api_Table_36.f t).bind (fun t82=>api_Table_35.f t82 (i:Int) (wrap64 ((i:Int)+1)))=some (t.eraseIdx i):=by
  have h1:api_Table_36.f t=some t:=by
    unfold api_Table_36.f
    simp only [Option.bind_some]
    rw [if_pos (by simp;omega)]
    rfl
  rw [h1,Option.bind_some]
  unfold api_Table_35.f
  rw [wrap_succ i t.length hi (by omega),if_pos (by omega),if_pos (by omega),if_pos (by omega),Int.toNat_natCast]
def smr (l:List S49) (s:List Int) (i d:Nat):List Int:=(List.range' i d).map fun j=>(fst1 (sub l (s.eraseIdx j))).1
theorem dsm_loop {l:List S49} (hS:Sm l) {s:List Int} (hs:Chn (l.length:Int) none s) (hl:s.length≤1000) (hf:∀ i,i<s.length→(fst1 (sub l (s.eraseIdx i))).2=0) (N:List S96):∀ (d i:Nat) (out:List Int),i+d=s.length→out.length≤i→Ev (fun k=>conflict_Smallest.l0 k (sub l s) ((sub l s).length:Int) i s N out) (s,N,out++smr l s i d,0)
  | 0,i,out,h,ho=>by
    have hln:=sub_len l s
    exact Ev.step (f:=fun _=>some (s,N,out,0)) (fun k=>by rw [conflict_Smallest.l0,if_neg (by omega)]) (ev_eq (Ev.now _) (by simp [smr]))
  | d+1,i,out,h,ho=>by
    have hln:=sub_len l s
    have hi:i<s.length:=by omega
    have hw:=wrap_succ i s.length hi (by omega)
    have ih:=dsm_loop hS hs hl hf N d (i+1) (out++[(fst1 (sub l (s.eraseIdx i))).1]) (by omega) (by simp;omega)
    have he:out++smr l s i (d+1)=(out++[(fst1 (sub l (s.eraseIdx i))).1])++smr l s (i+1) d:=by unfold smr;rw [List.range'_succ,List.map_cons,List.append_assoc];rfl
    rw [he]
    have hd:=del_at (t:=sub l s) (by omega) (i:=i) (by omega)
    rw [sub_erase] at hd
    have h1:(sub l (s.eraseIdx i)).length≤1000:=by rw [sub_len,List.length_eraseIdx_of_lt hi];omega
    refine Ev.step (f:=fun k=>(solve_First.f k (sub l (s.eraseIdx i))).bind fun bt74=>if bt74.2=0 then (if out.length<17592186044416 then conflict_Smallest.l0 k (sub l s) ((sub l s).length:Int) (wrap64 ((i:Int)+1)) s N (out++[bt74.1]) else none) else some ([],[],[],bt74.2)) (fun k=>?_) ?_
    · rw [conflict_Smallest.l0,if_pos (by omega),← Option.bind_assoc,hd,Option.bind_some]
    · refine Ev.bind (dfirst_ev _ (Sm_sub hS (chn_erase hs i)) h1) (ev_pos (hf i hi) (ev_pos (by omega) ?_))
      rw [hw]
      exact ih
theorem rsm_loop {l:List S49} (hS:Sm l) {s:List Int} (hs:Chn (l.length:Int) none s) (hl:s.length≤1000) (N:List S96):∀ (d i:Nat) (out:List Int),i+d=s.length→out.length≤i→Ev (fun k=>ancepsref42_Smallest.l0 k l i s N out) (s,N,out++smr l s i d,0)
  | 0,i,out,h,ho=>by
    exact Ev.step (f:=fun _=>some (s,N,out,0)) (fun k=>by rw [ancepsref42_Smallest.l0,if_neg (by omega)]) (ev_eq (Ev.now _) (by simp [smr]))
  | d+1,i,out,h,ho=>by
    have hi:i<s.length:=by omega
    have hw:=wrap_succ i s.length hi (by omega)
    have ih:=rsm_loop hS hs hl N d (i+1) (out++[(fst1 (sub l (s.eraseIdx i))).1]) (by omega) (by simp;omega)
    have he:out++smr l s i (d+1)=(out++[(fst1 (sub l (s.eraseIdx i))).1])++smr l s (i+1) d:=by unfold smr;rw [List.range'_succ,List.map_cons,List.append_assoc];rfl
    rw [he]
    have h1:(s.eraseIdx i).length≤1000:=by rw [List.length_eraseIdx_of_lt hi];omega
    refine Ev.step (fun k=>by rw [ancepsref42_Smallest.l0,if_pos (by omega),hw]) ?_
    exact Ev.bind (without_ev s hl i hi) (Ev.bind (rsystem_ev l (chn_erase hs i) h1) (Ev.bind (rfirst_ev _ (Sm_sub hS (chn_erase hs i)) (by rw [sub_len];omega)) (ev_pos (by omega) ih)))
def sml (l:List S49):List Int×List S96×List Int×Int:=if (crs l).2=0 then (if ((crs l).1.length:Int)=0 then ([],[],[],11) else (if (rfu (sub l (rd_L1 (crs l).1 0))).2=0 then (rd_L1 (crs l).1 0,(rfu (sub l (rd_L1 (crs l).1 0))).1,smr l (rd_L1 (crs l).1 0) 0 (rd_L1 (crs l).1 0).length,0) else ([],[],[],(rfu (sub l (rd_L1 (crs l).1 0))).2))) else ([],[],[],(crs l).2)
theorem crs_first {l:List S49} (h:(crs l).2=0) (hn:¬ ((crs l).1.length:Int)=0):VS l∧l.length≤12∧cvl l=0∧(crs l).1=lst l.length (bad l)∧rd_L1 (crs l).1 0∈lst l.length (bad l):=by
  unfold crs at h hn ⊢
  by_cases e:cvl l=0
  · rw [if_pos e] at hn ⊢
    obtain ⟨hv,h12⟩:=cvl_VS e
    refine ⟨hv,h12,e,rfl,?_⟩
    exact rdL_mem (lst l.length (bad l)) 0 (by have:((lst l.length (bad l)).length:Int)≠0:=hn;omega)
  · rw [if_neg e] at h;exact absurd h e
theorem lst_fst {l:List S49} (hv:VS l) {s:List Int} (hm:s∈lst l.length (bad l)):Chn (l.length:Int) none s∧bad l s=true∧∀ i,i<s.length→(fst1 (sub l (s.eraseIdx i))).2=0:=by
  obtain ⟨h1,h2⟩:=(mem_lst _ _ _).1 hm
  obtain ⟨h3,h4⟩:=(mini_iff _ _).1 h2
  exact ⟨h1,h3,fun i hi=>by have:=h4 i hi;unfold bad at this;simpa using this⟩
theorem dsml_ev (l:List S49) (hs:Sm l) (hl:l.length≤1000):Ev (fun k=>conflict_Smallest.f k l) (sml l):=by
  refine Ev.bind (cores_ev l hs hl) ?_
  unfold sml
  by_cases e:(crs l).2=0
  · rw [if_pos e]
    refine ev_pos e ?_
    by_cases en:((crs l).1.length:Int)=0
    · rw [if_pos en];exact ev_pos en (Ev.now _)
    · rw [if_neg en]
      obtain ⟨hv,h12,_,e1,hm⟩:=crs_first e en
      obtain ⟨hc,_,hf⟩:=lst_fst hv hm
      have hln:=chn_small (n:=l.length) (by omega) hc
      refine ev_neg en (ev_pos (by omega) (Ev.bind (system_ev l hc (by omega)) (Ev.bind (drefute_ev _ (Sm_sub hs hc) (by rw [sub_len];omega)) (ev_ite (fun _=>?_) (fun _=>Ev.now _)))))
      exact dsm_loop hs hc (by omega) hf _ _ 0 [] (by omega) (by simp)
  · rw [if_neg e];exact ev_neg e (Ev.now _)
theorem rsml_ev (l:List S49) (hs:Sm l) (hl:l.length≤1000):Ev (fun k=>ancepsref42_Smallest.f k l) (sml l):=by
  refine Ev.bind (rcores_ev l hs hl) ?_
  unfold sml
  by_cases e:(crs l).2=0
  · rw [if_pos e]
    refine ev_pos e ?_
    by_cases en:((crs l).1.length:Int)=0
    · rw [if_pos en];exact ev_pos en (Ev.now _)
    · rw [if_neg en]
      obtain ⟨hv,h12,_,e1,hm⟩:=crs_first e en
      obtain ⟨hc,_,hf⟩:=lst_fst hv hm
      have hln:=chn_small (n:=l.length) (by omega) hc
      refine ev_neg en (ev_pos (by omega) (Ev.bind (rsystem_ev l hc (by omega)) (Ev.bind (rrefute_ev _ (Sm_sub hs hc) (by rw [sub_len];omega)) (ev_ite (fun _=>?_) (fun _=>Ev.now _)))))
      exact rsm_loop hs hc (by omega) _ _ 0 [] (by omega) (by simp)
  · rw [if_neg e];exact ev_neg e (Ev.now _)
def wok (l:List S49) (s W:List Int) (i d:Nat):Bool:=(List.range' i d).all fun j=>hld (sub l (s.eraseIdx j)) (rd W j)
def chkC (l:List S49) (s:List Int) (N:List S96) (W:List Int):Bool:=if cvl l=0 then (if ok0 (chk l.length none s)=true then (if (W.length:Int)=(s.length:Int) then (if chk1 (sub l s) N=true then wok l s W 0 s.length else false) else false) else false) else false
theorem wok_succ (l:List S49) (s W:List Int) (i d:Nat):wok l s W i (d+1)=(hld (sub l (s.eraseIdx i)) (rd W i)&&wok l s W (i+1) d):=by unfold wok;rw [List.range'_succ,List.all_cons]
theorem dwok_loop {l:List S49} (hS:Sm l) {s W:List Int} (hs:Chn (l.length:Int) none s) (hl:s.length≤1000) (hW:W.length=s.length):∀ (d i:Nat),i+d=s.length→Ev (fun k=>conflict_Check.l0 k (sub l s) W (W.length:Int) i) (wok l s W i d)
  | 0,i,h=>Ev.step (f:=fun _=>some true) (fun k=>by rw [conflict_Check.l0,if_neg (by omega)]) (Ev.now _)
  | d+1,i,h=>by
    have hln:=sub_len l s
    have hi:i<s.length:=by omega
    have hw:=wrap_succ i s.length hi (by omega)
    have ih:=dwok_loop hS hs hl hW d (i+1) (by omega)
    have hd:=del_at (t:=sub l s) (by omega) (i:=i) (by omega)
    rw [sub_erase] at hd
    have h1:(sub l (s.eraseIdx i)).length≤1000:=by rw [sub_len,List.length_eraseIdx_of_lt hi];omega
    rw [wok_succ]
    refine Ev.step (f:=fun k=>(solve_Holds.f k (sub l (s.eraseIdx i)) (rd W i)).bind fun t80=>if t80=true then conflict_Check.l0 k (sub l s) W (W.length:Int) (wrap64 ((i:Int)+1)) else some false) (fun k=>?_) ?_
    · rw [conflict_Check.l0,if_pos (by omega),if_pos (by omega),if_pos (by omega),← Option.bind_assoc,hd,Option.bind_some]
    · refine Ev.bind (dhold_ev _ (Sm_sub hS (chn_erase hs i)) h1 _) ?_
      rw [hw]
      cases hld (sub l (s.eraseIdx i)) (rd W i) with
      | true=>exact ev_pos rfl ih
      | false=>exact ev_neg (by decide) (Ev.now _)
theorem dchkC_ev (l:List S49) (hS:Sm l) (hl:l.length≤1000) (s:List Int) (hs:s.length≤1000) (N:List S96) (W:List Int):Ev (fun k=>conflict_Check.f k l s N W) (chkC l s N W):=by
  refine Ev.bind (cvalid_ev l hS hl) ?_
  unfold chkC
  refine ev_ite (fun _=>Ev.bind (ascn_ev l.length s hs) ?_) (fun _=>Ev.now _)
  by_cases e:ok0 (chk l.length none s)=true
  · rw [if_pos e]
    have hc:=(chk_Chn _ _ _).1 ((ok0_iff _).1 e)
    refine ev_pos e (ev_ite (fun hW=>Ev.bind (system_ev l hc hs) (Ev.bind (scheck_ev _ (Sm_sub hS hc) (by rw [sub_len];omega) _) (ev_ite (fun _=>?_) (fun _=>Ev.now _)))) (fun _=>Ev.now _))
    exact dwok_loop hS hc hs (by omega) s.length 0 (by omega)
  · rw [if_neg e];exact ev_neg e (Ev.now _)
def pok (l:List S49) (L:List (List Int)) (P:List Int) (i d:Nat):Bool:=(List.range' i d).all fun j=>hld (sub l (rd_L1 L j)) (rd P j)
theorem pok_succ (l:List S49) (L:List (List Int)) (P:List Int) (i d:Nat):pok l L P i (d+1)=(hld (sub l (rd_L1 L i)) (rd P i)&&pok l L P (i+1) d):=by unfold pok;rw [List.range'_succ,List.all_cons]
def chkS (l:List S49) (s:List Int) (N:List S96) (W P:List Int):Bool:=if chkC l s N W=true then (if (s.length:Int)=0 then false else (if (cmb l.length (s.length - 1) 0).length=P.length then pok l (cmb l.length (s.length - 1) 0) P 0 P.length else false)) else false
theorem dpok_loop {l:List S49} (hS:Sm l) (h16:l.length≤16) {L:List (List Int)} (hL:∀ s,s∈L→Chn (l.length:Int) none s) (hLl:L.length≤100000) {P:List Int} (hP:L.length=P.length):∀ (d i:Nat),i+d=P.length→Ev (fun k=>conflict_CheckSmallest.l0 k l P L (L.length:Int) i) (pok l L P i d)
  | 0,i,h=>Ev.step (f:=fun _=>some true) (fun k=>by rw [conflict_CheckSmallest.l0,if_neg (by omega)]) (Ev.now _)
  | d+1,i,h=>by
    have hi:i<L.length:=by omega
    have hw:=wrap_succ i L.length hi (by omega)
    have ih:=dpok_loop hS h16 hL hLl hP d (i+1) (by omega)
    have hc:=hL _ (rdL_mem L i hi)
    have hln:=chn_small (n:=l.length) (by omega) hc
    rw [pok_succ]
    refine Ev.step (fun k=>by rw [conflict_CheckSmallest.l0,if_pos (by omega),if_pos (by omega),if_pos (by omega),hw]) ?_
    refine Ev.bind (system_ev l hc (by omega)) (ev_pos (by omega) (Ev.bind (dhold_ev _ (Sm_sub hS hc) (by rw [sub_len];omega) _) ?_))
    cases hld (sub l (rd_L1 L i)) (rd P i) with
    | true=>exact ev_pos rfl ih
    | false=>exact ev_neg (by decide) (Ev.now _)
theorem cmb_small {n:Nat} (h:n≤16) (s:Nat):(cmb n s 0).length≤100000:=Nat.le_trans (cmb_len n s 0) (Nat.le_trans (Nat.pow_le_pow_right (by decide) h) (by decide))
theorem dchkS_ev (l:List S49) (hS:Sm l) (hl:l.length≤1000) (s:List Int) (hs:s.length≤1000) (N:List S96) (W P:List Int):Ev (fun k=>conflict_CheckSmallest.f k l s N W P) (chkS l s N W P):=by
  refine Ev.bind (dchkC_ev l hS hl s hs N W) ?_
  unfold chkS
  refine ev_ite (fun hC=>ev_ite (fun _=>Ev.now _) (fun h0=>?_)) (fun _=>Ev.now _)
  have h12:l.length≤12:=by
    unfold chkC at hC
    by_cases e:cvl l=0
    · exact (cvl_VS e).2
    · rw [if_neg e] at hC;cases hC
  have hw:wrap64 ((s.length:Int) - 1)=((s.length - 1:Nat):Int):=by rw [w64_in _ (by omega)];omega
  rw [hw]
  refine Ev.bind (sets_ev l.length (by omega) (s.length - 1) (by omega)) ?_
  by_cases e:(cmb l.length (s.length - 1) 0).length=P.length
  · rw [if_pos e]
    exact ev_pos (by omega) (dpok_loop hS (by omega) (fun t ht=>cmb_in ht) (cmb_small (by omega) _) e P.length 0 (by omega))
  · rw [if_neg e];exact ev_neg (by omega) (Ev.now _)
theorem low_sorted (n:Nat) (P:List Int→Bool):∀ k,(low n P k).Pairwise fun a b=>a.length≤b.length
  | 0=>List.Pairwise.nil
  | k+1=>by
    rw [low_succ,List.pairwise_append]
    refine ⟨low_sorted n P k,?_,fun a ha b hb=>?_⟩
    · rw [List.pairwise_iff_forall_sublist]
      intro a b hab
      have ha:=(mem_cmb _ _ _ _).1 ((List.mem_filter.1 (hab.subset (List.mem_cons_self))).1)
      have hb:=(mem_cmb _ _ _ _).1 ((List.mem_filter.1 (hab.subset (List.mem_cons_of_mem _ List.mem_cons_self))).1)
      omega
    · have h1:=((mem_low n P k a).1 ha).1
      have h2:=(mem_cmb _ _ _ _).1 ((List.mem_filter.1 hb).1)
      omega
theorem head_min {n:Nat} {P:List Int→Bool} {o:List Int} (ho:o∈lst n P):(rd_L1 (lst n P) 0).length≤o.length:=by
  have h:=low_sorted n P (n+1)
  unfold lst at ho ⊢
  cases hc:low n P (n+1) with
  | nil=>rw [hc] at ho;cases ho
  | cons s r=>
    rw [hc] at h ho
    show s.length≤o.length
    rcases List.mem_cons.1 ho with rfl|ho
    · exact Nat.le_refl _
    · exact (List.pairwise_cons.1 h).1 o ho
theorem fst1_hld {m:List S49} (h:VS m) (hf:(fst1 m).2=0):hld m (fst1 m).1=true:=by
  unfold fst1 at hf ⊢
  rw [if_pos ((sysv_VS m).2 h)] at hf ⊢
  cases hq:SS m with
  | nil=>rw [hq] at hf;exact absurd hf (by decide)
  | cons a r=>exact SS_hld h (by rw [hq];exact List.mem_cons_self)
theorem under_ok {l:List S49} {t:List Int} (ht:Chn (l.length:Int) none t) (hlen:t.length<(rd_L1 (lst l.length (bad l)) 0).length):bad l t=false:=by
  by_cases e:bad l t=true
  · obtain ⟨o,ho,hm⟩:=mini_in (bad l) t.length t rfl e
    have h1:o∈lst l.length (bad l):=(mem_lst _ _ _).2 ⟨ht.sub ho,hm⟩
    have h2:=head_min h1
    have h3:=ho.length_le
    omega
  · simpa using e
theorem bad_fst {l:List S49} {t:List Int} (h:bad l t=false):(fst1 (sub l t)).2=0:=by unfold bad at h;simpa using h
theorem bad_nil {l:List S49}:bad l []=false:=by
  have h:VS ([]:List S49):=⟨by simp,fun t ht=>by cases ht⟩
  unfold bad
  show ((fst1 []).2 != 0)=false
  rw [(fst1_err h).2 ⟨0,rfl⟩]
  rfl
theorem ots_ok (l:List S49):∀ (L:List (List Int)) (out:List Int),(∀ t,t∈L→(fst1 (sub l t)).2=0)→ots l L out=(out++L.map (fun t=>(fst1 (sub l t)).1),0)
  | [],out,_=>by rw [ots];simp
  | t :: L,out,h=>by
    rw [ots,if_pos (h t List.mem_cons_self),ots_ok l L _ (fun u hu=>h u (List.mem_cons_of_mem _ hu)),List.append_assoc]
    rfl
theorem smr_len (l:List S49) (s:List Int) (i d:Nat):(smr l s i d).length=d:=by simp [smr]
theorem smr_at (l:List S49) (s:List Int) {j d:Nat} (h:j<d):rd (smr l s 0 d) (j:Int)=(fst1 (sub l (s.eraseIdx j))).1:=by
  have h1:=rd_at (smr l s 0 d) j (by rw [smr_len];exact h)
  have h2:(smr l s 0 d)[j]?=some (rd (smr l s 0 d) (j:Int)):=by
    have h3:((smr l s 0 d).drop j)[0]?=some (rd (smr l s 0 d) (j:Int)):=by rw [h1];rfl
    rwa [List.getElem?_drop,Nat.add_zero] at h3
  have h4:(smr l s 0 d)[j]?=some (fst1 (sub l (s.eraseIdx j))).1:=by
    unfold smr
    rw [List.getElem?_map,List.getElem?_range' h]
    simp
  rw [h4] at h2
  exact (Option.some.inj h2).symm
theorem map_at (l:List S49) (L:List (List Int)) {j:Nat} (h:j<L.length):rd (L.map fun t=>(fst1 (sub l t)).1) (j:Int)=(fst1 (sub l (rd_L1 L j))).1:=by
  have h1:=rd_at (L.map fun t=>(fst1 (sub l t)).1) j (by rw [List.length_map];exact h)
  have h2:(L.map fun t=>(fst1 (sub l t)).1)[j]?=some (rd (L.map fun t=>(fst1 (sub l t)).1) (j:Int)):=by
    have h3:((L.map fun t=>(fst1 (sub l t)).1).drop j)[0]?=some (rd (L.map fun t=>(fst1 (sub l t)).1) (j:Int)):=by rw [h1];rfl
    rwa [List.getElem?_drop,Nat.add_zero] at h3
  have h5:L[j]?=some (rd_L1 L j):=by
    have h6:(L.drop j)[0]?=some (rd_L1 L j):=by rw [rdL_at L j h];rfl
    rwa [List.getElem?_drop,Nat.add_zero] at h6
  rw [List.getElem?_map,h5] at h2
  exact (Option.some.inj h2).symm
theorem sml_ok {l:List S49} (hz:(sml l).2.2.2=0):chkC l (sml l).1 (sml l).2.1 (sml l).2.2.1=true∧1≤(sml l).1.length∧(sml l).1.length≤l.length∧l.length≤12∧(oth1 l (((sml l).1.length:Int) - 1)).2=0∧chkS l (sml l).1 (sml l).2.1 (sml l).2.2.1 (oth1 l (((sml l).1.length:Int) - 1)).1=true:=by
  unfold sml at hz ⊢
  by_cases e:(crs l).2=0
  · rw [if_pos e] at hz ⊢
    by_cases en:((crs l).1.length:Int)=0
    · rw [if_pos en] at hz;exact absurd hz (by decide)
    · rw [if_neg en] at hz ⊢
      by_cases er:(rfu (sub l (rd_L1 (crs l).1 0))).2=0
      · rw [if_pos er] at hz ⊢
        obtain ⟨hv,h12,hc,e1,hm⟩:=crs_first e en
        obtain ⟨hch,hbad,hf⟩:=lst_fst hv hm
        have hln:=chn_small (n:=l.length) (by omega) hch
        have hund:∀ t,Chn (l.length:Int) none t→t.length<(rd_L1 (crs l).1 0).length→bad l t=false:=fun t ht hlt=>under_ok ht (by rw [e1] at hlt;exact hlt)
        generalize rd_L1 (crs l).1 0=s at er hch hbad hf hln hund ⊢
        show chkC l s (rfu (sub l s)).1 (smr l s 0 s.length)=true∧1≤s.length∧s.length≤l.length∧l.length≤12∧(oth1 l ((s.length:Int) - 1)).2=0∧chkS l s (rfu (sub l s)).1 (smr l s 0 s.length) (oth1 l ((s.length:Int) - 1)).1=true
        have h1:1≤s.length:=by
          cases s with
          | nil=>rw [bad_nil] at hbad;cases hbad
          | cons _ _=>simp
        have hC:chkC l s (rfu (sub l s)).1 (smr l s 0 s.length)=true:=by
          unfold chkC
          rw [if_pos hc,if_pos ((ok0_iff _).2 ((chk_Chn _ _ _).2 hch)),if_pos (by rw [smr_len]),if_pos (rfu_chk er)]
          unfold wok
          rw [List.all_eq_true]
          intro j hj
          have hj2:j<s.length:=by rw [List.mem_range'_1] at hj;omega
          rw [smr_at l s hj2]
          exact fst1_hld (sub_VS hv (chn_erase hch j)) (hf j hj2)
        have hL:∀ t,t∈cmb l.length (s.length - 1) 0→Chn (l.length:Int) none t∧(fst1 (sub l t)).2=0:=fun t ht=>by
          have h2:=(mem_cmb _ _ _ _).1 ht
          have h3:=cmb_in ht
          exact ⟨h3,bad_fst (hund t h3 (by omega))⟩
        have hO:oth1 l ((s.length:Int) - 1)=((cmb l.length (s.length - 1) 0).map (fun t=>(fst1 (sub l t)).1),0):=by
          unfold oth1
          rw [if_pos hc,if_neg (by omega),if_neg (by omega),show ((s.length:Int) - 1).toNat=s.length - 1 by omega,ots_ok l _ _ (fun t ht=>(hL t ht).2)]
          rfl
        rw [hO]
        refine ⟨hC,h1,hln,h12,rfl,?_⟩
        unfold chkS
        rw [if_pos hC,if_neg (by omega),if_pos (by rw [List.length_map])]
        unfold pok
        rw [List.all_eq_true]
        intro j hj
        have hj2:j<(cmb l.length (s.length - 1) 0).length:=by rw [List.mem_range'_1,List.length_map] at hj;omega
        rw [map_at l _ hj2]
        obtain ⟨h4,h5⟩:=hL _ (rdL_mem _ j hj2)
        exact fst1_hld (sub_VS hv h4) h5
      · rw [if_neg er] at hz;exact absurd hz er
  · rw [if_neg e] at hz;exact absurd hz e
theorem sml_small (l:List S49):(sml l).1.length≤1000∧(sml l).2.1.length≤3000∧(sml l).2.2.1.length≤1000:=by
  unfold sml
  by_cases e:(crs l).2=0
  · rw [if_pos e]
    by_cases en:((crs l).1.length:Int)=0
    · rw [if_pos en];exact ⟨by simp,by simp,by simp⟩
    · rw [if_neg en]
      obtain ⟨hv,h12,hc,e1,hm⟩:=crs_first e en
      have hln:=chn_small (n:=l.length) (by omega) (lst_fst hv hm).1
      have hr:=rfu_len (sub l (rd_L1 (crs l).1 0))
      by_cases er:(rfu (sub l (rd_L1 (crs l).1 0))).2=0
      · rw [if_pos er]
        refine ⟨by show (rd_L1 (crs l).1 0).length≤1000;omega,by show (rfu (sub l (rd_L1 (crs l).1 0))).1.length≤3000;omega,?_⟩
        show (smr l (rd_L1 (crs l).1 0) 0 (rd_L1 (crs l).1 0).length).length≤1000
        rw [smr_len];omega
      · rw [if_neg er];exact ⟨by simp,by simp,by simp⟩
  · rw [if_neg e];exact ⟨by simp,by simp,by simp⟩
theorem samecore_ev (s:List Int) (N:List S96) (W:List Int) (h1:s.length≤1000) (h2:N.length≤3000) (h3:W.length≤1000):Ev (fun k=>ancepsref42_SameCore.f k s N W s N W) true:=
  Ev.bind (rints_ev s (by omega)) (ev_pos rfl (Ev.bind (nsame_ev N h2) (ev_pos rfl (Ev.bind (rints_ev W (by omega)) (Ev.now _)))))

theorem conflictSmallest_ev (l:List S49):Ev (fun k=>ancepslaw42_ConflictSmallest.f k l) true:=by
  obtain ⟨b,hb,hq⟩:=cfew_ev l
  refine Ev.bind awake_ev (ev_pos rfl (Ev.bind hb ?_))
  cases b with
  | false=>exact ev_neg (by simp) awake_bind
  | true=>
    obtain ⟨hS,h18⟩:=hq rfl
    have hl:l.length≤1000:=by omega
    obtain ⟨s1,s2,s3⟩:=sml_small l
    have sc:=samecore_ev (sml l).1 (sml l).2.1 (sml l).2.2.1 s1 s2 s3
    refine ev_pos rfl (Ev.bind (copied_ev l hS hl) (Ev.bind (dsml_ev l hS hl) (Ev.bind (rsml_ev l hS hl) (ev_pos rfl (Ev.bind sc (ev_pos rfl ?_))))))
    by_cases z:(sml l).2.2.2=0
    · obtain ⟨k1,k2,k3,k4,k5,k6⟩:=sml_ok z
      have hw:wrap64 (((sml l).1.length:Int) - 1)=((sml l).1.length:Int) - 1:=w64_in _ (by omega)
      refine ev_pos z ?_
      rw [hw]
      exact Ev.bind (dothers_ev l hS hl _) (ev_pos k5 (Ev.bind (ev_eq (dchkC_ev l hS hl _ s1 _ _) k1) (ev_pos rfl (Ev.bind (ev_eq (dchkS_ev l hS hl _ s1 _ _ _) k6) (Ev.now _)))))
    · exact ev_neg z (Ev.bind sc (Ev.now _))
theorem ConflictSmallest (l0:List (S49)) (w_l0:∀ x,x∈l0→(∀ y,y∈x.f0→(Lit.int .i64 y).wf=true)∧(∀ y,y∈x.f1→(Lit.int .i64 y).wf=true)):∃ k,B.ancepslaw42_ConflictSmallest.f k l0=some true:=ev_rounds (conflictSmallest_ev l0)

end Go.Proofs.YtkjghablbeaioaaGreat.Pure
