import Derived.Test.YtngpkbbljnbojaaGreatL0
import Derived.Test.YtngpkbbljnbojaaGreatL1
import Derived.Test.YtngpkbbljnbojaaGreatL2
import Derived.Test.YtngpkbbljnbojaaGreatL4
import Derived.Test.YtngpkbbljnbojaaGreatL6
import Derived.Test.YtngpkbbljnbojaaGreatL8
namespace Go.Proofs.YtngpkbbljnbojaaGreat.L
open Go.RowKit Go.Proofs.YtngpkbbljnbojaaGreatW.PrintWords Go.Proofs.YtngpkbbljnbojaaGreatW.PrintLast Go.Proofs.YtngpkbbljnbojaaGreatW.PrintMore
attribute [local go_sem] max2_int min2_int max_two min_two max_three min_three max_four min_four Tryz.underlying22 Tryz.underlying3 Tryz.underlying4 Tryz.underlying53 Tryz.underlying63
set_option linter.unusedVariables false
set_option linter.unusedSimpArgs false
attribute [local go_sem high] eqA53
def slices_IndexFunc_int_int_shared_Linked_1.l0:Nat→List Int→Int→Int→List (S63)→Option (Int)
 | 0,_,_,_,_=>none
 | k+1,x0,x7,x8,x92=>if x8<x7 then (if 0≤x8 then (if x8<(x0.length:Int) then ((shared_Linked_1_v1.f k (rd x0 x8) x92).bind fun t74=>(if t74=true then (some x8) else (slices_IndexFunc_int_int_shared_Linked_1.l0 k x0 x7 (wrap64 (x8+1)) x92))) else (none)) else (none)) else (some (-1))
def slices_IndexFunc_int_int_shared_Linked_1.f (k:Nat) (l0:List Int) (l1_0:List (S63)):Option (Int):=slices_IndexFunc_int_int_shared_Linked_1.l0 k l0 (l0.length:Int) 0 l1_0
set_option maxHeartbeats 8000000 in
set_option maxRecDepth 100000 in
theorem slices_IndexFunc_int_int_shared_Linked_1.calls (k:Nat) (A0:Option Addr) (c0:Nat) (l0:List Int) (gp1_0:Nat) (A1_0:Option Addr) (c1_0:Nat) (l1_0:List (S63)) (r:Int) (w:World) (hr0:Kd.C (Kd.int .i64) w A0 l0.length l0) (hc0:l0.length≤c0) (hr1_0:Kd.C k63 w A1_0 l1_0.length l1_0) (hc1_0:l1_0.length≤c1_0) (hb_gp1_0:w.heap[gp1_0]?=some (.cells #[.slice A1_0 l1_0.length c1_0] 22 (0,0))) (h:slices_IndexFunc_int_int_shared_Linked_1.f k l0 l1_0=some r) :
  Calls Tryz.prog 94 #[.slice A0 l0.length c0,.func (.func 57) #[] #[.pointer (some ⟨gp1_0,0,none⟩)]] w fun e w'=>e=.returned (.int .i64 r)∧Below w.heap.size w w':=by
 have HR0:=zA hr0;have HC0:=zA hc0;clear hr0 hc0;have HR1_0:=zA hr1_0;have HC1_0:=zA hc1_0;clear hr1_0 hc1_0;have BK65:=zA hb_gp1_0;clear hb_gp1_0;have HB:=zA (Below.refl w.heap.size w);have H:(slices_IndexFunc_int_int_shared_Linked_1.l0 k l0 (l0.length:Int) 0 l1_0)=some r:=h;clear h;have H':=zA H;clear H
 go_enter Tryz.func94,Tryz.ntmps94
 go_wp2
 go_loopg [8] k (fun kq v8 w'=>∃ (x8_1:Int),v8=.int .i64 x8_1∧Aside0 (slices_IndexFunc_int_int_shared_Linked_1.l0 kq l0 (l0.length:Int) x8_1 l1_0=some r)∧Aside0 (kq≤k)∧Aside0 (w'.heap[gp1_0]?=some (.cells #[(.slice A1_0 l1_0.length c1_0)] 22 (0,0)))∧Aside0 (Below w.heap.size w w'))
 case atStart=>exact ⟨(0),zT,H',⟨Nat.le_refl _⟩,⟨by refine zj ?_;exact BK65.out⟩,⟨zv0 HB⟩⟩
 case round=>
  clear H';obtain ⟨x8_1,rfl,HA,HK1,BK65,HB⟩:=hrel
  cases gk with
  | zero=>exact absurd HA.out (by simp [slices_IndexFunc_int_int_shared_Linked_1.l0])
  | succ k1=>
   have H:=HA.out;clear HA;simp only [slices_IndexFunc_int_int_shared_Linked_1.l0] at H
   rcases ifd H with ⟨c3b0,H⟩|⟨c3b0,H⟩
   ·obtain ⟨c4b0,H⟩:=ifd1 H;obtain ⟨c5b0,H⟩:=ifd1 H;obtain ⟨t74,A6,H⟩:=zo H;have HC7:=zA H;clear H;obtain ⟨p73,q73,ad73,e73,hx73_0⟩:=zp (Kd.at_int HR0.out x8_1)
    cases e73
    replace hx73_0:=zd HB hx73_0;replace p73:=eq_true p73;replace q73:=eq_true q73
    go_upto_if 16 with (first|(go_at_call 57;(with_reducible refine (shared_Linked_1_v1.calls k1 (rd l0 x8_1) gp1_0 A1_0 c1_0 l1_0 t74 _ (zD HR1_0 HB) HC1_0.out ?side3 A6.out).mono ?_);(case side3=>refine zj ?_;exact BK65.out);rintro e w8 ⟨rfl,hb⟩;replace BK65:=zw BK65 hb;replace HB:=zu hb;clear hb))
    (try simp only [Act.put,zi,zs,zt]);have H:=HC7.out;clear HC7
    by_cases c9:t74=true
    ·subst c9
     have H1:(some x8_1)=some r:=by rw [if_pos rfl] at H;exact H
     clear H;have H:=H1;clear H1;obtain rfl:=Option.some.inj H
     go_wp2
     go_ret
     exact ⟨ze,zv0 HB⟩
    ·replace c9:=Bool.eq_false_iff.mpr c9;subst c9
     have H1:(slices_IndexFunc_int_int_shared_Linked_1.l0 k1 l0 (l0.length:Int) (wrap64 (x8_1+1)) l1_0)=some r:=by rw [if_neg (show ¬ (false=true) by decide)] at H;exact H
     clear H;have H:=H1;clear H1;have H':=zA H;clear H
     go_wp2
     go_roundg k1
     case measure=>have:=HK1.out;omega
     case rel=>exact ⟨(wrap64 (x8_1+1)),zT,H',⟨by have:=HK1.out;omega⟩,⟨by refine zj ?_;exact BK65.out⟩,⟨zv0 HB⟩⟩
   ·obtain rfl:=Option.some.inj H
    go_wp2
    go_ret
    exact ⟨ze,zv0 HB⟩
section
open Go.Lib Go.Sort Go.Shelf
/-- What is left of a list behind a first element that was struck. -/
def delF (p:Int→Option Bool):List Int→Option (List Int)
 | []=>some []
 | x :: xs=>(p x).bind fun b=>(delF p xs).bind fun r=>some (if b=true then r else x :: r)
theorem kept_trans {w w1 w2:World} {S:Nat→Prop} (h:Kept w w1 S) (hb:Below w1.heap.size w1 w2):Kept w w2 S:=⟨Nat.le_trans h.1 hb.size,fun i hi hn=>(hb.block i (Nat.lt_of_lt_of_le hi h.1)).trans (h.2 i hi hn)⟩
theorem kept_set {w w1:World} {S:Nat→Prop} (h:Kept w w1 S) {g:Nat} (hg:S g) (j:Nat) (u:Value):Kept w (w1.setCell ⟨g,j,none⟩ u) S:=⟨by simpa [World.setCell] using h.1,fun i hi hn=>(Below.heap_setCell w1 ⟨g,j,none⟩ u i (fun e=>hn (e ▸ hg))).trans (h.2 i hi hn)⟩
theorem kept_cells {w:World} {S:Nat→Prop} {g:Nat} (hg:S g):∀ (vs:List Value) (j:Nat) (w1:World),Kept w w1 S→Kept w (w1.setCells g j vs) S
 | [],_,_,h=>h
 | v :: vs,j,w1,h=>kept_cells hg vs (j+1) _ (kept_set h hg j v)
theorem set_take (l:List Int) (i:Nat) (u:Int) (h:i<l.length):(l.set i u).take (i+1)=l.take i++[u]:=by
 rw [List.set_eq_take_append_cons_drop,if_pos h,List.take_append,List.length_take,Nat.min_eq_left (by omega),List.take_of_length_le (by rw [List.length_take];omega),show i+1 - i=1 by omega];rfl
theorem delF_cons {p:Int→Option Bool} {x:Int} {xs r:List Int} (h:delF p (x :: xs)=some r):∃ b r',p x=some b∧delF p xs=some r'∧r=if b=true then r' else x :: r':=by
 rw [delF] at h;obtain ⟨b,h1,h2⟩:=Option.bind_eq_some_iff.1 h;obtain ⟨r',h3,h4⟩:=Option.bind_eq_some_iff.1 h2;exact ⟨b,r',h1,h3,(Option.some.inj h4).symm⟩
theorem own_behindI {e base size n cap g:Nat} {w:World} {xs vs:List Value} (h:w.ownsRow base e size (.slice (some ⟨g,0,none⟩) n cap) n xs) (o:Nat) (ho:n * size≤o) (hv:o+vs.length≤cap * size):(w.setCells g o vs).ownsRow base e size (.slice (some ⟨g,0,none⟩) n cap) n xs:=by
 refine ⟨h.1,?_⟩
 rcases h.2 with ⟨h2,_⟩|⟨g',cap',cur,h1,h2,h3,h4,h5,h6,h7⟩
 ·cases h2
 ·injection h1 with h1 _ h1c
  injection h1 with h1
  injection h1 with h1
  subst h1 h1c;obtain ⟨cur',k1,k2,k3⟩:=setCells_row vs o w cur h3 (by omega);refine .inr ⟨g,cap,cur',rfl,h2,k1,h4,h5,by rw [k2];exact h6,?_⟩;rw [k3,List.append_assoc,List.take_append_of_le_length (by rw [List.length_take,Array.length_toList];omega),List.take_take,Nat.min_eq_left ho];exact h7
theorem below_cells {B:Nat} {w0 w1:World} (h:Below B w0 w1) {g:Nat} (hg:B≤g) (vs:List Value) (o:Nat):Below B w0 (w1.setCells g o vs):=by
 obtain ⟨s1,s2,s3,s4⟩:=setCells_same g vs o w1;exact ⟨by rw [s1];exact h.os,by rw [s2];exact h.tape,by rw [s3];exact h.output,by rw [s4];exact h.size,fun k hk=>(setCells_far _ _ k (by omega)).trans (h.block k hk)⟩
theorem int_cut {e base g i n c:Nat} {w:World} {P0_:Nat→Prop} {xs:List Int} (h:Kd.R (Kd.int .i64) e w base P0_ (.slice (some ⟨g,0,none⟩) n c) xs) (hi:i≤n):Kd.R (Kd.int .i64) e (w.setCells g i (List.replicate (n - i) (.int .i64 0))) base P0_ (.slice (some ⟨g,0,none⟩) i c) (xs.take i):=by
 have hn:n=xs.length:=(int_row h).2.2.2.1;have hc:xs.length≤c:=(int_row h).2.2.2.2.1;subst hn;have h1:=Kd.R_take h hi;have ho:=Kd.own_of_R (enc:=Value.int .i64) (h1:=fun _=>rfl) h1
 have hl:(xs.take i).length=i:=by rw [List.length_take];omega
 rw [hl] at ho;refine Kd.R_of_own (enc:=Value.int .i64) (h1:=fun _=>rfl) ?_ h1.1;rw [hl];exact own_behindI ho i (by omega) (by rw [List.length_replicate];omega)
set_option maxHeartbeats 4000000 in
set_option maxRecDepth 1000000 in
theorem deleteFunc_makes {P:Program} {ρ:Ren} (L:SlLaysH.n10 P ρ) (gf:Nat) (lb:Array Value) (eg:∀ args w,(callFunc gf args).run P w=.ok (.enter gf args) w) (pv:Int→Option Bool) {e base g c n i0:Nat} {P0_:Nat→Prop} {xs t:List Int} {w w0:World} (v23:∀ w,(zeroValue (ρ.t 23)).run P w=.ok (.int .i64 0) w)
  (hB:Below base w0 w) (hR:Kd.R (Kd.int .i64) e w base P0_ (.slice (some ⟨g,0,none⟩) n c) xs) (hi:i0<n) (hn:n≤9223372036854775807)
  (hIF:Calls P (ρ.f 6) #[.slice (some ⟨g,0,none⟩) n c,.func (.func gf) #[] lb] w fun e w'=>e=.returned (.int .i64 (i0:Int))∧Below w.heap.size w w')
  (hp:∀ (W:World) (x:Int) (b:Bool),Kept w W P0_→pv x=some b→Calls P gf (#[.int .i64 x]++lb) W fun e w'=>e=.returned (.bool b)∧Below W.heap.size W w')
  (ht:delF pv (xs.drop (i0+1))=some t) :
  Calls P (ρ.f 10) #[.slice (some ⟨g,0,none⟩) n c,.func (.func gf) #[] lb] w fun e_ w'=>e_=.returned (.slice (some ⟨g,0,none⟩) (i0+t.length) c)∧Kd.R (Kd.int .i64) e w' base P0_ (.slice (some ⟨g,0,none⟩) (i0+t.length) c) (xs.take i0++t)∧Below base w0 w'∧Kept w w' P0_:=by
 have mixed:=L.mixed;have t0:=L.t0;have a0:=L.a0;have z0:=L.z0;have v0:=L.v0;have t3:=L.t3;have a3:=L.a3;have z3:=L.z3;have v3:=L.v3;have t4:=L.t4;have a4:=L.a4;have z4:=L.z4;have v4:=L.v4;have t22:=L.t22;have a22:=L.a22;have z22:=L.z22;have v22:=L.v22;have a23:=L.a23;have z23:=L.z23;have t25:=L.t25;have a25:=L.a25;have z25:=L.z25;have v25:=L.v25;have e6:∀ args w,(callFunc (ρ.f 6) args).run P w=.ok (.enter (ρ.f 6) args) w:=L.f6.enters rfl;obtain ⟨hg1,hg2,hg3,hg4,hg5,hg6,hg7⟩:=int_row hR;have hne1:((i0:Int) == -1)=false:=beq_eq_false_iff_ne.2 (by omega)
 have hic:n≤c:=by omega
 have F0:Aside0 (Kd.R (Kd.int .i64) e w base P0_ (.slice (some ⟨g,0,none⟩) n c) xs∧Below base w0 w∧P0_ g∧base≤g∧g<w.heap.size∧xs.length=n∧delF pv (xs.drop (i0+1))=some t):=⟨hR,hB,hg1,hg2,hg3,hg4.symm,ht⟩
 have HP:=zA hp;clear hR hB hg1 hg2 hg3 hg4 hg5 hg6 hg7 ht hp;obtain ⟨_,_,FG⟩:=L.f10
 go_enter FG,SlBodyH.n10_ntmps ρ
 go_wp2_with (go_at_fn (ρ.f 6);refine hIF.mono ?_;rintro e w1 ⟨rfl,hb1⟩)
 go_loopg [5,6,7] n (fun gg s5 s6 _ wr=>∃ (i j:Nat) (dk:List Int) (rest:List Int),s5=.int .i64 i∧s6=.int .i64 j∧j≤n∧i<j∧n - j≤gg∧Aside0 (Kd.R (Kd.int .i64) e wr base P0_ (.slice (some ⟨g,0,none⟩) n c) dk∧Below base w0 wr∧Kept w wr P0_∧dk.length=n∧dk.drop j=xs.drop j∧delF pv (xs.drop j)=some rest∧dk.take i++rest=xs.take i0++t))
 case atStart=>
  obtain ⟨f1,f2,f3,f4,f5,f6,f7⟩:=F0.out;exact ⟨i0,i0+1,xs,t,rfl,by go_num,by omega,by omega,by omega,⟨Kd.R_below f1 hb1,f2.trans (hb1.mono (by omega)),kept_trans ⟨Nat.le_refl _,fun _ _ _=>rfl⟩ hb1,f6,rfl,f7,rfl⟩⟩
 case round=>
  obtain ⟨i,j,dk,rest,rfl,rfl,hjn,hij,hgg,F⟩:=hrel;obtain ⟨f1,f2,f3,f4,f5,f6,f7⟩:=F0.out
  by_cases hlt:j<n
  ·have hltz:(j:Int)<(n:Int):=by omega
   obtain ⟨u,b,r',hu,hpv,hr',hrest,hcell⟩:∃ u b r',xs.drop j=u :: xs.drop (j+1)∧pv u=some b∧delF pv (xs.drop (j+1))=some r'∧(rest=if b=true then r' else u :: r')∧wr.cell? ⟨g,j,none⟩=some (.int .i64 u):=by
    obtain ⟨q1,q2,q3,q4,q5,q6,q7⟩:=F.out;have hx:xs.drop j=xs[j] :: xs.drop (j+1):=List.drop_eq_getElem_cons (by omega);have h2:=q6;rw [hx] at h2;obtain ⟨b,r',k1,k2,k3⟩:=delF_cons h2;refine ⟨xs[j],b,r',hx,k1,k2,k3,?_⟩;have hh:=((int_row q1).2.2.2.2.2.2 j (by simpa using (show j<dk.length by omega))).1;rw [Nat.zero_add] at hh;rw [hh]
    have hd:dk[j]'(by omega)=xs[j]:=by
     have h3:=q5;rw [List.drop_eq_getElem_cons (by omega),hx] at h3;exact (List.cons.inj h3).1
    rw [getElem!_pos dk.toArray j (by simpa using (show j<dk.length by omega))]
    simpa using hd
   have hcall:=HP.out wr u b F.out.2.2.1 hpv
   have FF:Aside0 (xs.drop j=u :: xs.drop (j+1)∧delF pv (xs.drop (j+1))=some r'∧(rest=if b=true then r' else u :: r')):=⟨hu,hr',hrest⟩
   clear hu hpv hr' hrest f1 f2 f3 f4 f5 f6 f7
   cases b with
   | false=>
    go_wp2_with (go_at_fn gf;refine hcall.mono ?_;rintro e w2 ⟨rfl,hb2⟩;obtain ⟨ci,fi⟩:w2.cell? ⟨g,i,none⟩=some (.int .i64 dk.toArray[i]!)∧w2.frozen? ⟨g,i,none⟩=false:=(by have hh:=(int_row (Kd.R_below F.out.1 hb2)).2.2.2.2.2.2 i (by simpa using (show i<dk.length by have:=F.out.2.2.2.1;omega));rw [Nat.zero_add] at hh;exact hh))
    go_roundg (n - (j+1))
    case measure=>omega
    case rel=>
     obtain ⟨q1,q2,q3,q4,q5,q6,q7⟩:=F.out;obtain ⟨p1,p2,p3⟩:=FF.out;obtain ⟨f1,f2,f3,f4,f5,f6,f7⟩:=F0.out;have hw2:=q3.1;have hput:=Kd.R_putn (Kd.R_below q1 hb2) (i:Int) u;rw [Int.toNat_natCast] at hput;refine ⟨i+1,j+1,dk.set i u,r',by go_num,by go_num,by omega,by omega,Nat.le_refl _,⟨hput,(q2.trans (hb2.mono (by omega))).setCell f4 _,kept_set (kept_trans q3 hb2) f3 i _,by rw [List.length_set];exact q4,?_,p2,?_⟩⟩
     ·rw [List.drop_set_of_lt (by omega)];rw [List.drop_eq_getElem_cons (by omega),p1] at q5;exact (List.cons.inj q5).2
     ·rw [set_take _ _ _ (by omega),List.append_assoc,← q7,p3];rfl
   | true=>
    go_wp2_with (go_at_fn gf;refine hcall.mono ?_;rintro e w2 ⟨rfl,hb2⟩)
    go_roundg (n - (j+1))
    case measure=>omega
    case rel=>
     obtain ⟨q1,q2,q3,q4,q5,q6,q7⟩:=F.out;obtain ⟨p1,p2,p3⟩:=FF.out;obtain ⟨f1,f2,f3,f4,f5,f6,f7⟩:=F0.out;have hw2:=q3.1;refine ⟨i,j+1,dk,r',rfl,by go_num,by omega,by omega,Nat.le_refl _,⟨Kd.R_below q1 hb2,q2.trans (hb2.mono (by omega)),kept_trans q3 hb2,q4,?_,p2,?_⟩⟩
     ·rw [List.drop_eq_getElem_cons (by omega),p1] at q5;exact (List.cons.inj q5).2
     ·rw [← q7,p3];rfl
  ·obtain rfl:j=n:=by omega
   have hltz:¬ (j:Int)<(j:Int):=by omega
   have hcl:∀ ty,(Builtin.clear_ #[ρ.t 22] ty #[.slice (some ⟨g,i,none⟩) (j - i) (c - i)]).run P wr=.ok (.tuple #[]) (wr.setCells g i (List.replicate (j - i) (.int .i64 0))):=fun ty=>by
    obtain ⟨q1,q2,q3,q4,q5,q6,q7⟩:=F.out;have hh:=(int_row q1).2.2.2.2.2.2;refine Lib.run_clear_slice wr _ _ ty _ t22 v23 rfl rfl g i _ _ (by omega) (fun t ht=>?_) (fun t ht=>?_)
    ·have:=(hh (i+t) (by simpa using (show i+t<dk.length by omega))).1
     rw [Nat.zero_add] at this;rw [this];rfl
    ·have:=(hh (i+t) (by simpa using (show i+t<dk.length by omega))).2
     rwa [Nat.zero_add] at this
   have hice:i≤j:=by omega
   clear f1 f2 f3 f4 f5 f6 f7
   go_wp2
   go_ret
   obtain ⟨q1,q2,q3,q4,q5,q6,q7⟩:=F.out;obtain ⟨f1,f2,f3,f4,f5,f6,f7⟩:=F0.out;rw [List.drop_eq_nil_of_le (by omega)] at q6;obtain rfl:=Option.some.inj q6;rw [List.append_nil] at q7
   have hlen:i=i0+t.length:=by
    have:=congrArg List.length q7
    rw [List.length_append,List.length_take,List.length_take] at this
    omega
   have hcut:=int_cut q1 hice;rw [q7] at hcut;rw [← hlen];exact ⟨rfl,hcut,below_cells q2 f4 _ _,kept_cells f3 _ _ _ q3⟩
set_option maxHeartbeats 1000000 in
theorem deleteFunc_none {P:Program} {ρ:Ren} (L:SlLaysH.n10 P ρ) (A:Option Addr) (n c:Nat) (fv:Value) (w:World) (hIF:Calls P (ρ.f 6) #[.slice A n c,fv] w fun e w'=>e=.returned (.int .i64 (-1))∧Below w.heap.size w w') :
  Calls P (ρ.f 10) #[.slice A n c,fv] w fun e w'=>e=.returned (.slice A n c)∧Below w.heap.size w w':=by
 have mixed:=L.mixed;have t0:=L.t0;have a0:=L.a0;have z0:=L.z0;have v0:=L.v0;have t3:=L.t3;have a3:=L.a3;have z3:=L.z3;have v3:=L.v3;have t4:=L.t4;have a4:=L.a4;have z4:=L.z4;have v4:=L.v4;have t22:=L.t22;have a22:=L.a22;have z22:=L.z22;have v22:=L.v22;have a23:=L.a23;have z23:=L.z23;have t25:=L.t25;have a25:=L.a25;have z25:=L.z25;have v25:=L.v25;have e6:∀ args w,(callFunc (ρ.f 6) args).run P w=.ok (.enter (ρ.f 6) args) w:=L.f6.enters rfl;obtain ⟨_,_,FG⟩:=L.f10
 go_enter FG,SlBodyH.n10_ntmps ρ
 go_wp2_with (go_at_fn (ρ.f 6);refine hIF.mono ?_;rintro e w1 ⟨rfl,hb1⟩)
 go_ret
 exact ⟨rfl,hb1⟩
theorem delF_mono {p q:Int→Option Bool} (h:∀ x,LeO (p x) (q x)):∀ l,LeO (delF p l) (delF q l)
 | []=>LeO.refl _
 | x :: l=>LeO.bind (h x) (fun _=>LeO.bind (delF_mono h l) (fun _=>LeO.refl _))
def slices_DeleteFunc_int_int_shared_Linked_1.f (k:Nat) (l0:List Int) (l1_0:List (S63)):Option (List Int):=(slices_IndexFunc_int_int_shared_Linked_1.f k l0 l1_0).bind fun i=>(if i=-1 then some l0 else (if 0≤i then (if i<(l0.length:Int) then ((delF (fun x=>shared_Linked_1_v1.f k x l1_0) (l0.drop (i.toNat+1))).bind fun t=>some (l0.take i.toNat++t)) else none) else none))
theorem slices_DeleteFunc_int_int_shared_Linked_1.calls (k:Nat) (P0_:Nat→Prop) (u98_:Value) (l0:List Int) (gp1_0:Nat) (A1_0:Option Addr) (c1_0:Nat) (l1_0:List (S63)) (r:List Int) (w0 w:World) (hB:Below w0.heap.size w0 w) (ho0:Kd.R (Kd.int .i64) 3 w w0.heap.size P0_ u98_ l0) (hr1_0:∀ W',Kept w W' (fun k_=>P0_ k_)→Kd.C k63 W' A1_0 l1_0.length l1_0) (hc1_0:l1_0.length≤c1_0) (hb_gp1_0:w.heap[gp1_0]?=some (.cells #[.slice A1_0 l1_0.length c1_0] 22 (0,0))) (hap:∀ k_,P0_ k_→k_≠gp1_0) (h:slices_DeleteFunc_int_int_shared_Linked_1.f k l0 l1_0=some r) :
 Calls Tryz.prog 56 #[u98_,.func (.func 57) #[] #[.pointer (some ⟨gp1_0,0,none⟩)]] w fun e w'=>∃ v0_:Value,e=.returned (v0_)∧Kd.R (Kd.int .i64) 3 w' w0.heap.size (fun k_=>(P0_ k_∨w.heap.size≤k_)) v0_ r∧Below w0.heap.size w0 w'∧Kept w w' (fun k_=>P0_ k_):=by
 unfold slices_DeleteFunc_int_int_shared_Linked_1.f at h
 obtain ⟨i,hi,h⟩:=Option.bind_eq_some_iff.1 h;obtain ⟨A,c,rfl⟩:=Kd.R_slice ho0;obtain ⟨_,hcl,hC⟩:=Kd.R_reads' ho0;have hgp:gp1_0<w.heap.size:=(Array.getElem?_eq_some_iff.1 hb_gp1_0).1;have hIF:=slices_IndexFunc_int_int_shared_Linked_1.calls k A c l0 gp1_0 A1_0 c1_0 l1_0 i w hC hcl (hr1_0 w ⟨Nat.le_refl _,fun _ _ _=>rfl⟩) hc1_0 hb_gp1_0 hi
 by_cases hm:i=-1
 ·rw [if_pos hm] at h;obtain rfl:=Option.some.inj h;subst hm;refine (deleteFunc_none laysDelete A l0.length c _ w hIF).mono ?_;rintro e w' ⟨rfl,hb⟩;exact ⟨_,rfl,Kd.R_mono (Kd.R_below ho0 hb) (fun k hk=>.inl hk),hB.trans (hb.mono hB.size),kept_trans ⟨Nat.le_refl _,fun _ _ _=>rfl⟩ hb⟩
 ·rw [if_neg hm] at h
  by_cases h0:0≤i
  case neg=>rw [if_neg h0] at h;cases h
  rw [if_pos h0] at h
  by_cases h1:i<(l0.length:Int)
  case neg=>rw [if_neg h1] at h;cases h
  rw [if_pos h1] at h;obtain ⟨t,ht,h⟩:=Option.bind_eq_some_iff.1 h;obtain rfl:=Option.some.inj h
  obtain ⟨i0,rfl⟩:∃ i0:Nat,i=i0:=⟨i.toNat,by omega⟩
  rw [Int.toNat_natCast] at ht ⊢
  obtain ⟨g,rfl⟩:∃ g,A=some ⟨g,0,none⟩:=by
   have ho:=Kd.own_of_R (enc:=Value.int .i64) (h1:=fun _=>rfl) ho0
   rcases ho.2 with ⟨_,h3⟩|⟨g,_,_,h3,_⟩
   ·omega
   ·injection h3 with h3;exact ⟨g,h3⟩
  have hmx:=(int_row ho0).2.2.2.2.2.1;refine (deleteFunc_makes laysDelete 57 #[.pointer (some ⟨gp1_0,0,none⟩)] (enters_of Tryz.func57 zK rfl) (fun x=>shared_Linked_1_v1.f k x l1_0) Tryz.zeroValue3 hB ho0 (by omega) (by unfold maxLen at hmx;omega) hIF (fun W x b hk hpv=>?_) ht).mono ?_
  ·exact shared_Linked_1_v1.calls k x gp1_0 A1_0 c1_0 l1_0 b W (hr1_0 W hk) hc1_0 ((hk.2 gp1_0 hgp (fun hp=>hap gp1_0 hp rfl)).trans hb_gp1_0) hpv
  ·rintro e w' ⟨rfl,k1,k2,k3⟩;exact ⟨_,rfl,Kd.R_mono k1 (fun k hk=>.inl hk),k2,k3⟩
end
mutual
def shared_Linked.l0:Nat→List Int→List (S53)→List Int→Int→Int→List (S63)→Option ((List (S53))×Int)
 | 0,_,_,_,_,_,_=>none
 | k+1,x5,x6,x24,x25,x26,x61=>if x26<x25 then (if 0≤x26 then (if x26<(x24.length:Int) then (if 0≤(wrap64 (x26+1)) then (if (wrap64 (x26+1))≤(x5.length:Int) then ((some (x5.drop ((wrap64 (x26+1)):Int).toNat:List Int)).bind fun y51=>(shared_Linked.l1 k x5 x6 (rd x24 x26) x24 x25 x26 y51 (y51.length:Int) 0 x61)) else (none)) else (none)) else (none)) else (none)) else (some (x6,0))
def shared_Linked.l1:Nat→List Int→List (S53)→Int→List Int→Int→Int→List Int→Int→Int→List (S63)→Option ((List (S53))×Int)
 | 0,_,_,_,_,_,_,_,_,_,_=>none
 | k+1,x5,x6,x8,x24,x25,x26,x34,x35,x36,x61=>if x36<x35 then (if 0≤x36 then (if x36<(x34.length:Int) then ((some (([true,false]:List Bool):List Bool)).bind fun y52=>(shared_Linked.l2 k x5 x6 x8 (rd x34 x36) x24 x25 x26 x34 x35 x36 y52 (y52.length:Int) 0 x61)) else (none)) else (none)) else (shared_Linked.l0 k x5 x6 x24 x25 (wrap64 (x26+1)) x61)
def shared_Linked.l2:Nat→List Int→List (S53)→Int→Int→List Int→Int→Int→List Int→Int→Int→List Bool→Int→Int→List (S63)→Option ((List (S53))×Int)
 | 0,_,_,_,_,_,_,_,_,_,_,_,_,_,_=>none
 | k+1,x5,x6,x8,x10,x24,x25,x26,x34,x35,x36,x40,x41,x42,x61=>if x42<x41 then (if 0≤x42 then (if x42<(x40.length:Int) then ((api_Table_59.f x61).bind fun t80=>((shared_both.f x8 x10 (!(rdOf false x40 x42))).bind fun bt76=>(if t80.length<2932031007402 then ((solve_First.f k (t80++[(⟨bt76.1,bt76.2⟩:S63)])).bind fun bt99=>(if bt99.2=10 then (if x6.length<5864062014805 then (shared_Linked.l2 k x5 (x6++[(⟨x8,x10,rdOf false x40 x42⟩:S53)]) x8 x10 x24 x25 x26 x34 x35 x36 x40 x41 (wrap64 (x42+1)) x61) else (none)) else (shared_Linked.l2 k x5 x6 x8 x10 x24 x25 x26 x34 x35 x36 x40 x41 (wrap64 (x42+1)) x61))) else (none)))) else (none)) else (none)) else (shared_Linked.l1 k x5 x6 x8 x24 x25 x26 x34 x35 (wrap64 (x36+1)) x61)
end
def shared_Linked.f (k:Nat) (l0:List (S63)):Option ((List (S53))×Int):=(shared_solvable.f k l0).bind fun t81=>(if t81=0 then ((solve_Vars.f k l0).bind fun t65=>((slices_DeleteFunc_int_int_shared_Linked_1.f k t65 l0).bind fun t49=>(shared_Linked.l0 k t49 ([]:List (S53)) t49 (t49.length:Int) 0 l0))) else (some (([]:List (S53)),t81)))
set_option maxHeartbeats 8000000 in
set_option maxRecDepth 100000 in
theorem shared_Linked.calls (k:Nat) (A0:Option Addr) (c0:Nat) (l0:List (S63)) (r1:List (S53)) (r2:Int) (w:World) (hr0:Kd.C k63 w A0 l0.length l0) (hc0:l0.length≤c0) (h:shared_Linked.f k l0=some (r1,r2)) :
  Calls Tryz.prog 21 #[.slice A0 l0.length c0] w fun e w'=>∃ v0_:Value,e=.returned (.tuple #[v0_,.int .i64 r2])∧Kd.R k53 53 w' w.heap.size (fun _=>True) v0_ r1∧Below w.heap.size w w':=by
 have HR0:=zA hr0;have HC0:=zA hc0;clear hr0 hc0;have HB:=zA (Below.refl w.heap.size w);have H:((shared_solvable.f k l0).bind fun t81=>(if t81=0 then ((solve_Vars.f k l0).bind fun t65=>((slices_DeleteFunc_int_int_shared_Linked_1.f k t65 l0).bind fun t49=>(shared_Linked.l0 k t49 ([]:List (S53)) t49 (t49.length:Int) 0 l0))) else (some (([]:List (S53)),t81))))=some (r1,r2):=h;clear h;obtain ⟨t81,A2,H⟩:=zo H;have HC3:=zA H;clear H
 go_enter Tryz.func21,Tryz.ntmps21
 go_upto_if 18 with (first|((with_reducible refine gd 1 rfl ?_);refine zx #[.slice A0 l0.length c0] 22 ?_;intro gb47 hg w4 BK47 hb GW47 HB1;have GE47:=GW47;clear HB hb hg;have HB:=HB1;clear HB1;have hcz5_0:=zc0 BK47;have hfz5_0:=zf BK47 0)|((with_reducible refine gate_callee (f:=35) rfl ?_);refine zgo 16 Tryz.func35 #[.slice A0 l0.length c0] ?_;(with_reducible refine (shared_solvable.calls k _ _ l0 t81 _ (zD HR0 HB) HC0.out A2.out).mono ?_);rintro e w6 ⟨rfl,hb⟩;refine ⟨_,rfl,?_⟩;replace BK47:=zw BK47 hb;replace HB:=zu hb;clear hb))
 (try simp only [Act.put,zi,zs,zt]);have H:=HC3.out;clear HC3
 rcases ife H with ⟨c7b0,c7b1,H⟩|⟨c7,c7b0,c7b1,H⟩
 ·(first|rw [c7b0]|(simp only [i64_w,i32_w];rw [c7b0])|skip)
  (try rw [c7b1]);obtain ⟨t65,A8,H⟩:=zo H;obtain ⟨t49,A9,H⟩:=zo H;have H':=zA H;clear H;have hcz10_0:=zc0 BK47;have hfz10_0:=zf BK47 0
  go_wp2_with (first|((with_reducible refine gate_callee (f:=36) rfl ?_);refine zgo 21 Tryz.func36 #[.slice A0 l0.length c0] ?_;(with_reducible refine (solve_Vars.calls k _ _ l0 t65 _ (zD HR0 HB) HC0.out A8.out).mono ?_);rintro e w11 ⟨v73,rfl,ho0,hb⟩;refine ⟨_,rfl,?_⟩;have HO74:=zA (Kd.R_lower ho0 (below_size zB));replace BK47:=zw BK47 hb;replace HB:=zu hb;clear hb;(try clear ho0);obtain ⟨Ao12,co12,eo12⟩:=Kd.R_slice HO74.out;subst eo12)|((with_reducible refine gate_callee (f:=56) rfl ?_);refine zgo 23 Tryz.func56 #[.slice Ao12 t65.length co12,.func (.func 57) #[] #[.pointer (some ⟨gb47,0,none⟩)]] ?_;(with_reducible refine (slices_DeleteFunc_int_int_shared_Linked_1.calls k (fun k_=>some k_=(.slice Ao12 t65.length co12:Value).ownBlock) (.slice Ao12 t65.length co12) t65 gb47 A0 c0 l0 t49 w _ ?side1 ?side2 ?side3 HC0.out ?side5 ?side6 A9.out).mono ?_);(case side1=>repeat (first|(with_reducible first|exact HB.out|apply below_alloc|apply pw_below_drewN|apply below_drew1|refine below_set ?_ GE47.out)|exact HB.out));(case side2=>exact Kd.R_tight rfl HO74.out);(case side3=>exact Kd.C_kept_came k63_heap HR0.out zB (fun k_ hs_=>(fun e_=>Kd.R_base HO74.out k_ e_.symm) hs_));(case side5=>refine zj ?_;exact BK47.out);(case side6=>exact fun k_ e_ he_=>(Kd.R_ne HO74.out (zk BK47) (by decide)) (he_ ▸ e_));rintro e w13 ⟨v497,rfl,ho0,hb,hkp⟩;refine ⟨_,rfl,?_⟩;have HO498:=zA (Kd.R_mono (ok':=fun k_=>True) ho0 (fun k_ hk_=>trivial));replace BK47:=zA (blk_kept (zk BK47) hkp (fun hs_=>(fun e_=>(Kd.R_ne HO74.out BK47.out (by decide)) e_) hs_));replace HB:=zA (hb);clear HO74;(try clear hb);(try clear hkp);(try clear ho0);obtain ⟨Ao14,co14,eo14⟩:=Kd.R_slice HO498.out;subst eo14))
  go_loopg [6,26] k (fun kq v6 v26 w'=>∃ (x6_1:List (S53)) (x26_1:Int),v26=.int .i64 x26_1∧Aside0 (shared_Linked.l0 kq t49 x6_1 t49 (t49.length:Int) x26_1 l0=some (r1,r2))∧Aside0 (kq≤k)∧Aside0 (Kd.R (Kd.int .i64) 3 w' w.heap.size (fun _=>True) (.slice Ao14 t49.length co14) t49)∧Aside0 (Kd.R k53 53 w' w.heap.size (fun _=>True) v6 x6_1)∧Aside0 (Kd.R (Kd.int .i64) 3 w' w.heap.size (fun _=>True) (.slice Ao14 t49.length co14) t49)∧Aside0 (w'.heap[gb47]?=some (.cells #[(.slice A0 l0.length c0)] 22 (0,0)))∧Aside0 (Below w.heap.size w w'))
  case atStart=>exact ⟨(([]:List (S53))),(0),zT,H',⟨Nat.le_refl _⟩,⟨by refine zr ?_;exact HO498.out⟩,⟨by first|exact Kd.R_nil _ _ _ _ _|exact Kd.N_nil _ _ _ _ _|exact Kd.V_nil _ _ _ _ _|exact Kd.Q_nil _ _ _ _ _|exact Kd.S_nil _ _ _ _ _⟩,⟨by refine zr ?_;exact HO498.out⟩,⟨by refine zj ?_;exact BK47.out⟩,⟨zv1 HB GE47⟩⟩
  case round=>
   clear H'
   try clear c7
   try clear c7b0
   try clear c7b1
   try clear hcz10_0
   try clear hcz5_0
   try clear hfz10_0
   try clear hfz5_0
   obtain ⟨x6_1,x26_1,rfl,HA,HK1,HO_5,HO_6,HO_24,BK47,HB⟩:=hrel
   cases gk with
   | zero=>exact absurd HA.out (by simp [shared_Linked.l0])
   | succ k1=>
    have H:=HA.out;clear HA;simp only [shared_Linked.l0] at H
    rcases ifd H with ⟨c15b0,H⟩|⟨c15b0,H⟩
    ·obtain ⟨c16b0,H⟩:=ifd1 H;obtain ⟨c17b0,H⟩:=ifd1 H;obtain ⟨ji18,hji18⟩:=zZ (wrap64 (x26_1+1))
     first|rw [hji18] at H|simp only [hji18] at H
     have hji18w:(IntKind.i64.wrap (x26_1+1))=ji18:=(i64_w _).trans hji18;obtain ⟨c19,H⟩:=if1 H;have c19b0:=eq_true c19;have c19b1:decide (0≤(ji18))=true:=decide_eq_true c19;clear c19;obtain ⟨c20,H⟩:=if1 H;have c20b0:=eq_true c20;have c20b1:decide ((ji18)≤(t49.length:Int))=true:=decide_eq_true c20;clear c20
     first|(replace H:=zyb (t49.drop ((ji18):Int).toNat) H;obtain ⟨y51,Ny51,H⟩:=H)|(obtain ⟨y51,hy51⟩:=zY (t49.drop ((ji18):Int).toNat);(try rw (occs:=.pos [1]) [← hy51] at H);have Ny51:=zA hy51;clear hy51)
     have H':=zA H;clear H;obtain ⟨p50,q50,ad50,e50,hx50_0⟩:=zp (Kd.at_int (Kd.R_reads' HO_24.out).2.2 x26_1)
     cases e50
     replace p50:=eq_true p50;replace q50:=eq_true q50;have q21:((ji18):Int)≤((t49.length:Int):Int):=of_decide_eq_true zh;obtain ⟨i82,hi82,_,hsz21,_⟩:=info_parts info3;have hroom21:t49.length≤co14:=(Kd.R_reads' HO_5.out).2.1;have hC21:Kd.F (Kd.int .i64) _ _ (some ad50) t49.length t49:=(Kd.V_at (base:=w.heap.size) (Kd.R_V (Kd.R_types (Kd.R_apart' (HO_5.out) (Kd.R_typed HO_6.out) (by decide)) BK47.out (by decide)))).2.2;have q82:(0:Int)≤((ji18):Int):=of_decide_eq_true zh;have hcut21:=cut_from (P:=Tryz.prog) 43 3 .i64 Tryz.underlying43 hi82 1 hsz21 (some ad50) t49.length co14 (ji18) q82 q21;have hr21:=Kd.F_cut (m:=((ji18):Int).toNat) (c:=co14) hC21 (by omega) hroom21
     obtain ⟨A21,hA21⟩:∃ A1,A1=(if co14=((ji18):Int).toNat then (some ad50) else ((some ad50):Option Addr).map (·.add (((ji18):Int).toNat * 1))):=⟨_,rfl⟩
     obtain ⟨c21,hc21⟩:∃ c1,c1=co14 - ((ji18):Int).toNat:=⟨_,rfl⟩
     have hy21:y51.length=t49.length - ((ji18):Int).toNat:=(by rw [Ny51.out,List.length_drop] <;> omega)
     rw [show (t49).drop ((ji18):Int).toNat=y51 from Ny51.out.symm] at hr21
     replace hr21:Kd.F (Kd.int .i64) _ _ A21 y51.length y51:=(by rw [hA21];exact hr21)
     rw [← hy21,← hA21,← hc21] at hcut21;have HO504:=zA (show Kd.V (Kd.int .i64) 3 _ w.heap.size _ (.slice A21 y51.length c21) y51 from Kd.V_mk (by rw [hy21,hc21];exact Nat.sub_le_sub_right hroom21 _) hr21);have HC504:=zA (show y51.length≤c21 from by rw [hy21,hc21];exact Nat.sub_le_sub_right hroom21 _);clear hr21 hC21 hroom21 hi82 hsz21 hc21;have KY21:=zA hy21;have KA21:=zA hA21;clear hy21 hA21;replace q21:=eq_true q21
     go_wp2
     go_loopg [6,36] k1 (fun kq v6 v36 w'=>∃ (x6_2:List (S53)) (x36_2:Int),v36=.int .i64 x36_2∧Aside0 (shared_Linked.l1 kq t49 x6_2 (rd t49 x26_1) t49 (t49.length:Int) x26_1 y51 (y51.length:Int) x36_2 l0=some (r1,r2))∧Aside0 (kq≤k1)∧Aside0 (Kd.R (Kd.int .i64) 3 w' w.heap.size (fun _=>True) (.slice (some ad50) t49.length co14) t49)∧Aside0 (Kd.R k53 53 w' w.heap.size (fun _=>True) v6 x6_2)∧Aside0 (Kd.R (Kd.int .i64) 3 w' w.heap.size (fun _=>True) (.slice (some ad50) t49.length co14) t49)∧Aside0 (Kd.V (Kd.int .i64) 3 w' w.heap.size (fun k_=>some k_≠(v6:Value).ownBlock∧k_≠gb47) (.slice A21 y51.length c21) y51)∧Aside0 (w'.heap[gb47]?=some (.cells #[(.slice A0 l0.length c0)] 22 (0,0)))∧Aside0 (Below w.heap.size w w'))
     case atStart=>exact ⟨(x6_1),(0),zT,H',⟨Nat.le_refl _⟩,⟨by refine zr ?_;exact HO_5.out⟩,⟨by refine zr ?_;exact HO_6.out⟩,⟨by refine zr ?_;exact HO_24.out⟩,⟨by (with_reducible repeat (first|apply Kd.V_alloc|apply Kd.V_drewN|apply Kd.V_drew));exact Kd.V_mono HO504.out (fun _ hk=>⟨hk.1.2,hk.2⟩)⟩,⟨by refine zj ?_;exact BK47.out⟩,⟨zv1 HB GE47⟩⟩
     case round=>
      clear H'
      try clear c1
      try clear c7
      try clear c7b0
      try clear c7b1
      try clear c15
      try clear c15b0
      try clear c16
      try clear c16b0
      try clear c17
      try clear c17b0
      try clear c19
      try clear c19b0
      try clear c19b1
      try clear c20
      try clear c20b0
      try clear c20b1
      try clear c21
      try clear q21
      try clear hcz10_0
      try clear hcz5_0
      try clear hfz10_0
      try clear hfz5_0
      try clear hx50_0
      try clear p50
      try clear q82
      try clear q21
      try clear q50
      obtain ⟨x6_2,x36_2,rfl,HA,HK2,HO_5,HO_6,HO_24,HO_34,BK47,HB⟩:=hrel
      cases gk with
      | zero=>exact absurd HA.out (by simp [shared_Linked.l1])
      | succ k2=>
       have H:=HA.out;clear HA;simp only [shared_Linked.l1] at H
       rcases ifd H with ⟨c22b0,H⟩|⟨c22b0,H⟩
       ·obtain ⟨c23b0,H⟩:=ifd1 H;obtain ⟨c24b0,H⟩:=ifd1 H
        first|(replace H:=zyb (([true,false]:List Bool)) H;obtain ⟨y52,Ny52,H⟩:=H)|(obtain ⟨y52,hy52⟩:=zY (([true,false]:List Bool));(try rw (occs:=.pos [1]) [← hy52] at H);have Ny52:=zA hy52;clear hy52)
        have H':=zA H;clear H;obtain ⟨p70,q70,ad70,e70,hx70_0⟩:=zp (Kd.at_int (Kd.V_reads' HO_34.out).2.2 x36_2)
        cases e70
        replace p70:=eq_true p70;replace q70:=eq_true q70
        go_wp2_with (first|((with_reducible refine gate_dst (N:=40) rfl ?_);refine Kd.R_lit Kd.bool _ 4 ?hg (N:=40) ?hd (xs:=([true,false]:List Bool)) (inner:=[.bool true,.bool false]) (ok:=fun _=>True) (okp:=fun _=>True) ?hr ?hp (fun _ hk=>hk) trivial (Below.refl _ _) (Nat.le_refl _) (by simp) ?_;(case hd=>rfl);(case hg=>rfl);(case hr=>first|(go_simp;done)|(go_simp;rfl));(case hp=>exact (Reps.one (show Kd.M Kd.bool _ _ _ true [.bool true] from rfl) (Reps.one (show Kd.M Kd.bool _ _ _ false [.bool false] from rfl) (Reps.none _ _))));intro v507 w25 ho26 hb hg_ hnew_;clear hg_ hnew_;(first|rw [← Ny52.out] at ho26|(simp only [Int.reduceToNat] at ho26;rw [← Ny52.out] at ho26));have HO508:=zA (Kd.R_lower ho26 (below_size zB));replace HO_5:=zA (Kd.R_below (zR HO_5) hb);replace HO_6:=zA (Kd.R_below (zR HO_6) hb);replace HO_24:=zA (Kd.R_below (zR HO_24) hb);replace HO_34:=zA (Kd.V_elder' (zV HO_34) (Kd.R_base ho26) hb);replace BK47:=zw BK47 hb;replace HB:=zu hb;clear hb ho26;obtain ⟨Ao27,co27,eo27⟩:=Kd.R_slice HO508.out;subst eo27))
        go_loopg [6,42] k2 (fun kq v6 v42 w'=>∃ (x6_3:List (S53)) (x42_3:Int),v42=.int .i64 x42_3∧Aside0 (shared_Linked.l2 kq t49 x6_3 (rd t49 x26_1) (rd y51 x36_2) t49 (t49.length:Int) x26_1 y51 (y51.length:Int) x36_2 y52 (y52.length:Int) x42_3 l0=some (r1,r2))∧Aside0 (kq≤k2)∧Aside0 (Kd.R (Kd.int .i64) 3 w' w.heap.size (fun _=>True) (.slice (some ad50) t49.length co14) t49)∧Aside0 (Kd.R k53 53 w' w.heap.size (fun _=>True) v6 x6_3)∧Aside0 (Kd.R (Kd.int .i64) 3 w' w.heap.size (fun _=>True) (.slice (some ad50) t49.length co14) t49)∧Aside0 (Kd.V (Kd.int .i64) 3 w' w.heap.size (fun k_=>some k_≠(v6:Value).ownBlock∧some k_≠((.slice Ao27 y52.length co27):Value).ownBlock∧k_≠gb47) (.slice (some ad70) y51.length c21) y51)∧Aside0 (Kd.R Kd.bool 4 w' w.heap.size (fun _=>True) (.slice Ao27 y52.length co27) y52)∧Aside0 (w'.heap[gb47]?=some (.cells #[(.slice A0 l0.length c0)] 22 (0,0)))∧Aside0 (Below w.heap.size w w'))
        case atStart=>exact ⟨(x6_2),(0),zT,H',⟨Nat.le_refl _⟩,⟨by refine zr ?_;exact HO_5.out⟩,⟨by refine zr ?_;exact HO_6.out⟩,⟨by refine zr ?_;exact HO_24.out⟩,⟨by (with_reducible repeat (first|apply Kd.V_alloc|apply Kd.V_drewN|apply Kd.V_drew));exact Kd.V_mono HO_34.out (fun _ hk=>⟨hk.1.1,⟨hk.2,hk.1.2⟩⟩)⟩,⟨by refine zr ?_;exact HO508.out⟩,⟨by refine zj ?_;exact BK47.out⟩,⟨zv1 HB GE47⟩⟩
        case round=>
         clear H'
         try clear c1
         try clear c7
         try clear c7b0
         try clear c7b1
         try clear c15
         try clear c15b0
         try clear c16
         try clear c16b0
         try clear c17
         try clear c17b0
         try clear c19
         try clear c19b0
         try clear c19b1
         try clear c20
         try clear c20b0
         try clear c20b1
         try clear c21
         try clear q21
         try clear c22
         try clear c22b0
         try clear c23
         try clear c23b0
         try clear c24
         try clear c24b0
         try clear hcz10_0
         try clear hcz5_0
         try clear hfz10_0
         try clear hfz5_0
         try clear hx50_0
         try clear hx70_0
         try clear p50
         try clear p70
         try clear q82
         try clear q21
         try clear q50
         try clear q70
         obtain ⟨x6_3,x42_3,rfl,HA,HK3,HO_5,HO_6,HO_24,HO_34,HO_40,BK47,HB⟩:=hrel
         cases gk with
         | zero=>exact absurd HA.out (by simp [shared_Linked.l2])
         | succ k3=>
          have H:=HA.out;clear HA;simp only [shared_Linked.l2] at H
          rcases ifd H with ⟨c28b0,H⟩|⟨c28b0,H⟩
          ·obtain ⟨c29b0,H⟩:=ifd1 H;obtain ⟨c30b0,H⟩:=ifd1 H;obtain ⟨t80,A31,H⟩:=zo H;obtain ⟨t76,t83,A32,H⟩:=zO H
           dsimp only at H
           obtain ⟨c33,H⟩:=if1 H;have LMc33:=zA c33;clear c33
           first|(replace H:=zyb (t80++[(⟨t76,t83⟩:S63)]) H;obtain ⟨y75,Ny75,H⟩:=H)|(obtain ⟨y75,hy75⟩:=zY (t80++[(⟨t76,t83⟩:S63)]);(try rw (occs:=.pos [1]) [← hy75] at H);have Ny75:=zA hy75;clear hy75)
           obtain ⟨t99,t523,A34,H⟩:=zO H
           dsimp only at H
           have HC35:=zA H;clear H;obtain ⟨p62,q62,ad62,e62,hx62_0⟩:=zp (Kd.at_bool (Kd.R_reads' HO_40.out).2.2 x42_3)
           cases e62
           replace p62:=eq_true p62;replace q62:=eq_true q62;have hcz36_0:=zc0 BK47;have hfz36_0:=zf BK47 0
           go_upto_if 60 with (first|((with_reducible refine gate_callee (f:=59) rfl ?_);refine zgo 48 Tryz.func59 #[.slice A0 l0.length c0] ?_;(with_reducible refine (api_Table_59.calls (fun k_=>k_<w.heap.size) _ _ l0 t80 _ ?side1 A31.out).mono ?_);(case side1=>exact Kd.V_mk HC0.out (Kd.F_below (Kd.C_F k63_heap HR0.out) zB));rintro e w37 ⟨v90,rfl,ho0,hb⟩;refine ⟨_,rfl,?_⟩;have HO71:=zA (Kd.N_lower (Kd.N_mono (ok':=fun k_=>some k_≠(.slice (some ad50) t49.length co14:Value).ownBlock∧some k_≠(u6:Value).ownBlock∧some k_≠(.slice (some ad50) t49.length co14:Value).ownBlock∧some k_≠(.slice (some ad62) y52.length co27:Value).ownBlock∧k_≠gb47) ho0 (fun k_ hk_=>⟨Or.elim hk_ (fun hs_=>fun e_=>Nat.not_le.2 hs_ (Kd.R_base HO_5.out k_ e_.symm)) (fun hn_=>(Kd.fresh' (Kd.R_lt (zR HO_5)) k_ hn_)),Or.elim hk_ (fun hs_=>fun e_=>Nat.not_le.2 hs_ (Kd.R_base HO_6.out k_ e_.symm)) (fun hn_=>(Kd.fresh' (Kd.R_lt (zR HO_6)) k_ hn_)),Or.elim hk_ (fun hs_=>fun e_=>Nat.not_le.2 hs_ (Kd.R_base HO_24.out k_ e_.symm)) (fun hn_=>(Kd.fresh' (Kd.R_lt (zR HO_24)) k_ hn_)),Or.elim hk_ (fun hs_=>fun e_=>Nat.not_le.2 hs_ (Kd.R_base HO_40.out k_ e_.symm)) (fun hn_=>(Kd.fresh' (Kd.R_lt (zR HO_40)) k_ hn_)),Or.elim hk_ (fun hs_=>fun e_=>Nat.not_le.2 hs_ (by rw [e_];exact GW47.out)) (fun hn_=>(Kd.freshB (g:=gb47) (o:=.cells #[.slice A0 l0.length c0] 22 (0,0)) (zk BK47) k_ hn_))⟩)) (below_size zB));replace HO_5:=zA (Kd.R_below (zR HO_5) hb);replace HO_6:=zA (Kd.R_below (zR HO_6) hb);replace HO_24:=zA (Kd.R_below (zR HO_24) hb);replace HO_34:=zA (Kd.V_elder' (zV HO_34) (Kd.N_base ho0) hb);replace HO_40:=zA (Kd.R_below (zR HO_40) hb);replace BK47:=zw BK47 hb;replace HB:=zu hb;clear hb;(try clear ho0))|((with_reducible refine gate_callee (f:=60) rfl ?_);refine zgo 53 Tryz.func60 #[.int .i64 (rd t49 x26_1),.int .i64 (rd y51 x36_2),.bool (!(rdOf false y52 x42_3))] ?_;(with_reducible refine (shared_both.calls (rd t49 x26_1) (rd y51 x36_2) (!(rdOf false y52 x42_3)) t76 t83 _ A32.out).mono ?_);rintro e w38 ⟨v514,v517,rfl,ho0,ho1,hb⟩;refine ⟨_,rfl,?_⟩;have HO95:=zA (Kd.R_lower (Kd.R_new' (Kd.R_new' ho0 (Kd.R_lt (zR HO_5))) (Kd.R_lt (zR HO_24))) (below_size zB));have HO96:=zA (Kd.R_lower (Kd.R_new' (Kd.R_new' ho1 (Kd.R_lt (zR HO_5))) (Kd.R_lt (zR HO_24))) (below_size zB));replace HO_5:=zA (Kd.R_mono (Kd.R_told (Kd.R_told (Kd.R_old (zR HO_5) hb) (Kd.R_base ho0)) (Kd.R_base ho1)) (fun _ h_=>h_.1));replace HO_6:=zA (Kd.R_below (zR HO_6) hb);replace HO_24:=zA (Kd.R_mono (Kd.R_told (Kd.R_told (Kd.R_old (zR HO_24) hb) (Kd.R_base ho0)) (Kd.R_base ho1)) (fun _ h_=>h_.1));replace HO_34:=zA (Kd.V_mono (Kd.V_told (Kd.V_told (Kd.V_old (zV HO_34) hb) (Kd.R_base ho0)) (Kd.R_base ho1)) (fun _ h_=>h_.1));replace HO_40:=zA (Kd.R_below (zR HO_40) hb);replace HO71:=zA (Kd.N_mono (Kd.N_told (Kd.N_told (Kd.N_old (zN HO71) hb) (Kd.R_base ho0)) (Kd.R_base ho1)) (fun _ h_=>h_.1));replace BK47:=zw BK47 hb;replace HB:=zu hb;clear hb;(try clear ho0);(try clear ho1);obtain ⟨Ao40,co40,eo40⟩:=Kd.R_slice HO95.out;subst eo40;obtain ⟨Ao41,co41,eo41⟩:=Kd.R_slice HO96.out;subst eo41)|((with_reducible refine gate_builtin (b:=.append) (xs:=#[.tmp 48,.tmp 54]) rfl ?_);at_builtin;refine Kd.N_append k63 (w0:=w) w.heap.size rfl (.tmp 48) (.tmp 54) 22 63 (.agg #[(.slice none 0 0),(.slice none 0 0)]) 48 rfl Tryz.underlying22 info63 rfl (by decide) (by omega) v90 t80 (⟨t76,t83⟩:S63) [.slice Ao40 t76.length co40,.slice Ao41 t83.length co41] (fun k_=>some k_≠(.slice (some ad50) t49.length co14:Value).ownBlock∧some k_≠(u6:Value).ownBlock∧some k_≠(.slice (some ad50) t49.length co14:Value).ownBlock∧some k_≠(.slice (some ad62) y52.length co27:Value).ownBlock∧k_≠gb47) (fun k_=>((fun k_=>some k_≠(.slice (some ad50) t49.length co14:Value).ownBlock∧some k_≠(u6:Value).ownBlock∧some k_≠(.slice (some ad50) t49.length co14:Value).ownBlock∧some k_≠(.slice (some ad62) y52.length co27:Value).ownBlock∧k_≠gb47)) k_∧some k_≠(v90:Value).ownBlock) rfl rfl ?aP (fun _ hk=>hk) ?aF ?aO ?aB ?aS ?aL ?_;(case aP=>exact (k63_mkF _ _ (⟨t76,t83⟩:S63) (Kd.R_reads' (Kd.R_mono (ok':=(fun k_=>((fun k_=>some k_≠(.slice (some ad50) t49.length co14:Value).ownBlock∧some k_≠(u6:Value).ownBlock∧some k_≠(.slice (some ad50) t49.length co14:Value).ownBlock∧some k_≠(.slice (some ad62) y52.length co27:Value).ownBlock∧k_≠gb47)) k_∧some k_≠(v90:Value).ownBlock)) (Kd.R_types (Kd.R_apart' (Kd.R_apart' (Kd.R_apart' (HO95.out) (Kd.R_typed HO_6.out) (by decide)) (Kd.R_typed HO_40.out) (by decide)) (Kd.N_typed HO71.out) (by decide)) BK47.out (by decide)) (fun k_ hk=>⟨⟨hk.1.1.1.1.1.2,⟨hk.1.1.1.2,⟨hk.1.1.1.1.2,⟨hk.1.1.2,hk.2⟩⟩⟩⟩,hk.1.2⟩))).2.1 (Kd.R_F (Kd.R_mono (ok':=(fun k_=>((fun k_=>some k_≠(.slice (some ad50) t49.length co14:Value).ownBlock∧some k_≠(u6:Value).ownBlock∧some k_≠(.slice (some ad50) t49.length co14:Value).ownBlock∧some k_≠(.slice (some ad62) y52.length co27:Value).ownBlock∧k_≠gb47)) k_∧some k_≠(v90:Value).ownBlock)) (Kd.R_types (Kd.R_apart' (Kd.R_apart' (Kd.R_apart' (HO95.out) (Kd.R_typed HO_6.out) (by decide)) (Kd.R_typed HO_40.out) (by decide)) (Kd.N_typed HO71.out) (by decide)) BK47.out (by decide)) (fun k_ hk=>⟨⟨hk.1.1.1.1.1.2,⟨hk.1.1.1.2,⟨hk.1.1.1.1.2,⟨hk.1.1.2,hk.2⟩⟩⟩⟩,hk.1.2⟩))) (Kd.R_reads' (Kd.R_mono (ok':=(fun k_=>((fun k_=>some k_≠(.slice (some ad50) t49.length co14:Value).ownBlock∧some k_≠(u6:Value).ownBlock∧some k_≠(.slice (some ad50) t49.length co14:Value).ownBlock∧some k_≠(.slice (some ad62) y52.length co27:Value).ownBlock∧k_≠gb47)) k_∧some k_≠(v90:Value).ownBlock)) (Kd.R_types (Kd.R_apart' (Kd.R_apart' (Kd.R_apart' (HO96.out) (Kd.R_typed HO_6.out) (by decide)) (Kd.R_typed HO_40.out) (by decide)) (Kd.N_typed HO71.out) (by decide)) BK47.out (by decide)) (fun k_ hk=>⟨⟨hk.1.1.1.1.1.2,⟨hk.1.1.1.2,⟨hk.1.1.1.1.2,⟨hk.1.1.2,hk.2⟩⟩⟩⟩,hk.1.2⟩))).2.1 (Kd.R_F (Kd.R_mono (ok':=(fun k_=>((fun k_=>some k_≠(.slice (some ad50) t49.length co14:Value).ownBlock∧some k_≠(u6:Value).ownBlock∧some k_≠(.slice (some ad50) t49.length co14:Value).ownBlock∧some k_≠(.slice (some ad62) y52.length co27:Value).ownBlock∧k_≠gb47)) k_∧some k_≠(v90:Value).ownBlock)) (Kd.R_types (Kd.R_apart' (Kd.R_apart' (Kd.R_apart' (HO96.out) (Kd.R_typed HO_6.out) (by decide)) (Kd.R_typed HO_40.out) (by decide)) (Kd.N_typed HO71.out) (by decide)) BK47.out (by decide)) (fun k_ hk=>⟨⟨hk.1.1.1.1.1.2,⟨hk.1.1.1.2,⟨hk.1.1.1.1.2,⟨hk.1.1.2,hk.2⟩⟩⟩⟩,hk.1.2⟩)))));(case aB=>exact zB);(case aF=>exact (fun k_ hk=>⟨Kd.fresh' (Kd.R_lt (zR HO_5)) k_ hk,Kd.fresh' (Kd.R_lt (zR HO_6)) k_ hk,Kd.fresh' (Kd.R_lt (zR HO_24)) k_ hk,Kd.fresh' (Kd.R_lt (zR HO_40)) k_ hk,Kd.freshB (g:=gb47) (o:=.cells #[.slice A0 l0.length c0] 22 (0,0)) (zk BK47) k_ hk⟩));(case aO=>exact (by (with_reducible repeat (first|apply Kd.N_alloc|apply Kd.N_drewN|apply Kd.N_drew));exact Kd.N_mono HO71.out (fun _ hk=>⟨hk.1.1.1,⟨hk.1.1.2.1,⟨hk.1.1.2.2.1,⟨hk.1.1.2.2.2.1,hk.1.1.2.2.2.2⟩⟩⟩⟩)));(case aS=>exact (below_size zB));(case aL=>have:=LMc33.out;omega);intro v520 w39 ho hb hg hat;rw [← Ny75.out] at ho;have HO84:=zA (ho);replace HO_5:=zA (Kd.R_over' (zR HO_5) (Kd.N_typed (zN HO71)) (by decide) hg);replace HO_6:=zA (Kd.R_over' (zR HO_6) (Kd.N_typed (zN HO71)) (by decide) hg);replace HO_24:=zA (Kd.R_over' (zR HO_24) (Kd.N_typed (zN HO71)) (by decide) hg);replace HO_34:=zA (Kd.V_afterv (ok:=(fun k_=>some k_≠(u6:Value).ownBlock∧some k_≠(.slice (some ad62) y52.length co27:Value).ownBlock∧some k_≠(.slice Ao40 t76.length co40:Value).ownBlock∧some k_≠(.slice Ao41 t83.length co41:Value).ownBlock∧k_≠gb47)) (by (with_reducible repeat (first|apply Kd.V_alloc|apply Kd.V_drewN|apply Kd.V_drew));exact Kd.V_mono HO_34.out (fun _ hk=>⟨⟨hk.1.1.1.1,⟨hk.1.1.1.2.1,⟨hk.1.2,⟨hk.2,hk.1.1.1.2.2⟩⟩⟩⟩,hk.1.1.2⟩)) hg hat);replace HO_40:=zA (Kd.R_over' (zR HO_40) (Kd.N_typed (zN HO71)) (by decide) hg);replace BK47:=zA (blk_grown (g:=gb47) (o:=.cells #[.slice A0 l0.length c0] 22 (0,0)) (zk BK47) hg (Kd.N_ne HO71.out BK47.out (by decide)));replace HB:=zA (hb);clear HO71 HO95 HO96;clear ho hb hg hat;obtain ⟨Ao42,co42,eo42⟩:=Kd.N_slice HO84.out;subst eo42)|((with_reducible refine gate_callee (f:=44) rfl ?_);refine zgo 56 Tryz.func44 #[.slice Ao42 y75.length co42] ?_;(with_reducible refine (solve_First.calls k3 _ _ y75 t99 t523 _ ?side1 ?side2 A34.out).mono ?_);(case side1=>exact zC (Kd.N_reads' HO84.out).2.2);(case side2=>exact (Kd.N_reads' HO84.out).2.1);rintro e w43 ⟨rfl,hb⟩;refine ⟨_,rfl,?_⟩;replace HO_5:=zA (Kd.R_below (zR HO_5) hb);replace HO_6:=zA (Kd.R_below (zR HO_6) hb);replace HO_24:=zA (Kd.R_below (zR HO_24) hb);replace HO_34:=zA (Kd.V_below (zV HO_34) hb);replace HO_40:=zA (Kd.R_below (zR HO_40) hb);replace HO84:=zA (Kd.N_below (zN HO84) hb);replace BK47:=zw BK47 hb;replace HB:=zu hb;clear hb))
           (try simp only [Act.put,zi,zs,zt]);have H:=HC35.out;clear HC35
           rcases ife H with ⟨c44b0,c44b1,H⟩|⟨c44,c44b0,c44b1,H⟩
           ·(first|rw [c44b0]|(simp only [i64_w,i32_w];rw [c44b0])|skip)
            (try rw [c44b1]);obtain ⟨c45,H⟩:=if1 H;have LMc45:=zA c45;clear c45
            first|(replace H:=zyb (x6_3++[(⟨(rd t49 x26_1),(rd y51 x36_2),rdOf false y52 x42_3⟩:S53)]) H;obtain ⟨y78,Ny78,H⟩:=H)|(obtain ⟨y78,hy78⟩:=zY (x6_3++[(⟨(rd t49 x26_1),(rd y51 x36_2),rdOf false y52 x42_3⟩:S53)]);(try rw (occs:=.pos [1]) [← hy78] at H);have Ny78:=zA hy78;clear hy78)
            have H':=zA H;clear H
            go_wp2_with (first|((with_reducible refine gate_builtin (b:=.append) (xs:=#[.tmp 61,.tmp 66]) rfl ?_);at_builtin;refine Kd.R_append k53 (w0:=w) w.heap.size rfl (.tmp 61) (.tmp 66) 48 53 (.agg #[(.int .i64 0),(.int .i64 0),(.bool false)]) 24 rfl Tryz.underlying48 info53 rfl (by decide) (by omega) u6 x6_3 (⟨(rd t49 x26_1),(rd y51 x36_2),rdOf false y52 x42_3⟩:S53) [.int .i64 (rd t49 x26_1),.int .i64 (rd y51 x36_2),.bool (rdOf false y52 x42_3)] (fun _=>True) (fun _=>False) rfl rfl ?aP (fun _ hk=>hk.elim) ?aF ?aO ?aB ?aS ?aL ?_;(case aP=>exact k53_mkM _ _ _ (⟨(rd t49 x26_1),(rd y51 x36_2),rdOf false y52 x42_3⟩:S53));(case aB=>exact zB);(case aF=>exact (fun _ _=>trivial));(case aO=>exact (zR HO_6));(case aS=>exact (below_size zB));(case aL=>have:=LMc45.out;omega);intro v525 w46 ho hb hg hat;rw [← Ny78.out] at ho;have HO526:=zA (ho);replace HO_5:=zA (Kd.R_over' (zR HO_5) (Kd.R_typed (zR HO_6)) (by decide) hg);replace HO_24:=zA (Kd.R_over' (zR HO_24) (Kd.R_typed (zR HO_6)) (by decide) hg);replace HO_34:=zA (Kd.V_afterv (ok:=(fun k_=>some k_≠(.slice (some ad62) y52.length co27:Value).ownBlock∧some k_≠(.slice Ao42 y75.length co42:Value).ownBlock∧k_≠gb47)) (by (with_reducible repeat (first|apply Kd.V_alloc|apply Kd.V_drewN|apply Kd.V_drew));exact Kd.V_mono HO_34.out (fun _ hk=>⟨⟨hk.1.2.1,⟨hk.2,hk.1.2.2.2.2⟩⟩,hk.1.1⟩)) hg hat);replace HO_40:=zA (Kd.R_over' (zR HO_40) (Kd.R_typed (zR HO_6)) (by decide) hg);replace BK47:=zA (blk_grown (g:=gb47) (o:=.cells #[.slice A0 l0.length c0] 22 (0,0)) (zk BK47) hg (Kd.R_ne HO_6.out BK47.out (by decide)));replace HO84:=zA (Kd.N_afterv (ok:=(fun k_=>some k_≠(.slice (some ad50) t49.length co14:Value).ownBlock∧some k_≠(.slice (some ad50) t49.length co14:Value).ownBlock∧some k_≠(.slice (some ad62) y52.length co27:Value).ownBlock∧k_≠gb47)) (by (with_reducible repeat (first|apply Kd.N_alloc|apply Kd.N_drewN|apply Kd.N_drew));exact Kd.N_mono HO84.out (fun _ hk=>⟨⟨hk.1,⟨hk.2.2.1,⟨hk.2.2.2.1,hk.2.2.2.2⟩⟩⟩,hk.2.1⟩)) hg hat);replace HB:=zA (hb);clear HO_6;clear ho hb hg hat))
            go_roundg k3
            case measure=>have:=HK1.out;have:=HK2.out;have:=HK3.out;omega
            case rel=>exact ⟨(y78),(wrap64 (x42_3+1)),zT,H',⟨by have:=HK1.out;have:=HK2.out;have:=HK3.out;omega⟩,⟨by refine zr ?_;exact Kd.R_mono HO_5.out (fun _ hk=>trivial)⟩,⟨by refine zr ?_;exact HO526.out⟩,⟨by refine zr ?_;exact Kd.R_mono HO_24.out (fun _ hk=>trivial)⟩,⟨by (with_reducible repeat (first|apply Kd.V_alloc|apply Kd.V_drewN|apply Kd.V_drew));exact Kd.V_mono HO_34.out (fun _ hk=>⟨hk.2,⟨hk.1.1,hk.1.2.2⟩⟩)⟩,⟨by refine zr ?_;exact HO_40.out⟩,⟨by refine zj ?_;exact BK47.out⟩,⟨zv1 HB GE47⟩⟩
           ·(first|rw [c44b0]|(simp only [i64_w,i32_w];rw [c44b0])|skip)
            (try rw [c44b1]);have H':=zA H;clear H
            go_wp2
            go_roundg k3
            case measure=>have:=HK1.out;have:=HK2.out;have:=HK3.out;omega
            case rel=>exact ⟨(x6_3),(wrap64 (x42_3+1)),zT,H',⟨by have:=HK1.out;have:=HK2.out;have:=HK3.out;omega⟩,⟨by refine zr ?_;exact Kd.R_mono HO_5.out (fun _ hk=>trivial)⟩,⟨by refine zr ?_;exact HO_6.out⟩,⟨by refine zr ?_;exact Kd.R_mono HO_24.out (fun _ hk=>trivial)⟩,⟨by (with_reducible repeat (first|apply Kd.V_alloc|apply Kd.V_drewN|apply Kd.V_drew));exact Kd.V_mono HO_34.out (fun _ hk=>⟨hk.1.1,⟨hk.1.2.1,hk.1.2.2.2.2⟩⟩)⟩,⟨by refine zr ?_;exact HO_40.out⟩,⟨by refine zj ?_;exact BK47.out⟩,⟨zv1 HB GE47⟩⟩
          ·have H':=zA H;clear H
           go_wp2
           go_roundg k3
           case measure=>have:=HK1.out;have:=HK2.out;have:=HK3.out;omega
           case rel=>exact ⟨(x6_3),(wrap64 (x36_2+1)),zT,H',⟨by have:=HK1.out;have:=HK2.out;have:=HK3.out;omega⟩,⟨by refine zr ?_;exact HO_5.out⟩,⟨by refine zr ?_;exact HO_6.out⟩,⟨by refine zr ?_;exact HO_24.out⟩,⟨by (with_reducible repeat (first|apply Kd.V_alloc|apply Kd.V_drewN|apply Kd.V_drew));exact Kd.V_mono HO_34.out (fun _ hk=>⟨hk.1,hk.2.2⟩)⟩,⟨by refine zj ?_;exact BK47.out⟩,⟨zv1 HB GE47⟩⟩
       ·have H':=zA H;clear H
        go_wp2
        go_roundg k2
        case measure=>have:=HK1.out;have:=HK2.out;omega
        case rel=>exact ⟨(x6_2),(wrap64 (x26_1+1)),zT,H',⟨by have:=HK1.out;have:=HK2.out;omega⟩,⟨by refine zr ?_;exact HO_5.out⟩,⟨by refine zr ?_;exact HO_6.out⟩,⟨by refine zr ?_;exact HO_24.out⟩,⟨by refine zj ?_;exact BK47.out⟩,⟨zv1 HB GE47⟩⟩
    ·simp only [Option.some.injEq,Prod.mk.injEq] at H;obtain ⟨rfl,rfl⟩:=H
     go_wp2
     go_ret2
     exact ⟨_,ze,by refine zr ?_;exact HO_6.out,zv1 HB GE47⟩
 ·(first|rw [c7b0]|(simp only [i64_w,i32_w];rw [c7b0])|skip)
  (try rw [c7b1]);simp only [Option.some.injEq,Prod.mk.injEq] at H;obtain ⟨rfl,rfl⟩:=H
  go_wp2
  go_ret2
  exact ⟨_,ze,by first|exact Kd.R_nil _ _ _ _ _|exact Kd.N_nil _ _ _ _ _|exact Kd.V_nil _ _ _ _ _|exact Kd.Q_nil _ _ _ _ _|exact Kd.S_nil _ _ _ _ _,zv1 HB GE47⟩
def api_Link_25.l0:Nat→List (S53)→List (S53)→Int→Int→Option (Bool)
 | 0,_,_,_,_=>none
 | k+1,x0,x1,x12,x13=>if x13<x12 then (if 0≤x13 then (if x13<(x0.length:Int) then (if x13<(x1.length:Int) then (if (!(((rd_T53 x0 x13).f0) == ((rd_T53 x1 x13).f0))||(!(((rd_T53 x0 x13).f1) == ((rd_T53 x1 x13).f1))||(!(((rd_T53 x0 x13).f2) == ((rd_T53 x1 x13).f2)))))=true then (some false) else (api_Link_25.l0 k x0 x1 x12 (wrap64 (x13+1)))) else (none)) else (none)) else (none)) else (some true)
def api_Link_25.f (k:Nat) (l0:List (S53)) (l1:List (S53)):Option (Bool):=if (l0.length:Int)=(l1.length:Int) then (api_Link_25.l0 k l0 l1 (l0.length:Int) 0) else (some false)
set_option maxHeartbeats 8000000 in
set_option maxRecDepth 100000 in
theorem api_Link_25.calls (k:Nat) (A0:Option Addr) (c0:Nat) (l0:List (S53)) (A1:Option Addr) (c1:Nat) (l1:List (S53)) (r:Bool) (w:World) (hr0:Kd.C k53 w A0 l0.length l0) (hc0:l0.length≤c0) (hr1:Kd.C k53 w A1 l1.length l1) (hc1:l1.length≤c1) (h:api_Link_25.f k l0 l1=some r) :
  Calls Tryz.prog 25 #[.slice A0 l0.length c0,.slice A1 l1.length c1] w fun e w'=>e=.returned (.bool r)∧Drawn0 w w':=by
 have HR0:=zA hr0;have HC0:=zA hc0;clear hr0 hc0;have HR1:=zA hr1;have HC1:=zA hc1;clear hr1 hc1;have H:(if (l0.length:Int)=(l1.length:Int) then (api_Link_25.l0 k l0 l1 (l0.length:Int) 0) else (some false))=some r:=h;clear h
 rcases if0 H with ⟨c3,H⟩|⟨c3,H⟩
 ·have c3b0:((l0.length:Int) == (l1.length:Int))=true:=beq_iff_eq.mpr c3;have c3b1:((l0.length:Int) != (l1.length:Int))=false:=bne_eq_false_iff_eq.mpr c3
  have c3b2:(l0.length == l1.length)=true:=by first|simpa using c3|(simp at c3 ⊢;omega)
  clear c3;have H':=zA H;clear H
  go_enter Tryz.func25,Tryz.ntmps25
  go_wp2
  repeat (go_quiet (fail);try go_wp2)
  go_loopg [13] k (fun kq v13 w'=>∃ (x13_1:Int),v13=.int .i64 x13_1∧Aside0 (api_Link_25.l0 kq l0 l1 (l0.length:Int) x13_1=some r)∧Aside0 (kq≤k)∧Drawn0 w w')
  case atStart=>exact ⟨(0),zT,H',⟨Nat.le_refl _⟩,by repeat (first|exact Drawn0.refl _|apply Drawn0.step)⟩
  case round=>
   clear H'
   try clear c3
   try clear c3b0
   try clear c3b1
   try clear c3b2
   obtain ⟨x13_1,rfl,HA,HK1,⟨m1,rfl⟩⟩:=hrel
   cases gk with
   | zero=>exact absurd HA.out (by simp [api_Link_25.l0])
   | succ k1=>
    have H:=HA.out;clear HA;simp only [api_Link_25.l0] at H
    rcases ifd H with ⟨c4b0,H⟩|⟨c4b0,H⟩
    ·obtain ⟨c5b0,H⟩:=ifd1 H;obtain ⟨c6b0,H⟩:=ifd1 H;obtain ⟨c7b0,H⟩:=ifd1 H
     rcases if0 H with ⟨c8,H⟩|⟨c8,H⟩
     ·have c8b0:(!(((rd_T53 l0 x13_1).f0) == ((rd_T53 l1 x13_1).f0))||(!(((rd_T53 l0 x13_1).f1) == ((rd_T53 l1 x13_1).f1))||(!(((rd_T53 l0 x13_1).f2) == ((rd_T53 l1 x13_1).f2)))))=true:=c8;clear c8;obtain rfl:=Option.some.inj H;obtain ⟨p54,q54,ad54,e54,hx54_0,hx54_1,hx54_2⟩:=zp (at_T53 HR0.out x13_1)
      cases e54
      replace p54:=eq_true p54;replace q54:=eq_true q54;obtain ⟨p55,q55,ad55,e55,hx55_0,hx55_1,hx55_2⟩:=zp (at_T53 HR1.out x13_1)
      cases e55
      replace p55:=eq_true p55;replace q55:=eq_true q55
      go_wp2
      repeat (go_quiet (fail);try go_wp2)
      go_ret
      exact ⟨by first|rfl|(simp;done)|(simp [*];done),by repeat (first|exact Drawn0.refl _|apply Drawn0.step)⟩
     ·have c8b0:(!(((rd_T53 l0 x13_1).f0) == ((rd_T53 l1 x13_1).f0))||(!(((rd_T53 l0 x13_1).f1) == ((rd_T53 l1 x13_1).f1))||(!(((rd_T53 l0 x13_1).f2) == ((rd_T53 l1 x13_1).f2)))))=false:=by simpa using c8
      clear c8;have H':=zA H;clear H;obtain ⟨p54,q54,ad54,e54,hx54_0,hx54_1,hx54_2⟩:=zp (at_T53 HR0.out x13_1)
      cases e54
      replace p54:=eq_true p54;replace q54:=eq_true q54;obtain ⟨p55,q55,ad55,e55,hx55_0,hx55_1,hx55_2⟩:=zp (at_T53 HR1.out x13_1)
      cases e55
      replace p55:=eq_true p55;replace q55:=eq_true q55
      go_wp2
      repeat (go_quiet (fail);try go_wp2)
      go_roundg k1
      case measure=>have:=HK1.out;omega
      case rel=>exact ⟨(wrap64 (x13_1+1)),zT,H',⟨by have:=HK1.out;omega⟩,by repeat (first|exact Drawn0.refl _|apply Drawn0.step)⟩
    ·obtain rfl:=Option.some.inj H
     go_wp2
     repeat (go_quiet (fail);try go_wp2)
     go_ret
     exact ⟨by first|rfl|(simp;done)|(simp [*];done),by repeat (first|exact Drawn0.refl _|apply Drawn0.step)⟩
 ·have c3b0:((l0.length:Int) == (l1.length:Int))=false:=beq_eq_false_iff_ne.mpr c3;have c3b1:((l0.length:Int) != (l1.length:Int))=true:=bne_iff_ne.mpr c3
  have c3b2:(l0.length == l1.length)=false:=by first|simpa using c3|(simp at c3 ⊢;omega)
  obtain rfl:=Option.some.inj H
  go_enter Tryz.func25,Tryz.ntmps25
  go_wp2
  repeat (go_quiet (fail);try go_wp2)
  go_ret
  exact ⟨by first|rfl|(simp;done)|(simp [*];done),by repeat (first|exact Drawn0.refl _|apply Drawn0.step)⟩
def shared_Value.f (k:Nat) (l0:List (S63)) (a1:Int):Option (Int×Int):=(shared_given.f k l0).bind fun t85=>(if t85=0 then (if a1<0 then (some (0,6)) else (if a1≥24 then (some (0,6)) else ((shared_solvable.f k l0).bind fun t86=>(if t86=0 then ((solve_Vars.f k l0).bind fun t87=>((slices_Contains_int_int.f k t87 a1).bind fun t91=>(if t91=true then ((shared_value.f k l0 a1).bind fun t88=>(some (t88,0))) else (some (0,4))))) else (some (0,t86)))))) else (some (0,t85)))
set_option maxHeartbeats 8000000 in
set_option maxRecDepth 100000 in
theorem shared_Value.calls (k:Nat) (A0:Option Addr) (c0:Nat) (l0:List (S63)) (a1:Int) (r1:Int) (r2:Int) (w:World) (hr0:Kd.C k63 w A0 l0.length l0) (hc0:l0.length≤c0) (h:shared_Value.f k l0 a1=some (r1,r2)) :
  Calls Tryz.prog 27 #[.slice A0 l0.length c0,.int .i64 a1] w fun e w'=>e=.returned (.tuple #[.int .i64 r1,.int .i64 r2])∧Below w.heap.size w w':=by
 have HR0:=zA hr0;have HC0:=zA hc0;clear hr0 hc0;have HB:=zA (Below.refl w.heap.size w);have H:((shared_given.f k l0).bind fun t85=>(if t85=0 then (if a1<0 then (some (0,6)) else (if a1≥24 then (some (0,6)) else ((shared_solvable.f k l0).bind fun t86=>(if t86=0 then ((solve_Vars.f k l0).bind fun t87=>((slices_Contains_int_int.f k t87 a1).bind fun t91=>(if t91=true then ((shared_value.f k l0 a1).bind fun t88=>(some (t88,0))) else (some (0,4))))) else (some (0,t86)))))) else (some (0,t85))))=some (r1,r2):=h;clear h;obtain ⟨t85,A3,H⟩:=zo H;have HC4:=zA H;clear H
 go_enter Tryz.func27,Tryz.ntmps27
 go_upto_if 11 with (first|((with_reducible refine gate_callee (f:=43) rfl ?_);refine zgo 9 Tryz.func43 #[.slice A0 l0.length c0] ?_;(with_reducible refine (shared_given.calls k _ _ l0 t85 _ ?side1 HC0.out A3.out).mono ?_);(case side1=>repeat (first|exact HR0.out|(with_reducible refine Kd.C_alloc ?_ _)|(with_reducible refine Kd.C_drewN ?_ _)|(with_reducible refine Kd.C_drew ?_)));rintro e w5 ⟨rfl,hb⟩;refine ⟨_,rfl,?_⟩;replace HB:=zu hb;clear hb))
 (try simp only [Act.put,zi,zs,zt]);have H:=HC4.out;clear HC4
 rcases ife H with ⟨c6b0,c6b1,H⟩|⟨c6,c6b0,c6b1,H⟩
 ·(first|rw [c6b0]|(simp only [i64_w,i32_w];rw [c6b0])|skip)
  (try rw [c6b1])
  rcases ifd H with ⟨c7b0,H⟩|⟨c7b0,H⟩
  ·simp only [Option.some.injEq,Prod.mk.injEq] at H;obtain ⟨rfl,rfl⟩:=H
   go_wp2
   go_ret2
   exact ⟨ze,zv0 HB⟩
  ·rcases if0 H with ⟨c8,H⟩|⟨c8,H⟩
   ·have c8b0:decide (24≤a1)=true:=decide_eq_true c8;clear c8;simp only [Option.some.injEq,Prod.mk.injEq] at H;obtain ⟨rfl,rfl⟩:=H
    go_wp2
    go_ret2
    exact ⟨ze,zv0 HB⟩
   ·have c8b0:decide (24≤a1)=false:=decide_eq_false c8;clear c8;obtain ⟨t86,A9,H⟩:=zo H;have HC10:=zA H;clear H
    go_upto_if 22 with (first|((with_reducible refine gate_callee (f:=35) rfl ?_);refine zgo 20 Tryz.func35 #[.slice A0 l0.length c0] ?_;(with_reducible refine (shared_solvable.calls k _ _ l0 t86 _ (zD HR0 HB) HC0.out A9.out).mono ?_);rintro e w11 ⟨rfl,hb⟩;refine ⟨_,rfl,?_⟩;replace HB:=zu hb;clear hb))
    (try simp only [Act.put,zi,zs,zt]);have H:=HC10.out;clear HC10
    rcases ife H with ⟨c12b0,c12b1,H⟩|⟨c12,c12b0,c12b1,H⟩
    ·(first|rw [c12b0]|(simp only [i64_w,i32_w];rw [c12b0])|skip)
     (try rw [c12b1]);obtain ⟨t87,A13,H⟩:=zo H;obtain ⟨t91,A14,H⟩:=zo H;have HC15:=zA H;clear H
     go_upto_if 28 with (first|((with_reducible refine gate_callee (f:=36) rfl ?_);refine zgo 25 Tryz.func36 #[.slice A0 l0.length c0] ?_;(with_reducible refine (solve_Vars.calls k _ _ l0 t87 _ (zD HR0 HB) HC0.out A13.out).mono ?_);rintro e w16 ⟨v532,rfl,ho0,hb⟩;refine ⟨_,rfl,?_⟩;have HO93:=zA (Kd.R_lower ho0 (below_size zB));replace HB:=zu hb;clear hb;(try clear ho0);obtain ⟨Ao17,co17,eo17⟩:=Kd.R_slice HO93.out;subst eo17)|((with_reducible refine gate_callee (f:=20) rfl ?_);refine zgo 27 Tryz.func20 #[.slice Ao17 t87.length co17,.int .i64 a1] ?_;(with_reducible refine (slices_Contains_int_int.calls k _ _ t87 a1 t91 _ ?side1 ?side2 A14.out).mono ?_);(case side1=>exact zC (Kd.R_reads' HO93.out).2.2);(case side2=>exact (Kd.R_reads' HO93.out).2.1);rintro e w' ⟨rfl,⟨nd,rfl⟩⟩;refine ⟨_,rfl,?_⟩))
     (try simp only [Act.put,zi,zs,zt]);have H:=HC15.out;clear HC15
     by_cases c18:t91=true
     ·subst c18
      have H1:((shared_value.f k l0 a1).bind fun t88=>(some (t88,0)))=some (r1,r2):=by rw [if_pos rfl] at H;exact H
      clear H;have H:=H1;clear H1;obtain ⟨t88,A19,H⟩:=zo H;simp only [Option.some.injEq,Prod.mk.injEq] at H;obtain ⟨rfl,rfl⟩:=H
      go_wp2_with (first|((with_reducible refine gate_callee (f:=58) rfl ?_);refine zgo 31 Tryz.func58 #[.slice A0 l0.length c0,.int .i64 a1] ?_;(with_reducible refine (shared_value.calls k _ _ l0 a1 t88 _ (zD HR0 HB) HC0.out A19.out).mono ?_);rintro e w20 ⟨rfl,hb⟩;refine ⟨_,rfl,?_⟩;replace HO93:=zA (Kd.R_below (zR HO93) hb);replace HB:=zu hb;clear hb))
      go_ret2
      exact ⟨ze,zv0 HB⟩
     ·replace c18:=Bool.eq_false_iff.mpr c18;subst c18
      have H1:(some (0,4))=some (r1,r2):=by rw [if_neg (show ¬ (false=true) by decide)] at H;exact H
      clear H;have H:=H1;clear H1;simp only [Option.some.injEq,Prod.mk.injEq] at H;obtain ⟨rfl,rfl⟩:=H
      go_wp2
      go_ret2
      exact ⟨ze,zv0 HB⟩
    ·(first|rw [c12b0]|(simp only [i64_w,i32_w];rw [c12b0])|skip)
     (try rw [c12b1]);simp only [Option.some.injEq,Prod.mk.injEq] at H;obtain ⟨rfl,rfl⟩:=H
     go_wp2
     go_ret2
     exact ⟨ze,zv0 HB⟩
 ·(first|rw [c6b0]|(simp only [i64_w,i32_w];rw [c6b0])|skip)
  (try rw [c6b1]);simp only [Option.some.injEq,Prod.mk.injEq] at H;obtain ⟨rfl,rfl⟩:=H
  go_wp2
  go_ret2
  exact ⟨ze,zv0 HB⟩
def ancepslaw41_example.f :Option ((List (S63))):=some (([(⟨(([0,1]:List Int)),(([1,2]:List Int))⟩:S63),(⟨(([1,2]:List Int)),(([0,3]:List Int))⟩:S63)]:List (S63)))
set_option maxHeartbeats 8000000 in
set_option maxRecDepth 100000 in
theorem ancepslaw41_example.calls  (r:List (S63)) (w:World) (h:ancepslaw41_example.f =some r) :
  Calls Tryz.prog 30 #[] w fun e w'=>∃ v0_:Value,e=.returned (v0_)∧Kd.N k63 63 w' w.heap.size (fun k_=>(w.heap.size≤k_)) v0_ r∧Below w.heap.size w w':=by
 have HB:=zA (Below.refl w.heap.size w);have H:(some (([(⟨(([0,1]:List Int)),(([1,2]:List Int))⟩:S63),(⟨(([1,2]:List Int)),(([0,3]:List Int))⟩:S63)]:List (S63))))=some r:=h;clear h
 first|(replace H:=zyb (([0,1]:List Int)) H;obtain ⟨y66,Ny66,H⟩:=H)|(obtain ⟨y66,hy66⟩:=zY (([0,1]:List Int));(try rw (occs:=.pos [1]) [← hy66] at H);have Ny66:=zA hy66;clear hy66)
 first|(replace H:=zyb (([1,2]:List Int)) H;obtain ⟨y67,Ny67,H⟩:=H)|(obtain ⟨y67,hy67⟩:=zY (([1,2]:List Int));(try rw (occs:=.pos [1]) [← hy67] at H);have Ny67:=zA hy67;clear hy67)
 first|(replace H:=zyb (([1,2]:List Int)) H;obtain ⟨y68,Ny68,H⟩:=H)|(obtain ⟨y68,hy68⟩:=zY (([1,2]:List Int));(try rw (occs:=.pos [1]) [← hy68] at H);have Ny68:=zA hy68;clear hy68)
 first|(replace H:=zyb (([0,3]:List Int)) H;obtain ⟨y69,Ny69,H⟩:=H)|(obtain ⟨y69,hy69⟩:=zY (([0,3]:List Int));(try rw (occs:=.pos [1]) [← hy69] at H);have Ny69:=zA hy69;clear hy69)
 first|(replace H:=zyb (([(⟨y66,y67⟩:S63),(⟨y68,y69⟩:S63)]:List (S63))) H;obtain ⟨y79,Ny79,H⟩:=H)|(obtain ⟨y79,hy79⟩:=zY (([(⟨y66,y67⟩:S63),(⟨y68,y69⟩:S63)]:List (S63)));(try rw (occs:=.pos [1]) [← hy79] at H);have Ny79:=zA hy79;clear hy79)
 obtain rfl:=Option.some.inj H
 go_enter Tryz.func30,Tryz.ntmps30
 go_wp2_with (first|((with_reducible refine gate_dst (N:=1) rfl ?_);refine Kd.R_lit (Kd.int .i64) _ 3 ?hg (N:=1) ?hd (xs:=([0,1]:List Int)) (inner:=[.int .i64 0,.int .i64 1]) (ok:=fun _=>True) (okp:=fun _=>True) ?hr ?hp (fun _ hk=>hk) trivial (Below.refl _ _) (Nat.le_refl _) (by simp) ?_;(case hd=>rfl);(case hg=>rfl);(case hr=>first|(go_simp;done)|(go_simp;rfl));(case hp=>exact (Reps.one (show Kd.M (Kd.int .i64) _ _ _ 0 [.int .i64 0] from rfl) (Reps.one (show Kd.M (Kd.int .i64) _ _ _ 1 [.int .i64 1] from rfl) (Reps.none _ _))));intro v537 w1 ho2 hb hg_ hnew_;clear hg_ hnew_;(first|rw [← Ny66.out] at ho2|(simp only [Int.reduceToNat] at ho2;rw [← Ny66.out] at ho2));have HO72:=zA (Kd.R_lower (Kd.R_newM (M:=fun k_=>(w.heap.size≤k_)) ho2 (below_size zB) (fun k_ h_=>h_)) (below_size zB));replace HB:=zu hb;clear hb ho2)|((with_reducible refine gate_dst (N:=2) rfl ?_);refine Kd.R_lit (Kd.int .i64) _ 3 ?hg (N:=2) ?hd (xs:=([1,2]:List Int)) (inner:=[.int .i64 1,.int .i64 2]) (ok:=fun _=>True) (okp:=fun _=>True) ?hr ?hp (fun _ hk=>hk) trivial (Below.refl _ _) (Nat.le_refl _) (by simp) ?_;(case hd=>rfl);(case hg=>rfl);(case hr=>first|(go_simp;done)|(go_simp;rfl));(case hp=>exact (Reps.one (show Kd.M (Kd.int .i64) _ _ _ 1 [.int .i64 1] from rfl) (Reps.one (show Kd.M (Kd.int .i64) _ _ _ 2 [.int .i64 2] from rfl) (Reps.none _ _))));intro v540 w3 ho4 hb hg_ hnew_;clear hg_ hnew_;(first|rw [← Ny67.out] at ho4|(simp only [Int.reduceToNat] at ho4;rw [← Ny67.out] at ho4));have HO77:=zA (Kd.R_lower (Kd.R_new' (Kd.R_newM (M:=fun k_=>(w.heap.size≤k_)) ho4 (below_size zB) (fun k_ h_=>h_)) (Kd.R_lt (zR HO72))) (below_size zB));replace HO72:=zA (Kd.R_elder' (zR HO72) (Kd.R_base ho4) hb);replace HB:=zu hb;clear hb ho4;obtain ⟨Ao5,co5,eo5⟩:=Kd.R_slice HO77.out;subst eo5;obtain ⟨Ao6,co6,eo6⟩:=Kd.R_slice HO72.out;subst eo6)|((with_reducible refine gate_dst (N:=4) rfl ?_);refine Kd.R_lit (Kd.int .i64) _ 3 ?hg (N:=4) ?hd (xs:=([1,2]:List Int)) (inner:=[.int .i64 1,.int .i64 2]) (ok:=fun _=>True) (okp:=fun _=>True) ?hr ?hp (fun _ hk=>hk) trivial (Below.refl _ _) (Nat.le_refl _) (by simp) ?_;(case hd=>rfl);(case hg=>rfl);(case hr=>first|(go_simp;done)|(go_simp;rfl));(case hp=>exact (Reps.one (show Kd.M (Kd.int .i64) _ _ _ 1 [.int .i64 1] from rfl) (Reps.one (show Kd.M (Kd.int .i64) _ _ _ 2 [.int .i64 2] from rfl) (Reps.none _ _))));intro v543 w7 ho8 hb hg_ hnew_;clear hg_ hnew_;(first|rw [← Ny68.out] at ho8|(simp only [Int.reduceToNat] at ho8;rw [← Ny68.out] at ho8));have HO89:=zA (Kd.R_lower (Kd.R_new' (Kd.R_new' (Kd.R_newM (M:=fun k_=>(w.heap.size≤k_)) ho8 (below_size zB) (fun k_ h_=>h_)) (Kd.R_lt (zR HO72))) (Kd.R_lt (zR HO77))) (below_size zB));replace HO72:=zA (Kd.R_elder' (zR HO72) (Kd.R_base ho8) hb);replace HO77:=zA (Kd.R_elder' (zR HO77) (Kd.R_base ho8) hb);replace HB:=zu hb;clear hb ho8)|((with_reducible refine gate_dst (N:=5) rfl ?_);refine Kd.R_lit (Kd.int .i64) _ 3 ?hg (N:=5) ?hd (xs:=([0,3]:List Int)) (inner:=[.int .i64 0,.int .i64 3]) (ok:=fun _=>True) (okp:=fun _=>True) ?hr ?hp (fun _ hk=>hk) trivial (Below.refl _ _) (Nat.le_refl _) (by simp) ?_;(case hd=>rfl);(case hg=>rfl);(case hr=>first|(go_simp;done)|(go_simp;rfl));(case hp=>exact (Reps.one (show Kd.M (Kd.int .i64) _ _ _ 0 [.int .i64 0] from rfl) (Reps.one (show Kd.M (Kd.int .i64) _ _ _ 3 [.int .i64 3] from rfl) (Reps.none _ _))));intro v546 w9 ho10 hb hg_ hnew_;clear hg_ hnew_;(first|rw [← Ny69.out] at ho10|(simp only [Int.reduceToNat] at ho10;rw [← Ny69.out] at ho10));have HO97:=zA (Kd.R_lower (Kd.R_new' (Kd.R_new' (Kd.R_new' (Kd.R_newM (M:=fun k_=>(w.heap.size≤k_)) ho10 (below_size zB) (fun k_ h_=>h_)) (Kd.R_lt (zR HO72))) (Kd.R_lt (zR HO77))) (Kd.R_lt (zR HO89))) (below_size zB));replace HO72:=zA (Kd.R_elder' (zR HO72) (Kd.R_base ho10) hb);replace HO77:=zA (Kd.R_elder' (zR HO77) (Kd.R_base ho10) hb);replace HO89:=zA (Kd.R_elder' (zR HO89) (Kd.R_base ho10) hb);replace HB:=zu hb;clear hb ho10;obtain ⟨Ao11,co11,eo11⟩:=Kd.R_slice HO97.out;subst eo11;obtain ⟨Ao12,co12,eo12⟩:=Kd.R_slice HO89.out;subst eo12)|((with_reducible refine gate_dst (N:=7) rfl ?_);refine Kd.N_lit k63 _ 63 ?hg (N':=7) ?hd (xs:=([(⟨y66,y67⟩:S63),(⟨y68,y69⟩:S63)]:List (S63))) (inner:=[.slice Ao6 y66.length co6,.slice Ao5 y67.length co5,.slice Ao12 y68.length co12,.slice Ao11 y69.length co11]) (ok:=(fun k_=>(w.heap.size≤k_))) (okp:=(fun k_=>(w.heap.size≤k_))) ?hr ?hp (fun _ hk=>hk) ((show ∀ k_,w9.heap.size≤k_→(fun k_=>(w.heap.size≤k_)) k_ from fun k_ hk=>(Nat.le_trans (below_size zB) hk)) _ (Nat.le_refl _)) (Below.refl _ _) (Nat.le_refl _) (by simp) ?_;(case hd=>rfl);(case hg=>rfl);(case hr=>first|(go_simp;done)|(go_simp;rfl));(case hp=>exact (Reps.c2 (show Kd.FK k63 _ _ (⟨y66,y67⟩:S63) [.slice Ao6 y66.length co6,.slice Ao5 y67.length co5] from (k63_mkF _ _ (⟨y66,y67⟩:S63) (Kd.R_reads' (Kd.R_mono (ok':=(fun k_=>(w.heap.size≤k_))) (HO72.out) (fun k_ hk=>hk.1.1.1.1))).2.1 (Kd.R_F (Kd.R_mono (ok':=(fun k_=>(w.heap.size≤k_))) (HO72.out) (fun k_ hk=>hk.1.1.1.1))) (Kd.R_reads' (Kd.R_mono (ok':=(fun k_=>(w.heap.size≤k_))) (HO77.out) (fun k_ hk=>hk.1.1.1.1))).2.1 (Kd.R_F (Kd.R_mono (ok':=(fun k_=>(w.heap.size≤k_))) (HO77.out) (fun k_ hk=>hk.1.1.1.1))))) (Reps.c2 (show Kd.FK k63 _ _ (⟨y68,y69⟩:S63) [.slice Ao12 y68.length co12,.slice Ao11 y69.length co11] from (k63_mkF _ _ (⟨y68,y69⟩:S63) (Kd.R_reads' (Kd.R_mono (ok':=(fun k_=>(w.heap.size≤k_))) (HO89.out) (fun k_ hk=>hk.1.1.1.1))).2.1 (Kd.R_F (Kd.R_mono (ok':=(fun k_=>(w.heap.size≤k_))) (HO89.out) (fun k_ hk=>hk.1.1.1.1))) (Kd.R_reads' (Kd.R_mono (ok':=(fun k_=>(w.heap.size≤k_))) (HO97.out) (fun k_ hk=>hk.1.1.1.1))).2.1 (Kd.R_F (Kd.R_mono (ok':=(fun k_=>(w.heap.size≤k_))) (HO97.out) (fun k_ hk=>hk.1.1.1.1))))) (Reps.none _ _))));intro v549 w13 ho14 hb hg_ hnew_;clear hg_ hnew_;(first|rw [← Ny79.out] at ho14|(simp only [Int.reduceToNat] at ho14;rw [← Ny79.out] at ho14));have HO550:=zA (Kd.N_lower ho14 (below_size zB));replace HB:=zu hb;clear HO72 HO77 HO89 HO97;clear hb ho14))
 go_ret
 exact ⟨_,ze,by (with_reducible repeat (first|apply Kd.N_alloc|apply Kd.N_drewN|apply Kd.N_drew));exact HO550.out,zv0 HB⟩
end Go.Proofs.YtngpkbbljnbojaaGreat.L
