import Derived.Test.YtngpkbbljnbojaaGreatA0
import Derived.Test.YtngpkbbljnbojaaGreatA5
namespace Go.Proofs.YtngpkbbljnbojaaGreat.A
open Go.RowKit Go.Proofs.YtngpkbbljnbojaaGreatW.PrintWords Go.Proofs.YtngpkbbljnbojaaGreatW.PrintLast Go.Proofs.YtngpkbbljnbojaaGreatW.PrintMore
attribute [local go_sem] max2_int min2_int max_two min_two max_three min_three max_four min_four Tryz.underlying3 Tryz.underlying43 Tryz.underlying63
set_option linter.unusedVariables false
set_option linter.unusedSimpArgs false
def cmp_isNaN_int.f (a0:Int):Option (Bool):=some (a0 != a0)
set_option maxHeartbeats 8000000 in
set_option maxRecDepth 100000 in
theorem cmp_isNaN_int.calls (a0:Int) (r:Bool) (w:World) (h:cmp_isNaN_int.f a0=some r) :
  Calls Tryz.prog 142 #[.int .i64 a0] w fun e w'=>e=.returned (.bool r)∧Drawn0 w w':=by
 have H:(some (a0 != a0))=some r:=h;clear h;obtain rfl:=Option.some.inj H
 go_enter Tryz.func142,Tryz.ntmps142
 go_wp2
 go_ret
 exact ⟨by first|rfl|(simp;done)|(simp [*];done),by repeat (first|exact Drawn0.refl _|apply Drawn0.step)⟩
def cmp_Less_int.f (a0:Int) (a1:Int):Option (Bool):=(cmp_isNaN_int.f a0).bind fun t113=>(if t113=true then ((cmp_isNaN_int.f a1).bind fun t59=>(if t59=true then (some (decide (a0<a1))) else (some true))) else (some (decide (a0<a1))))
set_option maxHeartbeats 8000000 in
set_option maxRecDepth 100000 in
theorem cmp_Less_int.calls (a0:Int) (a1:Int) (r:Bool) (w:World) (h:cmp_Less_int.f a0 a1=some r) :
  Calls Tryz.prog 126 #[.int .i64 a0,.int .i64 a1] w fun e w'=>e=.returned (.bool r)∧Drawn0 w w':=by
 have H:((cmp_isNaN_int.f a0).bind fun t113=>(if t113=true then ((cmp_isNaN_int.f a1).bind fun t59=>(if t59=true then (some (decide (a0<a1))) else (some true))) else (some (decide (a0<a1)))))=some r:=h;clear h;obtain ⟨t113,A3,H⟩:=zo H
 by_cases c4:t113=true
 ·subst c4
  have H1:((cmp_isNaN_int.f a1).bind fun t59=>(if t59=true then (some (decide (a0<a1))) else (some true)))=some r:=by rw [if_pos rfl] at H;exact H
  clear H;have H:=H1;clear H1;obtain ⟨t59,A5,H⟩:=zo H
  by_cases c6:t59=true
  ·subst c6
   have H1:(some (decide (a0<a1)))=some r:=by rw [if_pos rfl] at H;exact H
   clear H;have H:=H1;clear H1;obtain rfl:=Option.some.inj H
   go_enter Tryz.func126,Tryz.ntmps126
   go_wp2_with (first|((with_reducible refine gate_callee (f:=142) rfl ?_);refine zgo 6 Tryz.func142 #[.int .i64 a0] ?_;(with_reducible refine (cmp_isNaN_int.calls a0 true _ A3.out).mono ?_);rintro e w' ⟨rfl,⟨nd,rfl⟩⟩;refine ⟨_,rfl,?_⟩)|(go_at_call 142;(with_reducible refine (cmp_isNaN_int.calls a1 true _ A5.out).mono ?_);rintro e w' ⟨rfl,⟨nd,rfl⟩⟩))
   go_ret
   exact ⟨by first|rfl|(simp;done)|(simp [*];done),by repeat (first|exact Drawn0.refl _|apply Drawn0.step)⟩
  ·replace c6:=Bool.eq_false_iff.mpr c6;subst c6
   have H1:(some true)=some r:=by rw [if_neg (show ¬ (false=true) by decide)] at H;exact H
   clear H;have H:=H1;clear H1;obtain rfl:=Option.some.inj H
   go_enter Tryz.func126,Tryz.ntmps126
   go_wp2_with (first|((with_reducible refine gate_callee (f:=142) rfl ?_);refine zgo 6 Tryz.func142 #[.int .i64 a0] ?_;(with_reducible refine (cmp_isNaN_int.calls a0 true _ A3.out).mono ?_);rintro e w' ⟨rfl,⟨nd,rfl⟩⟩;refine ⟨_,rfl,?_⟩)|(go_at_call 142;(with_reducible refine (cmp_isNaN_int.calls a1 false _ A5.out).mono ?_);rintro e w' ⟨rfl,⟨nd,rfl⟩⟩))
   go_ret
   exact ⟨by first|rfl|(simp;done)|(simp [*];done),by repeat (first|exact Drawn0.refl _|apply Drawn0.step)⟩
 ·replace c4:=Bool.eq_false_iff.mpr c4;subst c4
  have H1:(some (decide (a0<a1)))=some r:=by rw [if_neg (show ¬ (false=true) by decide)] at H;exact H
  clear H;have H:=H1;clear H1;obtain rfl:=Option.some.inj H
  go_enter Tryz.func126,Tryz.ntmps126
  go_wp2_with (first|((with_reducible refine gate_callee (f:=142) rfl ?_);refine zgo 6 Tryz.func142 #[.int .i64 a0] ?_;(with_reducible refine (cmp_isNaN_int.calls a0 false _ A3.out).mono ?_);rintro e w' ⟨rfl,⟨nd,rfl⟩⟩;refine ⟨_,rfl,?_⟩))
  go_ret
  exact ⟨by first|rfl|(simp;done)|(simp [*];done),by repeat (first|exact Drawn0.refl _|apply Drawn0.step)⟩
def table_assignment.l0:Nat→Int→Int→List Int→Int→Int→Option (Int)
 | 0,_,_,_,_,_=>none
 | k+1,x1,x5,x8,x9,x10=>if x10<x9 then (if 0≤x10 then (if x10<(x8.length:Int) then (if 0≤(rd x8 x10) then (table_assignment.l0 k x1 (Go.bits .or .i64 x5 (shl .i64 (Go.bits .and .i64 (shr .i64 x1 x10) 1) (rd x8 x10))) x8 x9 (wrap64 (x10+1))) else (none)) else (none)) else (none)) else (some x5)
def table_assignment.f (k:Nat) (l0:List Int) (a1:Int):Option (Int):=table_assignment.l0 k a1 0 l0 (l0.length:Int) 0
set_option maxHeartbeats 8000000 in
set_option maxRecDepth 100000 in
theorem table_assignment.calls (k:Nat) (A0:Option Addr) (c0:Nat) (l0:List Int) (a1:Int) (r:Int) (w:World) (hr0:Kd.C (Kd.int .i64) w A0 l0.length l0) (hc0:l0.length≤c0) (h:table_assignment.f k l0 a1=some r) :
  Calls Tryz.prog 110 #[.slice A0 l0.length c0,.int .i64 a1] w fun e w'=>e=.returned (.int .i64 r)∧Drawn0 w w':=by
 have HR0:=zA hr0;have HC0:=zA hc0;clear hr0 hc0;have H:(table_assignment.l0 k a1 0 l0 (l0.length:Int) 0)=some r:=h;clear h;have H':=zA H;clear H
 go_enter Tryz.func110,Tryz.ntmps110
 go_wp2
 go_loopg [5,10] k (fun kq v5 v10 w'=>∃ (x5_1:Int) (x10_1:Int),v5=.int .i64 x5_1∧v10=.int .i64 x10_1∧Aside0 (table_assignment.l0 kq a1 x5_1 l0 (l0.length:Int) x10_1=some r)∧Aside0 (kq≤k)∧Drawn0 w w')
 case atStart=>exact ⟨(0),(0),zT,zT,H',⟨Nat.le_refl _⟩,by repeat (first|exact Drawn0.refl _|apply Drawn0.step)⟩
 case round=>
  clear H';obtain ⟨x5_1,x10_1,rfl,rfl,HA,HK1,⟨m1,rfl⟩⟩:=hrel
  cases gk with
  | zero=>exact absurd HA.out (by simp [table_assignment.l0])
  | succ k1=>
   have H:=HA.out;clear HA;simp only [table_assignment.l0] at H
   rcases ifd H with ⟨c3b0,H⟩|⟨c3b0,H⟩
   ·obtain ⟨c4b0,H⟩:=ifd1 H;obtain ⟨c5b0,H⟩:=ifd1 H;have c6b0:=eq_true (of_decide_eq_true zh:0≤x10_1);obtain ⟨ji7,hji7⟩:=zZ (shr .i64 a1 x10_1)
    first|rw [hji7] at H|simp only [hji7] at H
    have hji7_:(a1 / 2 ^ min x10_1.toNat 64)=ji7:=hji7;have hji7z:x10_1≤64→(a1 / 2 ^ x10_1.toNat)=ji7:=shr_small hji7;obtain ⟨c8,H⟩:=if1 H;have c8b0:=eq_true c8;have c8b1:decide (0≤(rd l0 x10_1))=true:=decide_eq_true c8;clear c8;obtain ⟨ji9,hji9⟩:=zZ (shl .i64 (Go.bits .and .i64 (ji7) 1) (rd l0 x10_1))
    first|rw [hji9] at H|simp only [hji9] at H
    have hji9_:(IntKind.i64.wrap ((Go.bits .and .i64 (ji7) 1) * 2 ^ min (rd l0 x10_1).toNat 64))=ji9:=hji9;have hji9z:(rd l0 x10_1)≤64→(IntKind.i64.wrap ((Go.bits .and .i64 (ji7) 1) * 2 ^ (rd l0 x10_1).toNat))=ji9:=shl_small hji9;have hji9y:(wrap64 ((Go.bits .and .i64 (ji7) 1) * 2 ^ min (rd l0 x10_1).toNat 64))=ji9:=(i64_w _).symm.trans hji9_
    have hji9x:(rd l0 x10_1)≤64→(wrap64 ((Go.bits .and .i64 (ji7) 1) * 2 ^ (rd l0 x10_1).toNat))=ji9:=fun h_=>(i64_w _).symm.trans (hji9z h_)
    have H':=zA H;clear H;obtain ⟨p54,q54,ad54,e54,hx54_0⟩:=zp (Kd.at_int HR0.out x10_1)
    cases e54
    replace p54:=eq_true p54;replace q54:=eq_true q54
    go_wp2
    go_roundg k1
    case measure=>have:=HK1.out;omega
    case rel=>exact ⟨(Go.bits .or .i64 x5_1 (ji9)),(wrap64 (x10_1+1)),(by first|rfl|(simp;done)|(simp only [← hji9] <;> (first|rfl|simp))|(simp [*];done)),zT,H',⟨by have:=HK1.out;omega⟩,by repeat (first|exact Drawn0.refl _|apply Drawn0.step)⟩
   ·obtain rfl:=Option.some.inj H
    go_wp2
    go_ret
    exact ⟨by first|rfl|(simp;done)|(simp [*];done),by repeat (first|exact Drawn0.refl _|apply Drawn0.step)⟩
def table_without_1_v1.f (a0:Int) (a1_0:Int):Option (Bool):=some (a0 == a1_0)
set_option maxHeartbeats 8000000 in
set_option maxRecDepth 100000 in
theorem table_without_1_v1.calls (a0:Int) (gp1_0:Nat) (a1_0:Int) (r:Bool) (w:World) (hb_gp1_0:w.heap[gp1_0]?=some (.cells #[.int .i64 a1_0] 3 (0,0))) (h:table_without_1_v1.f a0 a1_0=some r) :
  Calls Tryz.prog 111 #[.int .i64 a0,.pointer (some ⟨gp1_0,0,none⟩)] w fun e w'=>e=.returned (.bool r)∧Drawn0 w w':=by
 have BK77:=zA hb_gp1_0;clear hb_gp1_0;have H:(some (a0 == a1_0))=some r:=h;clear h;obtain rfl:=Option.some.inj H;have hcz3_0:w.cell? ⟨gp1_0,0,none⟩=some (.int .i64 a1_0):=zc0 BK77;have hfz3_0:=zf BK77 0
 go_enter Tryz.func111,Tryz.ntmps111
 go_wp2
 go_ret
 exact ⟨by first|rfl|(simp;done)|(simp [*];done),by repeat (first|exact Drawn0.refl _|apply Drawn0.step)⟩
section
open Go.Sort Go.Shelf
def slices_DeleteFunc_int_int_table_without_1.f (l0:List Int) (a1_0:Int):Option (List Int):=some (l0.filter fun x=>!(x == a1_0))
theorem slices_DeleteFunc_int_int_table_without_1.calls (P0_:Nat→Prop) (u74_:Value) (l0:List Int) (gp1_0:Nat) (a1_0:Int) (r:List Int) (w0 w:World) (hB:Below w0.heap.size w0 w) (ho0:Kd.R (Kd.int .i64) 3 w w0.heap.size P0_ u74_ l0) (hb_gp1_0:w.heap[gp1_0]?=some (.cells #[.int .i64 a1_0] 3 (0,0))) (hap:∀ k_,P0_ k_→k_≠gp1_0) (h:slices_DeleteFunc_int_int_table_without_1.f l0 a1_0=some r) :
 Calls Tryz.prog 56 #[u74_,.func (.func 111) #[] #[.pointer (some ⟨gp1_0,0,none⟩)]] w fun e w'=>∃ v0_:Value,e=.returned (v0_)∧Kd.R (Kd.int .i64) 3 w' w0.heap.size (fun k_=>(P0_ k_∨w.heap.size≤k_)) v0_ r∧Below w0.heap.size w0 w'∧Kept w w' (fun k_=>P0_ k_):=by
 obtain rfl:=Option.some.inj h;obtain ⟨A,c,rfl⟩:=Kd.R_slice ho0
 have hone:OneCell (Value.int .i64):=fun _=>rfl
 have hgp:gp1_0<w.heap.size:=(Array.getElem?_eq_some_iff.1 hb_gp1_0).1
 have gives:∀ (W:World) (x:Int),W.heap[gp1_0]?=some (.cells #[.int .i64 a1_0] 3 (0,0))→FnGives Tryz.prog 111 #[.pointer (some ⟨gp1_0,0,none⟩)] #[.int .i64 x] (.bool (x == a1_0)) W:=by
  intro W x hb;refine (table_without_1_v1.calls x gp1_0 a1_0 (x == a1_0) W hb rfl).mono ?_;rintro e w' ⟨rfl,hd⟩;exact ⟨rfl,hd.out⟩
 have hp:PredAt Tryz.prog 111 #[.pointer (some ⟨gp1_0,0,none⟩)] (Value.int .i64) (fun x=>x == a1_0) w:=fun W x hb=>gives W x ((hb.block _ hgp).trans hb_gp1_0)
 rcases A with _|ad
 ·have hl:l0=[]:=by
   rcases l0 with _|⟨x,xs⟩
   ·rfl
   ·have ho:=Kd.own_of_R (enc:=Value.int .i64) (h1:=fun _=>rfl) ho0
    rcases ho.2 with ⟨_,h0⟩|⟨_,_,_,h0,_⟩
    ·simp at h0
    ·simp at h0
  subst hl;refine (deleteFunc_nil laysDelete c _ w).mono ?_;rintro e w' ⟨rfl,rfl⟩;exact ⟨_,rfl,Kd.R_mono ho0 (fun k hk=>.inl hk),hB,Kept.refl _ _⟩
 ·have had:∃ g,ad=⟨g,0,none⟩:=by
   have ho:=Kd.own_of_R (enc:=Value.int .i64) (h1:=fun _=>rfl) ho0
   rcases ho.2 with ⟨h0,_⟩|⟨g,_,_,h0,_⟩
   ·simp at h0
   ·injection h0 with h0;injection h0 with h0;exact ⟨g,h0⟩
  obtain ⟨g,rfl⟩:=had;obtain ⟨h1,h2,h3,h4,h5,h6,h7⟩:=int_row ho0
  have hne:gp1_0≠g:=fun e_=>hap g h1 e_.symm
  have hpo:PredOver Tryz.prog 111 #[.pointer (some ⟨gp1_0,0,none⟩)] (Value.int .i64) (fun x=>x == a1_0) g 0 l0.toArray.size w:=by
   intro n os dk x _;refine gives _ x ?_
   show (grow (putRow (Value.int .i64) (Sort.ahead w n) g 0 dk) os).heap[gp1_0]?=_
   rw [heap_grow_old _ _ (by simpa [putRow,mapBlock,Sort.ahead] using hgp)]
   simpa [putRow,mapBlock,Sort.ahead,Array.getElem?_modify,hne.symm] using hb_gp1_0
  have key:=AnyE.slices_DeleteFunc laysDelete (Value.int .i64) hone (fun x=>x == a1_0) 111 #[.pointer (some ⟨gp1_0,0,none⟩)] (enters_of Tryz.func111 zK rfl) 0 Tryz.zeroValue3 g 0 c l0.toArray w hp hpo h7 (by unfold maxLen at h6;simp;omega) (by simpa using h5);have hle:(l0.filter fun x=>!(x == a1_0)).length≤l0.length:=List.length_filter_le _ _;rw [List.size_toArray] at key;refine key.mono ?_;rintro e w' ⟨rfl,q,rfl⟩;have hr:=int_row_put (ok':=fun k_=>(P0_ k_∨w.heap.size≤k_)) (ys:=(l0.filter fun x=>!(x == a1_0))++List.replicate (l0.length - (l0.filter fun x=>!(x == a1_0)).length) 0) ho0 q #[] (by simp;omega) hle (.inl h1);rw [List.take_left,grow_empty] at hr;have hb:=put_below hB h2 q #[] ((l0.filter fun x=>!(x == a1_0))++List.replicate (l0.length - (l0.filter fun x=>!(x == a1_0)).length) 0).toArray;have hk:=put_kept (ok:=fun k_=>P0_ k_) (w:=w) q #[] ((l0.filter fun x=>!(x == a1_0))++List.replicate (l0.length - (l0.filter fun x=>!(x == a1_0)).length) 0).toArray h1;rw [grow_empty] at hb hk;exact ⟨_,rfl,hr,hb,hk⟩
end
def table_without.f (l0:List Int) (a1:Int):Option (List Int):=(slices_Clone_int_int.f l0).bind fun t55=>((slices_DeleteFunc_int_int_table_without_1.f t55 a1).bind fun t68=>(some t68))
set_option maxHeartbeats 8000000 in
set_option maxRecDepth 100000 in
theorem table_without.calls (A0:Option Addr) (c0:Nat) (l0:List Int) (a1:Int) (r:List Int) (w:World) (hr0:Kd.C (Kd.int .i64) w A0 l0.length l0) (hc0:l0.length≤c0) (h:table_without.f l0 a1=some r) :
  Calls Tryz.prog 84 #[.slice A0 l0.length c0,.int .i64 a1] w fun e w'=>∃ v0_:Value,e=.returned (v0_)∧Kd.R (Kd.int .i64) 3 w' w.heap.size (fun _=>True) v0_ r∧Below w.heap.size w w':=by
 have HR0:=zA hr0;have HC0:=zA hc0;clear hr0 hc0;have HB:=zA (Below.refl w.heap.size w);have H:((slices_Clone_int_int.f l0).bind fun t55=>((slices_DeleteFunc_int_int_table_without_1.f t55 a1).bind fun t68=>(some t68)))=some r:=h;clear h;obtain ⟨t55,A3,H⟩:=zo H;obtain ⟨t68,A4,H⟩:=zo H;obtain rfl:=Option.some.inj H
 go_enter Tryz.func84,Tryz.ntmps84
 go_wp2_with (first|((with_reducible refine gd 3 rfl ?_);refine zx #[.int .i64 a1] 3 ?_;intro gb51 hg w5 BK51 hb GW51 HB1;have GE51:=GW51;clear HB hb hg;have HB:=HB1;clear HB1)|((with_reducible refine gate_callee (f:=38) rfl ?_);refine zgo 6 Tryz.func38 #[.slice A0 l0.length c0] ?_;(with_reducible refine (slices_Clone_int_int.calls _ _ l0 t55 _ (zD HR0 HB) HC0.out A3.out).mono ?_);rintro e w6 ⟨v80,rfl,ho0,hb⟩;refine ⟨_,rfl,?_⟩;have HO67:=zA (Kd.R_lower (Kd.R_newB ho0 (g:=gb51) (o:=.cells #[.int .i64 a1] 3 (0,0)) (zk BK51)) (below_size zB));replace BK51:=zw BK51 hb;replace HB:=zu hb;clear hb;(try clear ho0);obtain ⟨Ao7,co7,eo7⟩:=Kd.R_slice HO67.out;subst eo7)|((with_reducible refine gate_callee (f:=56) rfl ?_);refine zgo 8 Tryz.func56 #[.slice Ao7 t55.length co7,.func (.func 111) #[] #[.pointer (some ⟨gb51,0,none⟩)]] ?_;(with_reducible refine (slices_DeleteFunc_int_int_table_without_1.calls (fun k_=>some k_=(.slice Ao7 t55.length co7:Value).ownBlock) (.slice Ao7 t55.length co7) t55 gb51 a1 t68 w _ ?side1 ?side2 ?side3 ?side4 A4.out).mono ?_);(case side1=>repeat (first|(with_reducible first|exact HB.out|apply below_alloc|apply pw_below_drewN|apply below_drew1|refine below_set ?_ GE51.out)|exact HB.out));(case side2=>exact Kd.R_tight rfl HO67.out);(case side3=>refine zj ?_;exact BK51.out);(case side4=>exact fun k_ e_=>(HO67.out.1 k_ e_.symm).2);rintro e w8 ⟨v81,rfl,ho0,hb,hkp⟩;refine ⟨_,rfl,?_⟩;have HO79:=zA (Kd.R_mono (ok':=fun k_=>k_≠gb51) ho0 (fun k_ hk_=>Or.elim hk_ (fun hs_=>fun e_=>(Kd.R_away HO67.out (fun _ hk=>hk.2)) (by rw [← e_];exact hs_)) (fun hn_=>(Kd.freshB (g:=gb51) (o:=.cells #[.int .i64 a1] 3 (0,0)) (zk BK51) k_ hn_))));replace BK51:=zA (blk_kept (zk BK51) hkp (fun hs_=>(fun e_=>(Kd.R_away HO67.out (fun _ hk=>hk.2)) e_) hs_));replace HB:=zA (hb);clear HO67;(try clear hb);(try clear hkp);(try clear ho0)))
 go_ret
 exact ⟨_,ze,by refine zr ?_;exact Kd.R_mono HO79.out (fun _ hk=>trivial),zv1 HB GE51⟩
def slices_isNaN_int.f (a0:Int):Option (Bool):=some (a0 != a0)
set_option maxHeartbeats 8000000 in
set_option maxRecDepth 100000 in
theorem slices_isNaN_int.calls (a0:Int) (r:Bool) (w:World) (h:slices_isNaN_int.f a0=some r) :
  Calls Tryz.prog 127 #[.int .i64 a0] w fun e w'=>e=.returned (.bool r)∧Drawn0 w w':=by
 have H:(some (a0 != a0))=some r:=h;clear h;obtain rfl:=Option.some.inj H
 go_enter Tryz.func127,Tryz.ntmps127
 go_wp2
 go_ret
 exact ⟨by first|rfl|(simp;done)|(simp [*];done),by repeat (first|exact Drawn0.refl _|apply Drawn0.step)⟩
def slices_BinarySearch_int_int.l0:Nat→List Int→Int→Int→Int→Int→Option (Int×Bool)
 | 0,_,_,_,_,_=>none
 | k+1,x0,x1,x6,x7,x8=>if x7<x8 then (if 0≤(wrap64 ((IntKind.u64.wrap (wrap64 (x7+x8))) / 2)) then (if (wrap64 ((IntKind.u64.wrap (wrap64 (x7+x8))) / 2))<(x0.length:Int) then ((cmp_Less_int.f (rd x0 (wrap64 ((IntKind.u64.wrap (wrap64 (x7+x8))) / 2))) x1).bind fun t70=>(if t70=true then (slices_BinarySearch_int_int.l0 k x0 x1 x6 (wrap64 ((wrap64 ((IntKind.u64.wrap (wrap64 (x7+x8))) / 2))+1)) x8) else (slices_BinarySearch_int_int.l0 k x0 x1 x6 x7 (wrap64 ((IntKind.u64.wrap (wrap64 (x7+x8))) / 2))))) else (none)) else (none)) else (if x7<x6 then (if 0≤x7 then (if x7<(x0.length:Int) then (if (rd x0 x7)=x1 then (some (x7,true)) else ((slices_isNaN_int.f (rd x0 x7)).bind fun t75=>(if t75=true then ((slices_isNaN_int.f x1).bind fun t69=>(some (x7,t69))) else (some (x7,false))))) else (none)) else (none)) else (some (x7,false)))
def slices_BinarySearch_int_int.f (k:Nat) (l0:List Int) (a1:Int):Option (Int×Bool):=slices_BinarySearch_int_int.l0 k l0 a1 (l0.length:Int) 0 (l0.length:Int)
set_option maxHeartbeats 8000000 in
set_option maxRecDepth 100000 in
theorem slices_BinarySearch_int_int.calls (k:Nat) (A0:Option Addr) (c0:Nat) (l0:List Int) (a1:Int) (r1:Int) (r2:Bool) (w:World) (hr0:Kd.C (Kd.int .i64) w A0 l0.length l0) (hc0:l0.length≤c0) (h:slices_BinarySearch_int_int.f k l0 a1=some (r1,r2)) :
  Calls Tryz.prog 112 #[.slice A0 l0.length c0,.int .i64 a1] w fun e w'=>e=.returned (.tuple #[.int .i64 r1,.bool r2])∧Drawn0 w w':=by
 have HR0:=zA hr0;have HC0:=zA hc0;clear hr0 hc0;have H:(slices_BinarySearch_int_int.l0 k l0 a1 (l0.length:Int) 0 (l0.length:Int))=some (r1,r2):=h;clear h;have H':=zA H;clear H
 go_enter Tryz.func112,Tryz.ntmps112
 go_wp2
 go_loopg [7,8] k (fun kq v7 v8 w'=>∃ (x7_1:Int) (x8_1:Int),v7=.int .i64 x7_1∧v8=.int .i64 x8_1∧Aside0 (slices_BinarySearch_int_int.l0 kq l0 a1 (l0.length:Int) x7_1 x8_1=some (r1,r2))∧Aside0 (kq≤k)∧Drawn0 w w')
 case atStart=>exact ⟨(0),((l0.length:Int)),zT,zT,H',⟨Nat.le_refl _⟩,by repeat (first|exact Drawn0.refl _|apply Drawn0.step)⟩
 case round=>
  clear H';obtain ⟨x7_1,x8_1,rfl,rfl,HA,HK1,⟨m1,rfl⟩⟩:=hrel
  cases gk with
  | zero=>exact absurd HA.out (by simp [slices_BinarySearch_int_int.l0])
  | succ k1=>
   have H:=HA.out;clear HA;simp only [slices_BinarySearch_int_int.l0] at H
   rcases ifd H with ⟨c3b0,H⟩|⟨c3b0,H⟩
   ·obtain ⟨ji4,hji4⟩:=zZ (wrap64 ((IntKind.u64.wrap (wrap64 (x7_1+x8_1))) / 2))
    first|rw [hji4] at H|simp only [hji4] at H
    have hji4w:(IntKind.i64.wrap ((IntKind.u64.wrap (wrap64 (x7_1+x8_1))) / 2))=ji4:=(i64_w _).trans hji4;obtain ⟨c5b0,H⟩:=ifd1 H;obtain ⟨c6b0,H⟩:=ifd1 H;obtain ⟨t70,A7,H⟩:=zo H;have HC8:=zA H;clear H;obtain ⟨p57,q57,ad57,e57,hx57_0⟩:=zp (Kd.at_int HR0.out (ji4))
    cases e57
    replace p57:=eq_true p57;replace q57:=eq_true q57
    go_upto_if 27 with (first|((with_reducible refine gate_callee (f:=126) rfl ?_);refine goesL_ (some 27) rfl rfl Tryz.func126 zK rfl #[.int .i64 (rd l0 (ji4)),.int .i64 a1] rfl (by (try simp only [List.map_toArray,List.map_cons,List.map_nil]);first|done|(simp only [hji4];rfl)|rfl|(simp only [List.length_drop,List.length_take];rfl)) ?_;(with_reducible refine (cmp_Less_int.calls (rd l0 (ji4)) a1 t70 _ A7.out).mono ?_);rintro e w' ⟨rfl,⟨nd,rfl⟩⟩;refine ⟨_,rfl,?_⟩))
    (try simp only [Act.put,zi,zs,zt]);have H:=HC8.out;clear HC8
    by_cases c9:t70=true
    ·subst c9
     have H1:(slices_BinarySearch_int_int.l0 k1 l0 a1 (l0.length:Int) (wrap64 ((ji4)+1)) x8_1)=some (r1,r2):=by rw [if_pos rfl] at H;exact H
     clear H;have H:=H1;clear H1;have H':=zA H;clear H
     go_wp2
     go_roundg k1
     case measure=>have:=HK1.out;omega
     case rel=>exact ⟨(wrap64 ((ji4)+1)),(x8_1),(by first|rfl|(simp;done)|(simp only [← hji4] <;> (first|rfl|simp))|(simp [*];done)),zT,H',⟨by have:=HK1.out;omega⟩,by repeat (first|exact Drawn0.refl _|apply Drawn0.step)⟩
    ·replace c9:=Bool.eq_false_iff.mpr c9;subst c9
     have H1:(slices_BinarySearch_int_int.l0 k1 l0 a1 (l0.length:Int) x7_1 ji4)=some (r1,r2):=by rw [if_neg (show ¬ (false=true) by decide)] at H;exact H
     clear H;have H:=H1;clear H1;have H':=zA H;clear H
     go_wp2
     go_roundg k1
     case measure=>have:=HK1.out;omega
     case rel=>exact ⟨(x7_1),(ji4),zT,(by first|rfl|(simp;done)|(simp only [← hji4] <;> (first|rfl|simp))|(simp [*];done)),H',⟨by have:=HK1.out;omega⟩,by repeat (first|exact Drawn0.refl _|apply Drawn0.step)⟩
   ·rcases ifd H with ⟨c10b0,H⟩|⟨c10b0,H⟩
    ·obtain ⟨c11b0,H⟩:=ifd1 H;obtain ⟨c12b0,H⟩:=ifd1 H
     rcases ife H with ⟨c13b0,c13b1,H⟩|⟨c13,c13b0,c13b1,H⟩
     ·simp only [Option.some.injEq,Prod.mk.injEq] at H;obtain ⟨rfl,rfl⟩:=H;obtain ⟨p46,q46,ad46,e46,hx46_0⟩:=zp (Kd.at_int HR0.out x7_1)
      cases e46
      replace p46:=eq_true p46;replace q46:=eq_true q46
      go_wp2
      go_ret2
      exact ⟨by first|rfl|(simp;done)|(simp [*];done),by repeat (first|exact Drawn0.refl _|apply Drawn0.step)⟩
     ·obtain ⟨t75,A14,H⟩:=zo H
      by_cases c15:t75=true
      ·subst c15
       have H1:((slices_isNaN_int.f a1).bind fun t69=>(some (x7_1,t69)))=some (r1,r2):=by rw [if_pos rfl] at H;exact H
       clear H;have H:=H1;clear H1;obtain ⟨t69,A16,H⟩:=zo H;simp only [Option.some.injEq,Prod.mk.injEq] at H;obtain ⟨rfl,rfl⟩:=H;obtain ⟨p46,q46,ad46,e46,hx46_0⟩:=zp (Kd.at_int HR0.out x7_1)
       cases e46
       replace p46:=eq_true p46;replace q46:=eq_true q46;obtain ⟨p49,q49,ad49,e49,hx49_0⟩:=zp (Kd.at_int HR0.out x7_1)
       obtain rfl:ad46=ad49:=(by injection e49)
       replace p49:=eq_true p49;replace q49:=eq_true q49
       go_wp2_with (first|(go_at_call 127;(with_reducible refine (slices_isNaN_int.calls (rd l0 x7_1) true _ A14.out).mono ?_);rintro e w' ⟨rfl,⟨nd,rfl⟩⟩)|(go_at_call 127;(with_reducible refine (slices_isNaN_int.calls a1 t69 _ A16.out).mono ?_);rintro e w' ⟨rfl,⟨nd,rfl⟩⟩))
       go_ret2
       exact ⟨by first|rfl|(simp;done)|(simp [*];done),by repeat (first|exact Drawn0.refl _|apply Drawn0.step)⟩
      ·replace c15:=Bool.eq_false_iff.mpr c15;subst c15
       have H1:(some (x7_1,false))=some (r1,r2):=by rw [if_neg (show ¬ (false=true) by decide)] at H;exact H
       clear H;have H:=H1;clear H1;simp only [Option.some.injEq,Prod.mk.injEq] at H;obtain ⟨rfl,rfl⟩:=H;obtain ⟨p46,q46,ad46,e46,hx46_0⟩:=zp (Kd.at_int HR0.out x7_1)
       cases e46
       replace p46:=eq_true p46;replace q46:=eq_true q46;obtain ⟨p49,q49,ad49,e49,hx49_0⟩:=zp (Kd.at_int HR0.out x7_1)
       obtain rfl:ad46=ad49:=(by injection e49)
       replace p49:=eq_true p49;replace q49:=eq_true q49
       go_wp2_with (first|(go_at_call 127;(with_reducible refine (slices_isNaN_int.calls (rd l0 x7_1) false _ A14.out).mono ?_);rintro e w' ⟨rfl,⟨nd,rfl⟩⟩))
       go_ret2
       exact ⟨by first|rfl|(simp;done)|(simp [*];done),by repeat (first|exact Drawn0.refl _|apply Drawn0.step)⟩
    ·simp only [Option.some.injEq,Prod.mk.injEq] at H;obtain ⟨rfl,rfl⟩:=H
     go_wp2
     go_ret2
     exact ⟨by first|rfl|(simp;done)|(simp [*];done),by repeat (first|exact Drawn0.refl _|apply Drawn0.step)⟩
def table_row.l0:Nat→Int→Int→List Int→Int→Int→Option (Int)
 | 0,_,_,_,_,_=>none
 | k+1,x1,x5,x8,x9,x10=>if x10<x9 then (if 0≤x10 then (if x10<(x8.length:Int) then (if 0≤(rd x8 x10) then (table_row.l0 k x1 (Go.bits .or .i64 x5 (shl .i64 (Go.bits .and .i64 (shr .i64 x1 (rd x8 x10)) 1) x10)) x8 x9 (wrap64 (x10+1))) else (none)) else (none)) else (none)) else (some x5)
def table_row.f (k:Nat) (l0:List Int) (a1:Int):Option (Int):=table_row.l0 k a1 0 l0 (l0.length:Int) 0
set_option maxHeartbeats 8000000 in
set_option maxRecDepth 100000 in
theorem table_row.calls (k:Nat) (A0:Option Addr) (c0:Nat) (l0:List Int) (a1:Int) (r:Int) (w:World) (hr0:Kd.C (Kd.int .i64) w A0 l0.length l0) (hc0:l0.length≤c0) (h:table_row.f k l0 a1=some r) :
  Calls Tryz.prog 113 #[.slice A0 l0.length c0,.int .i64 a1] w fun e w'=>e=.returned (.int .i64 r)∧Drawn0 w w':=by
 have HR0:=zA hr0;have HC0:=zA hc0;clear hr0 hc0;have H:(table_row.l0 k a1 0 l0 (l0.length:Int) 0)=some r:=h;clear h;have H':=zA H;clear H
 go_enter Tryz.func113,Tryz.ntmps113
 go_wp2
 go_loopg [5,10] k (fun kq v5 v10 w'=>∃ (x5_1:Int) (x10_1:Int),v5=.int .i64 x5_1∧v10=.int .i64 x10_1∧Aside0 (table_row.l0 kq a1 x5_1 l0 (l0.length:Int) x10_1=some r)∧Aside0 (kq≤k)∧Drawn0 w w')
 case atStart=>exact ⟨(0),(0),zT,zT,H',⟨Nat.le_refl _⟩,by repeat (first|exact Drawn0.refl _|apply Drawn0.step)⟩
 case round=>
  clear H';obtain ⟨x5_1,x10_1,rfl,rfl,HA,HK1,⟨m1,rfl⟩⟩:=hrel
  cases gk with
  | zero=>exact absurd HA.out (by simp [table_row.l0])
  | succ k1=>
   have H:=HA.out;clear HA;simp only [table_row.l0] at H
   rcases ifd H with ⟨c3b0,H⟩|⟨c3b0,H⟩
   ·obtain ⟨c4b0,H⟩:=ifd1 H;obtain ⟨c5b0,H⟩:=ifd1 H;obtain ⟨c6,H⟩:=if1 H;have c6b0:=eq_true c6;have c6b1:decide (0≤(rd l0 x10_1))=true:=decide_eq_true c6;clear c6;obtain ⟨ji7,hji7⟩:=zZ (shr .i64 a1 (rd l0 x10_1))
    first|rw [hji7] at H|simp only [hji7] at H
    have hji7_:(a1 / 2 ^ min (rd l0 x10_1).toNat 64)=ji7:=hji7;have hji7z:(rd l0 x10_1)≤64→(a1 / 2 ^ (rd l0 x10_1).toNat)=ji7:=shr_small hji7;have c8b0:=eq_true (of_decide_eq_true zh:0≤x10_1);obtain ⟨ji9,hji9⟩:=zZ (shl .i64 (Go.bits .and .i64 (ji7) 1) x10_1)
    first|rw [hji9] at H|simp only [hji9] at H
    have hji9_:(IntKind.i64.wrap ((Go.bits .and .i64 (ji7) 1) * 2 ^ min x10_1.toNat 64))=ji9:=hji9;have hji9z:x10_1≤64→(IntKind.i64.wrap ((Go.bits .and .i64 (ji7) 1) * 2 ^ x10_1.toNat))=ji9:=shl_small hji9;have hji9y:(wrap64 ((Go.bits .and .i64 (ji7) 1) * 2 ^ min x10_1.toNat 64))=ji9:=(i64_w _).symm.trans hji9_
    have hji9x:x10_1≤64→(wrap64 ((Go.bits .and .i64 (ji7) 1) * 2 ^ x10_1.toNat))=ji9:=fun h_=>(i64_w _).symm.trans (hji9z h_)
    have H':=zA H;clear H;obtain ⟨p58,q58,ad58,e58,hx58_0⟩:=zp (Kd.at_int HR0.out x10_1)
    cases e58
    replace p58:=eq_true p58;replace q58:=eq_true q58
    go_wp2
    go_roundg k1
    case measure=>have:=HK1.out;omega
    case rel=>exact ⟨(Go.bits .or .i64 x5_1 (ji9)),(wrap64 (x10_1+1)),(by first|rfl|(simp;done)|(simp only [← hji9] <;> (first|rfl|simp))|(simp [*];done)),zT,H',⟨by have:=HK1.out;omega⟩,by repeat (first|exact Drawn0.refl _|apply Drawn0.step)⟩
   ·obtain rfl:=Option.some.inj H
    go_wp2
    go_ret
    exact ⟨by first|rfl|(simp;done)|(simp [*];done),by repeat (first|exact Drawn0.refl _|apply Drawn0.step)⟩
def table_has.f (k:Nat) (l0_0:List Int) (l0_1:List Int) (a1:Int):Option (Bool):=(table_row.f k l0_0 a1).bind fun t53=>((slices_BinarySearch_int_int.f k l0_1 t53).bind fun bt60=>(some bt60.2))
set_option maxHeartbeats 8000000 in
set_option maxRecDepth 100000 in
theorem table_has.calls (k:Nat) (A0_0:Option Addr) (c0_0:Nat) (l0_0:List Int) (A0_1:Option Addr) (c0_1:Nat) (l0_1:List Int) (a1:Int) (r:Bool) (w:World) (hr0_0:Kd.C (Kd.int .i64) w A0_0 l0_0.length l0_0) (hc0_0:l0_0.length≤c0_0) (hr0_1:Kd.C (Kd.int .i64) w A0_1 l0_1.length l0_1) (hc0_1:l0_1.length≤c0_1) (h:table_has.f k l0_0 l0_1 a1=some r) :
  Calls Tryz.prog 86 #[.agg #[.slice A0_0 l0_0.length c0_0,.slice A0_1 l0_1.length c0_1],.int .i64 a1] w fun e w'=>e=.returned (.bool r)∧Below w.heap.size w w':=by
 have HR0_0:=zA hr0_0;have HC0_0:=zA hc0_0;clear hr0_0 hc0_0;have HR0_1:=zA hr0_1;have HC0_1:=zA hc0_1;clear hr0_1 hc0_1;have HB:=zA (Below.refl w.heap.size w);have H:((table_row.f k l0_0 a1).bind fun t53=>((slices_BinarySearch_int_int.f k l0_1 t53).bind fun bt60=>(some bt60.2)))=some r:=h;clear h;obtain ⟨t53,A3,H⟩:=zo H;obtain ⟨t60,t76,A4,H⟩:=zO H
 dsimp only at H
 obtain rfl:=Option.some.inj H
 go_enter Tryz.func86,Tryz.ntmps86
 go_wp2_with (first|((with_reducible refine gd 2 rfl ?_);refine zx #[.slice A0_0 l0_0.length c0_0,.slice A0_1 l0_1.length c0_1] 63 ?_;intro gb47 hg w5 BK47 hb GW47 HB1;have GE47:=GW47;clear HB hb hg;have HB:=HB1;clear HB1;have hcz6_0:=zc0 BK47;have hcz6_1:=zc1 BK47;have hfz6_0:=zf BK47)|(go_at_call 113;(with_reducible refine (table_row.calls k _ _ l0_0 a1 t53 _ (zD HR0_0 HB) HC0_0.out A3.out).mono ?_);rintro e w' ⟨rfl,⟨nd,rfl⟩⟩;(try first|exact ⟨rfl,_,World.drewN_drewN _ _ _⟩|exact ⟨rfl,_,Eq.trans (World.drewN_drewN _ _ _) (congrArg (World.drewN _) (Nat.add_assoc _ _ _))⟩))|(go_at_call 112;(with_reducible refine (slices_BinarySearch_int_int.calls k _ _ l0_1 t53 t60 t76 _ ?side1 HC0_1.out A4.out).mono ?_);(case side1=>repeat (first|exact (Kd.C_below HR0_1.out zB)|(with_reducible refine Kd.C_alloc ?_ _)|(with_reducible refine Kd.C_drewN ?_ _)|(with_reducible refine Kd.C_drew ?_)));rintro e w' ⟨rfl,⟨nd,rfl⟩⟩;(try first|exact ⟨rfl,_,World.drewN_drewN _ _ _⟩|exact ⟨rfl,_,Eq.trans (World.drewN_drewN _ _ _) (congrArg (World.drewN _) (Nat.add_assoc _ _ _))⟩)))
 repeat (go_quiet (first|((with_reducible refine gd 2 rfl ?_);refine zx #[.slice A0_0 l0_0.length c0_0,.slice A0_1 l0_1.length c0_1] 63 ?_;intro gb47 hg w5 BK47 hb GW47 HB1;have GE47:=GW47;clear HB hb hg;have HB:=HB1;clear HB1;have hcz6_0:=zc0 BK47;have hcz6_1:=zc1 BK47;have hfz6_0:=zf BK47)|(go_at_call 113;(with_reducible refine (table_row.calls k _ _ l0_0 a1 t53 _ (zD HR0_0 HB) HC0_0.out A3.out).mono ?_);rintro e w' ⟨rfl,⟨nd,rfl⟩⟩;(try first|exact ⟨rfl,_,World.drewN_drewN _ _ _⟩|exact ⟨rfl,_,Eq.trans (World.drewN_drewN _ _ _) (congrArg (World.drewN _) (Nat.add_assoc _ _ _))⟩))|(go_at_call 112;(with_reducible refine (slices_BinarySearch_int_int.calls k _ _ l0_1 t53 t60 t76 _ ?side1 HC0_1.out A4.out).mono ?_);(case side1=>repeat (first|exact (Kd.C_below HR0_1.out zB)|(with_reducible refine Kd.C_alloc ?_ _)|(with_reducible refine Kd.C_drewN ?_ _)|(with_reducible refine Kd.C_drew ?_)));rintro e w' ⟨rfl,⟨nd,rfl⟩⟩;(try first|exact ⟨rfl,_,World.drewN_drewN _ _ _⟩|exact ⟨rfl,_,Eq.trans (World.drewN_drewN _ _ _) (congrArg (World.drewN _) (Nat.add_assoc _ _ _))⟩)));try go_wp2_with (first|((with_reducible refine gd 2 rfl ?_);refine zx #[.slice A0_0 l0_0.length c0_0,.slice A0_1 l0_1.length c0_1] 63 ?_;intro gb47 hg w5 BK47 hb GW47 HB1;have GE47:=GW47;clear HB hb hg;have HB:=HB1;clear HB1;have hcz6_0:=zc0 BK47;have hcz6_1:=zc1 BK47;have hfz6_0:=zf BK47)|(go_at_call 113;(with_reducible refine (table_row.calls k _ _ l0_0 a1 t53 _ (zD HR0_0 HB) HC0_0.out A3.out).mono ?_);rintro e w' ⟨rfl,⟨nd,rfl⟩⟩;(try first|exact ⟨rfl,_,World.drewN_drewN _ _ _⟩|exact ⟨rfl,_,Eq.trans (World.drewN_drewN _ _ _) (congrArg (World.drewN _) (Nat.add_assoc _ _ _))⟩))|(go_at_call 112;(with_reducible refine (slices_BinarySearch_int_int.calls k _ _ l0_1 t53 t60 t76 _ ?side1 HC0_1.out A4.out).mono ?_);(case side1=>repeat (first|exact (Kd.C_below HR0_1.out zB)|(with_reducible refine Kd.C_alloc ?_ _)|(with_reducible refine Kd.C_drewN ?_ _)|(with_reducible refine Kd.C_drew ?_)));rintro e w' ⟨rfl,⟨nd,rfl⟩⟩;(try first|exact ⟨rfl,_,World.drewN_drewN _ _ _⟩|exact ⟨rfl,_,Eq.trans (World.drewN_drewN _ _ _) (congrArg (World.drewN _) (Nat.add_assoc _ _ _))⟩))))
 go_ret
 exact ⟨ze,zv1 HB GE47⟩
def table_Restrict_1_v1.f (k:Nat) (a0:Int) (l1_0:List Int) (l1_1:List Int) (a2_0:Int) (a3_0:Int):Option (Bool):=if 0≤a3_0 then ((table_has.f k l1_0 l1_1 (Go.bits .or .i64 a0 (shl .i64 a2_0 a3_0))).bind fun t41=>(some t41)) else (none)
def table_Restrict_1_v1.T1:Bool×List (List Nat×List Nat):=(true,[([],[]),([],[]),([],[]),([],[]),([2,3],[2,3]),([1,4],[1,4]),([0,5],[0,5]),([6,6,0,1,2,3,4,5,6],[6])])
def table_Restrict_1_v1.B1:List Nat:=[0,0,0,0,12,30,63,127]
theorem table_Restrict_1_v1.tab1:rtab .any (opsOf Tryz.f85 1)=table_Restrict_1_v1.T1:=by kernel_rfl
theorem table_Restrict_1_v1.bits1:waitsOk table_Restrict_1_v1.T1.2 table_Restrict_1_v1.B1=true:=by kernel_rfl
set_option maxHeartbeats 8000000 in
set_option maxRecDepth 100000 in
theorem table_Restrict_1_v1.calls (k:Nat) (a0:Int) (gp1_0:Nat) (A1_0:Option Addr) (c1_0:Nat) (l1_0:List Int) (A1_1:Option Addr) (c1_1:Nat) (l1_1:List Int) (gp2_0:Nat) (a2_0:Int) (gp3_0:Nat) (a3_0:Int) (r:Bool) (w:World) (hr1_0:Kd.C (Kd.int .i64) w A1_0 l1_0.length l1_0) (hc1_0:l1_0.length≤c1_0) (hr1_1:Kd.C (Kd.int .i64) w A1_1 l1_1.length l1_1) (hc1_1:l1_1.length≤c1_1) (hb_gp1_0:w.heap[gp1_0]?=some (.cells #[.slice A1_0 l1_0.length c1_0,.slice A1_1 l1_1.length c1_1] 63 (0,0))) (hb_gp2_0:w.heap[gp2_0]?=some (.cells #[.int .i64 a2_0] 3 (0,0))) (hb_gp3_0:w.heap[gp3_0]?=some (.cells #[.int .i64 a3_0] 3 (0,0))) (h:table_Restrict_1_v1.f k a0 l1_0 l1_1 a2_0 a3_0=some r) :
  Calls Tryz.prog 85 #[.int .i64 a0,.pointer (some ⟨gp1_0,0,none⟩),.pointer (some ⟨gp2_0,0,none⟩),.pointer (some ⟨gp3_0,0,none⟩)] w fun e w'=>e=.returned (.bool r)∧Below w.heap.size w w':=by
 have HR1_0:=zA hr1_0;have HC1_0:=zA hc1_0;clear hr1_0 hc1_0;have HR1_1:=zA hr1_1;have HC1_1:=zA hc1_1;clear hr1_1 hc1_1;have BK42:=zA hb_gp1_0;clear hb_gp1_0;have BK44:=zA hb_gp2_0;clear hb_gp2_0;have BK45:=zA hb_gp3_0;clear hb_gp3_0;have HB:=zA (Below.refl w.heap.size w);have H:(if 0≤a3_0 then ((table_has.f k l1_0 l1_1 (Go.bits .or .i64 a0 (shl .i64 a2_0 a3_0))).bind fun t41=>(some t41)) else (none))=some r:=h;clear h;obtain ⟨c5,H⟩:=if1 H;have c5b0:=eq_true c5;have c5b1:decide (0≤a3_0)=true:=decide_eq_true c5;clear c5;obtain ⟨ji6,hji6⟩:=zZ (shl .i64 a2_0 a3_0)
 first|rw [hji6] at H|simp only [hji6] at H
 have hji6_:(IntKind.i64.wrap (a2_0 * 2 ^ min a3_0.toNat 64))=ji6:=hji6;have hji6z:a3_0≤64→(IntKind.i64.wrap (a2_0 * 2 ^ a3_0.toNat))=ji6:=shl_small hji6;have hji6y:(wrap64 (a2_0 * 2 ^ min a3_0.toNat 64))=ji6:=(i64_w _).symm.trans hji6_
 have hji6x:a3_0≤64→(wrap64 (a2_0 * 2 ^ a3_0.toNat))=ji6:=fun h_=>(i64_w _).symm.trans (hji6z h_)
 obtain ⟨t41,A7,H⟩:=zo H;obtain rfl:=Option.some.inj H
 go_enter Tryz.func85,Tryz.ntmps85
 try go_wp2
 replace BK42:=zA (blk_drew BK42.out);replace BK44:=zA (blk_drew BK44.out);replace BK45:=zA (blk_drew BK45.out);replace HB:=zA (below_drew1 HB.out);refine start_ (n:=8) (S:=fun w'=>w'.cell? ⟨gp1_0,0,none⟩=some (.slice A1_0 l1_0.length c1_0)∧w'.cell? ⟨gp1_0,1,none⟩=some (.slice A1_1 l1_1.length c1_1)∧w'.cell? ⟨gp2_0,0,none⟩=some (.int .i64 a2_0)∧w'.cell? ⟨gp3_0,0,none⟩=some (.int .i64 a3_0)) (ds:=[]) (bz 8 0) zK rfl rfl ⟨zc0 BK42,zc1 BK42,zc0 BK44,zc0 BK45⟩ (fun hHeld=>?_);refine with_tabW table_Restrict_1_v1.tab1 table_Restrict_1_v1.bits1 (fun HT_ HW_=>?_)
 generalize w.drew=w8 at BK42 BK44 BK45 HB hHeld ⊢
 refine zP 1 7 (bz 8 2) HT_ ?_;refine zQ 0 6 (bz 8 3) HT_ HW_ hHeld ?_;refine zQ 2 8 (bz 8 7) HT_ HW_ hHeld ?_;refine zQ 3 9 (bz 8 15) HT_ HW_ hHeld ?_;refine zP 4 10 (bz 8 31) HT_ ?_;refine zP 5 11 (bz 8 63) HT_ ?_;refine one_ (i:=6) (N:=some 12) (bz 8 127) rfl rfl (one_of HT_.out zK) (by decide) (fun K hK=>?_);refine goes_ Tryz.func86 zK rfl #[.agg #[.slice A1_0 l1_0.length c1_0,.slice A1_1 l1_1.length c1_1],.int .i64 (Go.bits .or .i64 a0 (ji6))] (by rfl) rfl rfl (by (try simp only [List.map_toArray,List.map_cons,List.map_nil]);first|done|(simp only [hji6];rfl)|rfl|(simp only [List.length_drop,List.length_take];rfl)) ?_
 with_reducible refine (table_has.calls k _ _ l1_0 _ _ l1_1 (Go.bits .or .i64 a0 (ji6)) t41 _ ?side1 ?side2 ?side3 ?side4 A7.out).mono ?_
 (case side1=>exact zC (Kd.C_below HR1_0.out HB.out));(case side2=>exact HC1_0.out);(case side3=>exact zC (Kd.C_below HR1_1.out HB.out));(case side4=>exact HC1_1.out);rintro e w9 ⟨rfl,hb⟩;refine ⟨_,rfl,?_⟩;replace BK42:=zw BK42 hb;replace BK44:=zw BK44 hb;replace BK45:=zw BK45 hb;replace HB:=zu hb;(try clear hb);(try clear hb2);(try clear hk);(try clear hi);refine hK.out _ _ ⟨zc0 BK42,zc1 BK42,zc0 BK44,zc0 BK45⟩ (fun hHeld=>?_);clear hK K;refine norm_ (a':=?_) ?_ ?_;rotate_left
 ·show Act.put _ (some 12) _=_
  simp only [Act.put,zi,zs,zt,i64_w,i32_w];rfl
 refine zP 7 5 (bz 8 255) HT_ ?_;refine done_ (done_of HT_.out zK) ?_
 try go_wp2
 go_ret
 exact ⟨by first|rfl|(simp [errW_none,errW_some] <;> rfl)|(simp only [← hji6];first|rfl|(simp [errW_none,errW_some] <;> rfl))|(simp [*,errW_none,errW_some] <;> rfl),zv0 HB⟩
def table_over_table_Restrict_1.l0:Nat→List Int→Int→Int→List Int→List Int→Int→Int→List Int→List Int→Option (List Int×List Int)
 | 0,_,_,_,_,_,_,_,_,_=>none
 | k+1,x0,x12,x13,x61,x62,x65,x66,x48,x40=>if x13<x12 then ((table_assignment.f k x0 x13).bind fun t71=>((table_Restrict_1_v1.f k t71 x61 x62 x65 x66).bind fun t72=>(if t72=true then (if x40.length<17592186044416 then (table_over_table_Restrict_1.l0 k x0 x12 (wrap64 (x13+1)) x61 x62 x65 x66 x48 (x40++[x13])) else (none)) else (table_over_table_Restrict_1.l0 k x0 x12 (wrap64 (x13+1)) x61 x62 x65 x66 x48 x40)))) else (some (x48,x40))
def table_over_table_Restrict_1.f (k:Nat) (l0:List Int) (l1_0:List Int) (l1_1:List Int) (a1_2:Int) (a1_3:Int):Option (List Int×List Int):=(slices_Clone_int_int.f l0).bind fun t50=>(table_over_table_Restrict_1.l0 k l0 (shl .i64 1 (l0.length:Int)) 0 l1_0 l1_1 a1_2 a1_3 t50 ([]:List Int))
set_option maxHeartbeats 8000000 in
set_option maxRecDepth 100000 in
theorem table_over_table_Restrict_1.calls (k:Nat) (A0:Option Addr) (c0:Nat) (l0:List Int) (gp1_0:Nat) (gp1_1:Nat) (gp1_2:Nat) (A1_0:Option Addr) (c1_0:Nat) (l1_0:List Int) (A1_1:Option Addr) (c1_1:Nat) (l1_1:List Int) (a1_2:Int) (a1_3:Int) (r1:List Int) (r2:List Int) (w:World) (hr0:Kd.C (Kd.int .i64) w A0 l0.length l0) (hc0:l0.length≤c0) (hr1_0:Kd.C (Kd.int .i64) w A1_0 l1_0.length l1_0) (hc1_0:l1_0.length≤c1_0) (hr1_1:Kd.C (Kd.int .i64) w A1_1 l1_1.length l1_1) (hc1_1:l1_1.length≤c1_1) (hb_gp1_0:w.heap[gp1_0]?=some (.cells #[.slice A1_0 l1_0.length c1_0,.slice A1_1 l1_1.length c1_1] 63 (0,0))) (hb_gp1_1:w.heap[gp1_1]?=some (.cells #[.int .i64 a1_2] 3 (0,0))) (hb_gp1_2:w.heap[gp1_2]?=some (.cells #[.int .i64 a1_3] 3 (0,0))) (h:table_over_table_Restrict_1.f k l0 l1_0 l1_1 a1_2 a1_3=some (r1,r2)) :
  Calls Tryz.prog 83 #[.slice A0 l0.length c0,.func (.func 85) #[] #[.pointer (some ⟨gp1_0,0,none⟩),.pointer (some ⟨gp1_1,0,none⟩),.pointer (some ⟨gp1_2,0,none⟩)]] w fun e w'=>∃ v0_ v1_:Value,e=.returned (.agg #[v0_,v1_])∧Kd.R (Kd.int .i64) 3 w' w.heap.size (fun k_=>some k_≠(v1_:Value).ownBlock) v0_ r1∧Kd.R (Kd.int .i64) 3 w' w.heap.size (fun k_=>some k_≠(v0_:Value).ownBlock) v1_ r2∧Below w.heap.size w w':=by
 have HR0:=zA hr0;have HC0:=zA hc0;clear hr0 hc0;have HR1_0:=zA hr1_0;have HC1_0:=zA hc1_0;clear hr1_0 hc1_0;have HR1_1:=zA hr1_1;have HC1_1:=zA hc1_1;clear hr1_1 hc1_1;have BK42:=zA hb_gp1_0;clear hb_gp1_0;have BK44:=zA hb_gp1_1;clear hb_gp1_1;have BK45:=zA hb_gp1_2;clear hb_gp1_2;have HB:=zA (Below.refl w.heap.size w);have H:((slices_Clone_int_int.f l0).bind fun t50=>(table_over_table_Restrict_1.l0 k l0 (shl .i64 1 (l0.length:Int)) 0 l1_0 l1_1 a1_2 a1_3 t50 ([]:List Int)))=some (r1,r2):=h;clear h;obtain ⟨t50,A3,H⟩:=zo H;obtain ⟨ji4,hji4⟩:=zZ (shl .i64 1 (l0.length:Int))
 first|rw [hji4] at H|simp only [hji4] at H
 (try rw [hji4] at A3);have hji4_:(IntKind.i64.wrap (1 * 2 ^ min (l0.length:Int).toNat 64))=ji4:=hji4;have hji4z:(l0.length:Int)≤64→(IntKind.i64.wrap (1 * 2 ^ (l0.length:Int).toNat))=ji4:=shl_small hji4;have hji4p:(IntKind.i64.wrap (1 * 2 ^ min l0.length 64))=ji4:=hji4_;have hji4q:(l0.length:Int)≤64→(IntKind.i64.wrap (1 * 2 ^ l0.length))=ji4:=hji4z
 have hji4r:(IntKind.i64.wrap (2 ^ min l0.length 64))=ji4:=by have h_:=hji4p;rw [Int.one_mul] at h_;exact h_
 have hji4s:(l0.length:Int)≤64→(IntKind.i64.wrap (2 ^ l0.length))=ji4:=fun hle_=>by have h_:=hji4q hle_;rw [Int.one_mul] at h_;exact h_
 have hji4u:(IntKind.i64.wrap (2 ^ min (l0.length:Int).toNat 64))=ji4:=by have h_:=hji4_;rw [Int.one_mul] at h_;exact h_
 have hji4v:(l0.length:Int)≤64→(IntKind.i64.wrap (2 ^ (l0.length:Int).toNat))=ji4:=fun hle_=>by have h_:=hji4z hle_;rw [Int.one_mul] at h_;exact h_
 have hji4y:(wrap64 (1 * 2 ^ min (l0.length:Int).toNat 64))=ji4:=(i64_w _).symm.trans hji4_
 have hji4x:(l0.length:Int)≤64→(wrap64 (1 * 2 ^ (l0.length:Int).toNat))=ji4:=fun h_=>(i64_w _).symm.trans (hji4z h_)
 have H':=zA H;clear H
 go_enter Tryz.func83,Tryz.ntmps83
 go_wp2_with (first|((with_reducible refine gd 4 rfl ?_);refine zx #[.slice none 0 0,.slice none 0 0] 63 ?_;intro gb41 hg w5 BK41 hb GW41 HB1;have GE41:=GW41;have NB42_41:=zL hg BK42;have NB41_42:=zLs NB42_41;have NB44_41:=zL hg BK44;have NB41_44:=zLs NB44_41;have NB45_41:=zL hg BK45;have NB41_45:=zLs NB45_41;replace BK42:=zw BK42 hb;replace BK44:=zw BK44 hb;replace BK45:=zw BK45 hb;clear HB hb hg;have HB:=HB1;clear HB1)|((with_reducible refine gate_callee (f:=38) rfl ?_);refine zgo 8 Tryz.func38 #[.slice A0 l0.length c0] ?_;(with_reducible refine (slices_Clone_int_int.calls _ _ l0 t50 _ (zD HR0 HB) HC0.out A3.out).mono ?_);rintro e w6 ⟨v82,rfl,ho0,hb⟩;refine ⟨_,rfl,?_⟩;have HO73:=zA (Kd.R_lower (Kd.R_newB (Kd.R_newB ho0 (g:=gp1_1) (o:=.cells #[.int .i64 a1_2] 3 (0,0)) (zk BK44)) (g:=gp1_2) (o:=.cells #[.int .i64 a1_3] 3 (0,0)) (zk BK45)) (below_size zB));replace BK42:=zw BK42 hb;replace BK44:=zw BK44 hb;replace BK45:=zw BK45 hb;replace BK41:=zw BK41 hb;replace HB:=zu hb;clear hb;(try clear ho0);obtain ⟨Ao7,co7,eo7⟩:=Kd.R_slice HO73.out;subst eo7)|((with_reducible refine gd 5 rfl ?_);refine zx #[.slice none 0 0,.slice none 0 0] 63 ?_;intro gb39 hg w8 BK39 hb GW39 HB1;have GE39:=GW39;have NB42_39:=zL hg BK42;have NB39_42:=zLs NB42_39;have NB44_39:=zL hg BK44;have NB39_44:=zLs NB44_39;have NB45_39:=zL hg BK45;have NB39_45:=zLs NB45_39;have NB41_39:=zL hg BK41;have NB39_41:=zLs NB41_39;replace HO73:=zA (Kd.R_below (zR HO73) hb);replace BK42:=zw BK42 hb;replace BK44:=zw BK44 hb;replace BK45:=zw BK45 hb;replace BK41:=zw BK41 hb;clear HB hb hg;have HB:=HB1;clear HB1;have hnb9:=NB39_42.out;have hnc9:=NB42_39.out;have hnb10:=NB39_44.out;have hnc10:=NB44_39.out;have hnb11:=NB39_45.out;have hnc11:=NB45_39.out;have hnb12:=NB39_41.out;have hnc12:=NB41_39.out;have hcz13_0:=zc0 BK39;have hcz13_1:=zc1 BK39;have hfz13_0:=zf BK39))
 go_loopg [13] k (fun kq v13 w'=>∃ (x13_1:Int) (x40_1:List Int) (u40:Value),v13=.int .i64 x13_1∧Aside0 (table_over_table_Restrict_1.l0 kq l0 ji4 x13_1 l1_0 l1_1 a1_2 a1_3 t50 x40_1=some (r1,r2))∧Aside0 (kq≤k)∧Aside0 (Kd.R (Kd.int .i64) 3 w' w.heap.size (fun k_=>some k_≠(u40:Value).ownBlock∧k_≠gp1_1∧k_≠gp1_2) (.slice Ao7 t50.length co7) t50)∧Aside0 (Kd.R (Kd.int .i64) 3 w' w.heap.size (fun k_=>some k_≠((.slice Ao7 t50.length co7):Value).ownBlock∧k_≠gp1_1∧k_≠gp1_2) u40 x40_1)∧Aside0 (w'.heap[gp1_0]?=some (.cells #[(.slice A1_0 l1_0.length c1_0),(.slice A1_1 l1_1.length c1_1)] 63 (0,0)))∧Aside0 (w'.heap[gp1_1]?=some (.cells #[.int .i64 a1_2] 3 (0,0)))∧Aside0 (w'.heap[gp1_2]?=some (.cells #[.int .i64 a1_3] 3 (0,0)))∧Aside0 (w'.heap[gb41]?=some (.cells #[(.slice none 0 0),(.slice none 0 0)] 63 (0,0)))∧Aside0 (w'.heap[gb39]?=some (.cells #[(.slice Ao7 t50.length co7),u40] 63 (0,0)))∧Aside0 (Below w.heap.size w w'))
 case atStart=>exact ⟨(0),(([]:List Int)),(.slice none 0 0),zT,H',⟨Nat.le_refl _⟩,⟨by refine zr ?_;exact Kd.R_mono (Kd.R_far (p:=⟨gb39,1,none⟩) (Kd.R_far (p:=⟨gb39,0,none⟩) (Kd.R_types HO73.out BK39.out (by decide)) (fun _ hk=>hk.2) (.slice Ao7 t50.length co7)) (fun _ hk=>hk.2) (.slice none 0 0)) (fun _ hk=>⟨(by simp [Value.ownBlock]),⟨hk.1.1.2,hk.1.2⟩⟩)⟩,⟨by first|exact Kd.R_nil _ _ _ _ _|exact Kd.N_nil _ _ _ _ _|exact Kd.V_nil _ _ _ _ _|exact Kd.Q_nil _ _ _ _ _|exact Kd.S_nil _ _ _ _ _⟩,⟨by refine zj ?_;refine blk_far ?_ NB42_39.out _;refine zj ?_;refine blk_far ?_ NB42_39.out _;refine zj ?_;exact BK42.out⟩,⟨by refine zj ?_;refine blk_far ?_ NB44_39.out _;refine zj ?_;refine blk_far ?_ NB44_39.out _;refine zj ?_;exact BK44.out⟩,⟨by refine zj ?_;refine blk_far ?_ NB45_39.out _;refine zj ?_;refine blk_far ?_ NB45_39.out _;refine zj ?_;exact BK45.out⟩,⟨by refine zj ?_;refine blk_far ?_ NB41_39.out _;refine zj ?_;refine blk_far ?_ NB41_39.out _;refine zj ?_;exact BK41.out⟩,⟨by refine zj ?_;refine blk_put (cs:=#[.slice Ao7 t50.length co7,.slice none 0 0]) ?_ 1 _ rfl;refine zj ?_;refine blk_put (cs:=#[.slice none 0 0,.slice none 0 0]) ?_ 0 _ rfl;refine zj ?_;exact BK39.out⟩,⟨zv2 HB GE41 GE39⟩⟩
 case round=>
  clear H'
  try clear hcz13_0
  try clear hcz13_1
  try clear hfz13_0
  try clear hfz13_1
  obtain ⟨x13_1,x40_1,u40,rfl,HA,HK1,HO_48,HO_40,BK42,BK44,BK45,BK41,BK39,HB⟩:=hrel
  cases gk with
  | zero=>exact absurd HA.out (by simp [table_over_table_Restrict_1.l0])
  | succ k1=>
   have H:=HA.out;clear HA;simp only [table_over_table_Restrict_1.l0] at H
   rcases ifd H with ⟨c14b0,H⟩|⟨c14b0,H⟩
   ·obtain ⟨t71,A15,H⟩:=zo H;obtain ⟨t72,A16,H⟩:=zo H;have HC17:=zA H;clear H
    go_upto_if 20 with (first|((with_reducible refine gate_callee (f:=110) rfl ?_);refine zgo 19 Tryz.func110 #[.slice A0 l0.length c0,.int .i64 x13_1] ?_;(with_reducible refine (table_assignment.calls k1 _ _ l0 x13_1 t71 _ (zD HR0 HB) HC0.out A15.out).mono ?_);rintro e w' ⟨rfl,⟨nd,rfl⟩⟩;refine ⟨_,rfl,?_⟩)|(go_at_call 85;(with_reducible refine (table_Restrict_1_v1.calls k1 t71 gp1_0 A1_0 c1_0 l1_0 A1_1 c1_1 l1_1 gp1_1 a1_2 gp1_2 a1_3 t72 _ ?side1 HC1_0.out ?side3 HC1_1.out ?side5 ?side6 ?side7 A16.out).mono ?_);(case side1=>repeat (first|exact (Kd.C_below HR1_0.out zB)|(with_reducible refine Kd.C_alloc ?_ _)|(with_reducible refine Kd.C_drewN ?_ _)|(with_reducible refine Kd.C_drew ?_)));(case side3=>repeat (first|exact (Kd.C_below HR1_1.out zB)|(with_reducible refine Kd.C_alloc ?_ _)|(with_reducible refine Kd.C_drewN ?_ _)|(with_reducible refine Kd.C_drew ?_)));(case side5=>refine zj ?_;exact BK42.out);(case side6=>refine zj ?_;exact BK44.out);(case side7=>refine zj ?_;exact BK45.out);rintro e w18 ⟨rfl,hb⟩;replace HO_48:=zA (Kd.R_below (zR HO_48) hb);replace HO_40:=zA (Kd.R_below (zR HO_40) hb);replace BK42:=zw BK42 hb;replace BK44:=zw BK44 hb;replace BK45:=zw BK45 hb;replace BK41:=zw BK41 hb;replace BK39:=zw BK39 hb;replace HB:=zu hb;clear hb))
    (try simp only [Act.put,zi,zs,zt]);have H:=HC17.out;clear HC17
    by_cases c19:t72=true
    ·subst c19
     have H1:(if x40_1.length<17592186044416 then (table_over_table_Restrict_1.l0 k1 l0 ji4 (wrap64 (x13_1+1)) l1_0 l1_1 a1_2 a1_3 t50 (x40_1++[x13_1])) else (none))=some (r1,r2):=by rw [if_pos rfl] at H;exact H
     clear H;have H:=H1;clear H1;obtain ⟨c20,H⟩:=if1 H;have LMc20:=zA c20;clear c20
     first|(replace H:=zyb (x40_1++[x13_1]) H;obtain ⟨y52,Ny52,H⟩:=H)|(obtain ⟨y52,hy52⟩:=zY (x40_1++[x13_1]);(try rw (occs:=.pos [1]) [← hy52] at H);have Ny52:=zA hy52;clear hy52)
     have H':=zA H;clear H;have hnb21:=NB39_42.out;have hnc21:=NB42_39.out;have hnb22:=NB39_44.out;have hnc22:=NB44_39.out;have hnb23:=NB39_45.out;have hnc23:=NB45_39.out;have hnb24:=NB39_41.out;have hnc24:=NB41_39.out;have hcz25_0:=zc0 BK39;have hcz25_1:=zc1 BK39;have hfz25_0:=zf BK39
     go_wp2_with (first|((with_reducible refine gate_builtin (b:=.append) (xs:=#[.tmp 22,.tmp 24]) rfl ?_);at_builtin;refine Kd.R_append (Kd.int .i64) (w0:=w) w.heap.size rfl (.tmp 22) (.tmp 24) 43 3 (.int .i64 0) 8 rfl Tryz.underlying43 info3 rfl (by decide) (by omega) u40 x40_1 x13_1 [.int .i64 x13_1] (fun k_=>some k_≠(.slice Ao7 t50.length co7:Value).ownBlock∧k_≠gp1_1∧k_≠gp1_2) (fun _=>False) rfl rfl ?aP (fun _ hk=>hk.elim) ?aF ?aO ?aB ?aS ?aL ?_;(case aP=>exact rfl);(case aB=>exact zB);(case aF=>exact (fun k_ hk=>⟨Kd.fresh' (Kd.R_lt (zR HO_48)) k_ hk,Kd.freshB (g:=gp1_1) (o:=.cells #[.int .i64 a1_2] 3 (0,0)) (zk BK44) k_ hk,Kd.freshB (g:=gp1_2) (o:=.cells #[.int .i64 a1_3] 3 (0,0)) (zk BK45) k_ hk⟩));(case aO=>exact (zR HO_40));(case aS=>exact (below_size zB));(case aL=>have:=LMc20.out;omega);intro v87 w26 ho hb hg hat;rw [← Ny52.out] at ho;have HO78:=zA (ho);replace HO_48:=zA (Kd.R_after (ok:=(fun k_=>k_≠gp1_1∧k_≠gp1_2)) (by refine zr ?_;exact Kd.R_mono HO_48.out (fun _ hk=>⟨⟨hk.2.1,hk.2.2⟩,hk.1⟩)) hg hat);replace BK42:=zA (blk_grown (g:=gp1_0) (o:=.cells #[.slice A1_0 l1_0.length c1_0,.slice A1_1 l1_1.length c1_1] 63 (0,0)) (zk BK42) hg (Kd.R_ne HO_40.out BK42.out (by decide)));replace BK44:=zA (blk_grown (g:=gp1_1) (o:=.cells #[.int .i64 a1_2] 3 (0,0)) (zk BK44) hg (Kd.R_away HO_40.out (fun _ hk=>hk.2.1)));replace BK45:=zA (blk_grown (g:=gp1_2) (o:=.cells #[.int .i64 a1_3] 3 (0,0)) (zk BK45) hg (Kd.R_away HO_40.out (fun _ hk=>hk.2.2)));replace BK41:=zA (blk_grown (g:=gb41) (o:=.cells #[.slice none 0 0,.slice none 0 0] 63 (0,0)) (zk BK41) hg (Kd.R_ne HO_40.out BK41.out (by decide)));replace BK39:=zA (blk_grown (g:=gb39) (o:=.cells #[.slice Ao7 t50.length co7,u40] 63 (0,0)) (zk BK39) hg (Kd.R_ne HO_40.out BK39.out (by decide)));replace HB:=zA (hb);clear HO_40;clear ho hb hg hat;obtain ⟨Ao27,co27,eo27⟩:=Kd.R_slice HO78.out;subst eo27;have hcz28_0:=zc0 BK39;have hcz28_1:=zc1 BK39;have hfz28_0:=zf BK39))
     go_roundg k1
     case measure=>have:=HK1.out;omega
     case rel=>exact ⟨(wrap64 (x13_1+1)),(y52),(.slice Ao27 y52.length co27),zT,H',⟨by have:=HK1.out;omega⟩,⟨by refine zr ?_;exact Kd.R_mono (Kd.R_far (p:=⟨gb39,1,none⟩) (Kd.R_types HO_48.out BK39.out (by decide)) (fun _ hk=>hk.2) (.slice Ao27 y52.length co27)) (fun _ hk=>⟨hk.1.2,⟨hk.1.1.1,hk.1.1.2⟩⟩)⟩,⟨by refine zr ?_;exact Kd.R_mono (Kd.R_far (p:=⟨gb39,1,none⟩) (Kd.R_types HO78.out BK39.out (by decide)) (fun _ hk=>hk.2) (.slice Ao27 y52.length co27)) (fun _ hk=>⟨hk.1.1,⟨hk.1.2.1,hk.1.2.2⟩⟩)⟩,⟨by refine zj ?_;refine blk_far ?_ NB42_39.out _;refine zj ?_;exact BK42.out⟩,⟨by refine zj ?_;refine blk_far ?_ NB44_39.out _;refine zj ?_;exact BK44.out⟩,⟨by refine zj ?_;refine blk_far ?_ NB45_39.out _;refine zj ?_;exact BK45.out⟩,⟨by refine zj ?_;refine blk_far ?_ NB41_39.out _;refine zj ?_;exact BK41.out⟩,⟨by refine zj ?_;refine blk_put (cs:=#[.slice Ao7 t50.length co7,u40]) ?_ 1 _ rfl;refine zj ?_;exact BK39.out⟩,⟨zv2 HB GE41 GE39⟩⟩
    ·replace c19:=Bool.eq_false_iff.mpr c19;subst c19
     have H1:(table_over_table_Restrict_1.l0 k1 l0 ji4 (wrap64 (x13_1+1)) l1_0 l1_1 a1_2 a1_3 t50 x40_1)=some (r1,r2):=by rw [if_neg (show ¬ (false=true) by decide)] at H;exact H
     clear H;have H:=H1;clear H1;have H':=zA H;clear H
     go_wp2
     go_roundg k1
     case measure=>have:=HK1.out;omega
     case rel=>exact ⟨(wrap64 (x13_1+1)),(x40_1),(u40),zT,H',⟨by have:=HK1.out;omega⟩,⟨by refine zr ?_;exact HO_48.out⟩,⟨by refine zr ?_;exact HO_40.out⟩,⟨by refine zj ?_;exact BK42.out⟩,⟨by refine zj ?_;exact BK44.out⟩,⟨by refine zj ?_;exact BK45.out⟩,⟨by refine zj ?_;exact BK41.out⟩,⟨by refine zj ?_;exact BK39.out⟩,⟨zv2 HB GE41 GE39⟩⟩
   ·simp only [Option.some.injEq,Prod.mk.injEq] at H;obtain ⟨rfl,rfl⟩:=H;have hnb29:=NB39_42.out;have hnc29:=NB42_39.out;have hnb30:=NB39_44.out;have hnc30:=NB44_39.out;have hnb31:=NB39_45.out;have hnc31:=NB45_39.out;have hnb32:=NB39_41.out;have hnc32:=NB41_39.out;have hcz33_0:=zc0 BK39;have hcz33_1:=zc1 BK39;have hfz33_0:=zf BK39;have hnb34:=NB41_42.out;have hnc34:=NB42_41.out;have hnb35:=NB41_44.out;have hnc35:=NB44_41.out;have hnb36:=NB41_45.out;have hnc36:=NB45_41.out;have hcz37_0:=zc0 BK41;have hcz37_1:=zc1 BK41;have hfz37_0:=zf BK41;obtain ⟨Ao38,co38,eo38⟩:=Kd.R_slice HO_40.out;subst eo38
    go_wp2
    refine bodyPost_ret (results_cell_row rfl _ _ gb41 63 #[.slice Ao7 t50.length co7,.slice Ao38 x40_1.length co38] (0,0) _ rfl (by refine zj ?_;refine blk_put (cs:=#[.slice Ao7 t50.length co7,.slice none 0 0]) ?_ 1 _ rfl;refine zj ?_;refine blk_put (cs:=#[.slice none 0 0,.slice none 0 0]) ?_ 0 _ rfl;refine zj ?_;exact BK41.out) Tryz.underlying63 rfl zK) rfl ?_;exact ⟨_,_,by first|rfl|(simp [errW_none,errW_some] <;> rfl)|(simp only [← hji4];first|rfl|(simp [errW_none,errW_some] <;> rfl))|(simp [*,errW_none,errW_some] <;> rfl),by refine zr ?_;exact Kd.R_mono (Kd.R_far (p:=⟨gb41,1,none⟩) (Kd.R_far (p:=⟨gb41,0,none⟩) (Kd.R_types HO_48.out BK41.out (by decide)) (fun _ hk=>hk.2) (.slice Ao7 t50.length co7)) (fun _ hk=>hk.2) (.slice Ao38 x40_1.length co38)) (fun _ hk=>hk.1.1),by refine zr ?_;exact Kd.R_mono (Kd.R_far (p:=⟨gb41,1,none⟩) (Kd.R_far (p:=⟨gb41,0,none⟩) (Kd.R_types HO_40.out BK41.out (by decide)) (fun _ hk=>hk.2) (.slice Ao7 t50.length co7)) (fun _ hk=>hk.2) (.slice Ao38 x40_1.length co38)) (fun _ hk=>hk.1.1),zv2 HB GE41 GE39⟩
end Go.Proofs.YtngpkbbljnbojaaGreat.A
