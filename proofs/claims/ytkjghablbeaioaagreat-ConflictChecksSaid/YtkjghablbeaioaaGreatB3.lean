import Derived.Test.YtkjghablbeaioaaGreatB0
import Derived.Test.YtkjghablbeaioaaGreatB2
namespace Go.Proofs.YtkjghablbeaioaaGreat.B
open Go.RowKit Go.Proofs.YtkjghablbeaioaaGreatW.PrintWords Go.Proofs.YtkjghablbeaioaaGreatW.PrintLast Go.Proofs.YtkjghablbeaioaaGreatW.PrintMore
attribute [local go_sem] max2_int min2_int max_two min_two max_three min_three max_four min_four Tryz.underlying23 Tryz.underlying3 Tryz.underlying49 Tryz.underlying80
set_option linter.unusedVariables false
set_option linter.unusedSimpArgs false
def solve_valid.l0:Nat→List (S49)→Int→Int→Option (Int)
 | 0,_,_,_=>none
 | k+1,x9,x10,x11=>if x11<x10 then (if 0≤x11 then (if x11<(x9.length:Int) then ((table_Valid.f k ((rd_T49 x9 x11).f0) ((rd_T49 x9 x11).f1)).bind fun t29=>(if t29=0 then (solve_valid.l0 k x9 x10 (wrap64 (x11+1))) else (some t29))) else (none)) else (none)) else (some 0)
def solve_valid.f (k:Nat) (l0:List (S49)):Option (Int):=if (l0.length:Int)>16 then (some 3) else (solve_valid.l0 k l0 (l0.length:Int) 0)
set_option maxHeartbeats 8000000 in
set_option maxRecDepth 100000 in
theorem solve_valid.calls (k:Nat) (A0:Option Addr) (c0:Nat) (l0:List (S49)) (r:Int) (w:World) (hr0:Kd.C k49 w A0 l0.length l0) (hc0:l0.length≤c0) (h:solve_valid.f k l0=some r) :
  Calls Tryz.prog 66 #[.slice A0 l0.length c0] w fun e w'=>e=.returned (.int .i64 r)∧Below w.heap.size w w':=by
 have HR0:=zA hr0;have HC0:=zA hc0;clear hr0 hc0;have HB:=zA (Below.refl w.heap.size w);have H:(if (l0.length:Int)>16 then (some 3) else (solve_valid.l0 k l0 (l0.length:Int) 0))=some r:=h;clear h
 rcases if0 H with ⟨c2,H⟩|⟨c2,H⟩
 ·have c2b0:decide (16<(l0.length:Int))=true:=decide_eq_true c2;have c2b1:decide (16<l0.length)=true:=decide_eq_true (by omega);clear c2;obtain rfl:=Option.some.inj H
  go_enter Tryz.func66,Tryz.ntmps66
  go_wp2
  go_ret
  exact ⟨ze,zv0 HB⟩
 ·have c2b0:decide (16<(l0.length:Int))=false:=decide_eq_false c2;have c2b1:decide (16<l0.length)=false:=decide_eq_false (by omega);clear c2;have H':=zA H;clear H
  go_enter Tryz.func66,Tryz.ntmps66
  go_wp2
  go_loopg [11] k (fun kq v11 w'=>∃ (x11_1:Int),v11=.int .i64 x11_1∧Aside0 (solve_valid.l0 kq l0 (l0.length:Int) x11_1=some r)∧Aside0 (kq≤k)∧Aside0 (Below w.heap.size w w'))
  case atStart=>exact ⟨(0),zT,H',⟨Nat.le_refl _⟩,⟨zv0 HB⟩⟩
  case round=>
   clear H'
   try clear c2
   try clear c2b0
   try clear c2b1
   obtain ⟨x11_1,rfl,HA,HK1,HB⟩:=hrel
   cases gk with
   | zero=>exact absurd HA.out (by simp [solve_valid.l0])
   | succ k1=>
    have H:=HA.out;clear HA;simp only [solve_valid.l0] at H
    rcases ifd H with ⟨c3b0,H⟩|⟨c3b0,H⟩
    ·obtain ⟨c4b0,H⟩:=ifd1 H;obtain ⟨c5b0,H⟩:=ifd1 H;obtain ⟨t29,A6,H⟩:=zo H;have HC7:=zA H;clear H;obtain ⟨p14,q14,ad14,A14_0,c14_0,A14_1,c14_1,e14,hx14_0,hx14_1,hl14_0,hi14_0,hl14_1,hi14_1⟩:=zp (at_T49 HR0.out x11_1)
     cases e14
     replace hx14_0:=zd HB hx14_0;replace hx14_1:=zd HB hx14_1;have HR14_0:=zA hi14_0;have HC14_0:=zA hl14_0;clear hi14_0 hl14_0;have HR14_1:=zA hi14_1;have HC14_1:=zA hl14_1;clear hi14_1 hl14_1;replace p14:=eq_true p14;replace q14:=eq_true q14
     go_upto_if 18 with (first|((with_reducible refine gd 4 rfl ?_);refine zx #[.slice none 0 0,.slice none 0 0] 49 ?_;intro gb20 hg w8 BK20 hb GW20 HB1;have GE20:=GW20;clear HB hb hg;have HB:=HB1;clear HB1;have hcz9_0:=zc0 BK20;have hcz9_1:=zc1 BK20;have hfz9_0:=zf BK20)|((with_reducible refine gate_callee (f:=65) rfl ?_);refine zgo 16 Tryz.func65 #[.agg #[.slice A14_0 ((rd_T49 l0 x11_1).f0).length c14_0,.slice A14_1 ((rd_T49 l0 x11_1).f1).length c14_1]] ?_;(with_reducible refine (table_Valid.calls k1 _ _ ((rd_T49 l0 x11_1).f0) _ _ ((rd_T49 l0 x11_1).f1) t29 _ ?side1 HC14_0.out ?side3 HC14_1.out A6.out).mono ?_);(case side1=>exact Kd.C_below HR14_0.out zB);(case side3=>exact Kd.C_below HR14_1.out zB);rintro e w10 ⟨rfl,hb⟩;refine ⟨_,rfl,?_⟩;replace BK20:=zA (blk_below (g:=gb20) (o:=.cells #[.slice A14_0 ((rd_T49 l0 x11_1).f0).length c14_0,.slice A14_1 ((rd_T49 l0 x11_1).f1).length c14_1] 49 (0,0)) (by refine zj ?_;refine blk_put (cs:=#[.slice A14_0 ((rd_T49 l0 x11_1).f0).length c14_0,.slice none 0 0]) ?_ 1 _ rfl;refine zj ?_;refine blk_put (cs:=#[.slice none 0 0,.slice none 0 0]) ?_ 0 _ rfl;refine zj ?_;exact BK20.out) hb);replace HB:=zu hb;clear hb))
     (try simp only [Act.put,zi,zs,zt]);have H:=HC7.out;clear HC7
     rcases ife H with ⟨c11b0,c11b1,H⟩|⟨c11,c11b0,c11b1,H⟩
     ·(first|rw [c11b0]|(simp only [i64_w,i32_w];rw [c11b0])|skip)
      (try rw [c11b1]);have H':=zA H;clear H
      go_wp2
      go_roundg k1
      case measure=>have:=HK1.out;omega
      case rel=>exact ⟨(wrap64 (x11_1+1)),zT,H',⟨by have:=HK1.out;omega⟩,⟨zv1 HB GE20⟩⟩
     ·(first|rw [c11b0]|(simp only [i64_w,i32_w];rw [c11b0])|skip)
      (try rw [c11b1]);obtain rfl:=Option.some.inj H
      go_wp2
      go_ret
      exact ⟨ze,zv1 HB GE20⟩
    ·obtain rfl:=Option.some.inj H
     go_wp2
     go_ret
     exact ⟨ze,zv0 HB⟩
section
open Go.Sort Go.Shelf
def slices_Sort_int_int.f (l0:List Int):Option (List Int):=if l0.length<4611686018427387904 then some (l0.mergeSort fun x y=>decide (x≤y)) else none
theorem slices_Sort_int_int.calls (P0_:Nat→Prop) (u25_:Value) (l0:List Int) (r:List Int) (w0 w:World) (hB:Below w0.heap.size w0 w) (ho0:Kd.R (Kd.int .i64) 3 w w0.heap.size P0_ u25_ l0) (h:slices_Sort_int_int.f l0=some r) :
 Calls Tryz.prog 58 #[u25_] w fun e w'=>e=.returned (.tuple #[])∧Kd.R (Kd.int .i64) 3 w' w0.heap.size (fun k_=>(P0_ k_∨w.heap.size≤k_)) u25_ r∧Below w0.heap.size w0 w'∧Kept w w' (fun k_=>P0_ k_):=by
 unfold slices_Sort_int_int.f at h
 by_cases hsz:l0.length<4611686018427387904
 case neg=>rw [if_neg hsz] at h;exact absurd h (by simp)
 rw [if_pos hsz] at h;obtain rfl:=Option.some.inj h;obtain ⟨A,c,rfl⟩:=Kd.R_slice ho0
 rcases A with _|ad
 ·have hl:l0=[]:=by
   rcases l0 with _|⟨x,xs⟩
   ·rfl
   ·have ho:=Kd.own_of_R (enc:=Value.int .i64) (h1:=fun _=>rfl) ho0
    rcases ho.2 with ⟨_,h0⟩|⟨_,_,_,h0,_⟩
    ·simp at h0
    ·simp at h0
  subst hl;refine (Any.slices_Sort_int_none laysSort none c w).mono ?_;rintro e w' ⟨rfl,rfl⟩;exact ⟨rfl,by rw [List.mergeSort_nil];exact Kd.R_mono ho0 (fun k hk=>.inl hk),hB,Kept.refl _ _⟩
 ·have had:∃ g,ad=⟨g,0,none⟩:=by
   have ho:=Kd.own_of_R (enc:=Value.int .i64) (h1:=fun _=>rfl) ho0
   rcases ho.2 with ⟨h0,_⟩|⟨g,_,_,h0,_⟩
   ·simp at h0
   ·injection h0 with h0;injection h0 with h0;exact ⟨g,h0⟩
  obtain ⟨g,rfl⟩:=had;obtain ⟨h1,h2,h3,h4,h5,h6,h7⟩:=int_row ho0;refine (Any.slices_Sort_int laysSort g 0 c l0 w h7 h3 hsz).mono ?_;rintro e w' ⟨rfl,n,os,rfl⟩;have hl:(l0.mergeSort fun x y=>decide (x≤y)).length=l0.length:=List.length_mergeSort l0;have hr:=int_row_put (ok':=fun k_=>(P0_ k_∨w.heap.size≤k_)) ho0 n os hl (Nat.le_refl _) (.inl h1);rw [List.take_of_length_le (by omega)] at hr;exact ⟨rfl,hr,put_below hB h2 n os _,put_kept (ok:=fun k_=>P0_ k_) n os _ h1⟩
end
section
open Go.Sort Go.Shelf
def slices_Compact_int_int.f (l0:List Int):Option (List Int):=some (Lib.compact l0)
theorem slices_Compact_int_int.calls (P0_:Nat→Prop) (u25_:Value) (l0:List Int) (r:List Int) (w0 w:World) (hB:Below w0.heap.size w0 w) (ho0:Kd.R (Kd.int .i64) 3 w w0.heap.size P0_ u25_ l0) (h:slices_Compact_int_int.f l0=some r) :
 Calls Tryz.prog 59 #[u25_] w fun e w'=>∃ v0_:Value,e=.returned (v0_)∧Kd.R (Kd.int .i64) 3 w' w0.heap.size (fun k_=>(P0_ k_∨w.heap.size≤k_)) v0_ r∧Below w0.heap.size w0 w'∧Kept w w' (fun k_=>P0_ k_):=by
 obtain rfl:=Option.some.inj h;obtain ⟨A,c,rfl⟩:=Kd.R_slice ho0
 rcases A with _|ad
 ·have hl:l0=[]:=by
   rcases l0 with _|⟨x,xs⟩
   ·rfl
   ·have ho:=Kd.own_of_R (enc:=Value.int .i64) (h1:=fun _=>rfl) ho0
    rcases ho.2 with ⟨_,h0⟩|⟨_,_,_,h0,_⟩
    ·simp at h0
    ·simp at h0
  subst hl;refine (Any.slices_Compact_int_empty laysCompact none c w).mono ?_;rintro e w' ⟨rfl,rfl⟩;exact ⟨_,rfl,Kd.R_mono ho0 (fun k hk=>.inl hk),hB,Kept.refl _ _⟩
 ·have had:∃ g,ad=⟨g,0,none⟩:=by
   have ho:=Kd.own_of_R (enc:=Value.int .i64) (h1:=fun _=>rfl) ho0
   rcases ho.2 with ⟨h0,_⟩|⟨g,_,_,h0,_⟩
   ·simp at h0
   ·injection h0 with h0;injection h0 with h0;exact ⟨g,h0⟩
  obtain ⟨g,rfl⟩:=had;obtain ⟨h1,h2,h3,h4,h5,h6,h7⟩:=int_row ho0;have hle:=Lib.compact_length_le l0;refine (Any.slices_Compact_int laysCompact g 0 c l0 w h7 (by unfold maxLen at h6;omega) h5).mono ?_;rintro e w' ⟨rfl,q,rfl⟩;have hr:=int_row_put (ok':=fun k_=>(P0_ k_∨w.heap.size≤k_)) (ys:=Lib.compact l0++List.replicate (l0.length - (Lib.compact l0).length) 0) ho0 q #[] (by simp;omega) hle (.inl h1);rw [List.take_left,grow_empty] at hr;have hb:=put_below hB h2 q #[] (Lib.compact l0++List.replicate (l0.length - (Lib.compact l0).length) 0).toArray;have hk:=put_kept (ok:=fun k_=>P0_ k_) (w:=w) q #[] (Lib.compact l0++List.replicate (l0.length - (Lib.compact l0).length) 0).toArray h1;rw [grow_empty] at hb hk;exact ⟨_,rfl,hr,hb,hk⟩
end
def solve_occurring.l0:Nat→List Int→List (S49)→Int→Int→Option (List Int)
 | 0,_,_,_,_=>none
 | k+1,x3,x6,x7,x8=>if x8<x7 then (if 0≤x8 then (if x8<(x6.length:Int) then (if x3.length+((rd_T49 x6 x8).f0).length<17592186044416 then (solve_occurring.l0 k (x3++((rd_T49 x6 x8).f0)) x6 x7 (wrap64 (x8+1))) else (none)) else (none)) else (none)) else ((slices_Sort_int_int.f x3).bind fun t30=>((slices_Compact_int_int.f t30).bind fun t35=>(some t35)))
def solve_occurring.f (k:Nat) (l0:List (S49)):Option (List Int):=solve_occurring.l0 k ([]:List Int) l0 (l0.length:Int) 0
set_option maxHeartbeats 8000000 in
set_option maxRecDepth 100000 in
theorem solve_occurring.calls (k:Nat) (A0:Option Addr) (c0:Nat) (l0:List (S49)) (r:List Int) (w:World) (hr0:Kd.C k49 w A0 l0.length l0) (hc0:l0.length≤c0) (h:solve_occurring.f k l0=some r) :
  Calls Tryz.prog 69 #[.slice A0 l0.length c0] w fun e w'=>∃ v0_:Value,e=.returned (v0_)∧Kd.R (Kd.int .i64) 3 w' w.heap.size (fun _=>True) v0_ r∧Below w.heap.size w w':=by
 have HR0:=zA hr0;have HC0:=zA hc0;clear hr0 hc0;have HB:=zA (Below.refl w.heap.size w);have H:(solve_occurring.l0 k ([]:List Int) l0 (l0.length:Int) 0)=some r:=h;clear h;have H':=zA H;clear H
 go_enter Tryz.func69,Tryz.ntmps69
 go_wp2
 go_loopg [3,8] k (fun kq v3 v8 w'=>∃ (x3_1:List Int) (x8_1:Int),v8=.int .i64 x8_1∧Aside0 (solve_occurring.l0 kq x3_1 l0 (l0.length:Int) x8_1=some r)∧Aside0 (kq≤k)∧Aside0 (Kd.R (Kd.int .i64) 3 w' w.heap.size (fun _=>True) v3 x3_1)∧Aside0 (Below w.heap.size w w'))
 case atStart=>exact ⟨(([]:List Int)),(0),zT,H',⟨Nat.le_refl _⟩,⟨by first|exact Kd.R_nil _ _ _ _ _|exact Kd.N_nil _ _ _ _ _|exact Kd.V_nil _ _ _ _ _|exact Kd.Q_nil _ _ _ _ _|exact Kd.S_nil _ _ _ _ _⟩,⟨zv0 HB⟩⟩
 case round=>
  clear H';obtain ⟨x3_1,x8_1,rfl,HA,HK1,HO_3,HB⟩:=hrel
  cases gk with
  | zero=>exact absurd HA.out (by simp [solve_occurring.l0])
  | succ k1=>
   have H:=HA.out;clear HA;simp only [solve_occurring.l0] at H
   rcases ifd H with ⟨c2b0,H⟩|⟨c2b0,H⟩
   ·obtain ⟨c3b0,H⟩:=ifd1 H;obtain ⟨c4b0,H⟩:=ifd1 H;obtain ⟨c5,H⟩:=if1 H;have LMc5:=zA c5;clear c5
    first|(replace H:=zyb (x3_1++((rd_T49 l0 x8_1).f0)) H;obtain ⟨y24,Ny24,H⟩:=H)|(obtain ⟨y24,hy24⟩:=zY (x3_1++((rd_T49 l0 x8_1).f0));(try rw (occs:=.pos [1]) [← hy24] at H);have Ny24:=zA hy24;clear hy24)
    have H':=zA H;clear H;obtain ⟨p15,q15,ad15,A15_0,c15_0,A15_1,c15_1,e15,hx15_0,hx15_1,hl15_0,hi15_0,hl15_1,hi15_1⟩:=zp (at_T49 HR0.out x8_1)
    cases e15
    replace hx15_0:=zd HB hx15_0;replace hx15_1:=zd HB hx15_1;have HR15_0:=zA hi15_0;have HC15_0:=zA hl15_0;clear hi15_0 hl15_0;have HR15_1:=zA hi15_1;have HC15_1:=zA hl15_1;clear hi15_1 hl15_1;replace p15:=eq_true p15;replace q15:=eq_true q15
    go_wp2_with (first|((with_reducible refine gd 5 rfl ?_);refine zx #[.slice none 0 0,.slice none 0 0] 49 ?_;intro gb18 hg w6 BK18 hb GW18 HB1;have GE18:=GW18;replace HO_3:=zA (Kd.R_below (zR HO_3) hb);clear HB hb hg;have HB:=HB1;clear HB1;have hcz7_0:=zc0 BK18;have hcz7_1:=zc1 BK18;have hfz7_0:=zf BK18)|((with_reducible refine gate_builtin (b:=.append) (xs:=#[.tmp 12,.tmp 14]) rfl ?_);at_builtin;refine Kd.R_append_rows (Kd.int .i64) (w0:=w) w.heap.size rfl (.tmp 12) (.tmp 14) 23 3 (.int .i64 0) 8 rfl Tryz.underlying23 info3 rfl (by decide) (by omega) u3 x3_1 ((rd_T49 l0 x8_1).f0) _ _ _ (fun _=>True) (fun _=>False) rfl rfl ?aO ?aR (fun _ _ h=>h) (fun _ h=>h.elim) ?aF ?aB ?aS ?aL ?_;(case aR=>exact Kd.C_below HR15_0.out zB);(case aB=>exact zB);(case aF=>exact (fun _ _=>trivial));(case aO=>exact (by refine zr ?_;exact Kd.R_mono (Kd.R_far (p:=⟨gb18,1,none⟩) (Kd.R_far (p:=⟨gb18,0,none⟩) (Kd.R_types HO_3.out BK18.out (by decide)) (fun _ hk=>hk.2) (.slice A15_0 ((rd_T49 l0 x8_1).f0).length c15_0)) (fun _ hk=>hk.2) (.slice A15_1 ((rd_T49 l0 x8_1).f1).length c15_1)) (fun _ hk=>trivial)));(case aS=>exact (below_size zB));(case aL=>have:=LMc5.out;omega);intro v42 w8 ho hb hg hat;rw [← Ny24.out] at ho;have HO40:=zA (ho);replace BK18:=zA (blk_grown (g:=gb18) (o:=.cells #[.slice A15_0 ((rd_T49 l0 x8_1).f0).length c15_0,.slice A15_1 ((rd_T49 l0 x8_1).f1).length c15_1] 49 (0,0)) (by refine zj ?_;refine blk_put (cs:=#[.slice A15_0 ((rd_T49 l0 x8_1).f0).length c15_0,.slice none 0 0]) ?_ 1 _ rfl;refine zj ?_;refine blk_put (cs:=#[.slice none 0 0,.slice none 0 0]) ?_ 0 _ rfl;refine zj ?_;exact BK18.out) hg (Kd.R_ne HO_3.out BK18.out (by decide)));replace HB:=zA (hb);clear HO_3;clear ho hb hg hat))
    go_roundg k1
    case measure=>have:=HK1.out;omega
    case rel=>exact ⟨(y24),(wrap64 (x8_1+1)),zT,H',⟨by have:=HK1.out;omega⟩,⟨by refine zr ?_;exact HO40.out⟩,⟨zv1 HB GE18⟩⟩
   ·obtain ⟨t30,A9,H⟩:=zo H;obtain ⟨t35,A10,H⟩:=zo H;obtain rfl:=Option.some.inj H;obtain ⟨Ao11,co11,eo11⟩:=Kd.R_slice HO_3.out;subst eo11
    go_wp2_with (first|((with_reducible refine gate_callee (f:=58) rfl ?_);refine zgo 18 Tryz.func58 #[.slice Ao11 x3_1.length co11] ?_;(with_reducible refine (slices_Sort_int_int.calls (fun k_=>some k_=(.slice Ao11 x3_1.length co11:Value).ownBlock) (.slice Ao11 x3_1.length co11) x3_1 t30 w _ ?side1 ?side2 A9.out).mono ?_);(case side1=>repeat (first|(with_reducible first|exact HB.out|apply below_alloc|apply pw_below_drewN|apply below_drew1)|exact HB.out));(case side2=>exact Kd.R_tight rfl HO_3.out);rintro e w12 ⟨rfl,hy0,hb,hkp⟩;refine ⟨_,rfl,?_⟩;replace HO_3:=zA (Kd.R_reok rfl hy0 (fun k_ e_=>HO_3.out.1 k_ e_));replace HB:=zA (hb);(try clear hb);(try clear hkp);(try clear hy0))|((with_reducible refine gate_callee (f:=59) rfl ?_);refine zgo 20 Tryz.func59 #[.slice Ao11 x3_1.length co11] ?_;(with_reducible refine (slices_Compact_int_int.calls (fun k_=>some k_=(.slice Ao11 x3_1.length co11:Value).ownBlock) (.slice Ao11 x3_1.length co11) t30 t35 w _ ?side1 ?side2 A10.out).mono ?_);(case side1=>repeat (first|(with_reducible first|exact HB.out|apply below_alloc|apply pw_below_drewN|apply below_drew1)|exact HB.out));(case side2=>exact Kd.R_tight rfl HO_3.out);rintro e w13 ⟨v43,rfl,ho0,hb,hkp⟩;refine ⟨_,rfl,?_⟩;have HO41:=zA (Kd.R_mono (ok':=fun k_=>True) ho0 (fun k_ hk_=>trivial));replace HB:=zA (hb);clear HO_3;(try clear hb);(try clear hkp);(try clear ho0)))
    go_ret
    exact ⟨_,ze,by refine zr ?_;exact HO41.out,zv0 HB⟩
def solve_choices_with.f (a0_0:Int) (a0_1:Int) (a1:Int) (a2:Int):Option (Int×Int):=if 0≤a1 then (some (Go.bits .or .i64 a0_0 (shl .i64 1 a1),Go.bits .or .i64 (Go.bits .andNot .i64 a0_1 (shl .i64 1 a1)) (shl .i64 a2 a1))) else (none)
def solve_choices_with.T1:Bool×List (List Nat×List Nat):=(true,[([],[]),([0],[0]),([],[]),([2],[2]),([1,3],[1,3]),([],[]),([5],[5]),([],[]),([7],[7]),([6,8],[6,8]),([],[]),([],[]),([10,11],[10,11]),([9,12],[9,12]),([4,13],[4,13]),([14,0,1,2,3,4,5,6,7,8,9,10,11,12,13,14],[14])])
def solve_choices_with.B1:List Nat:=[0,1,0,4,15,0,32,0,128,480,0,0,3072,8160,16383,32767]
theorem solve_choices_with.tab1:rtab .any (opsOf Tryz.f92 1)=solve_choices_with.T1:=by kernel_rfl
theorem solve_choices_with.bits1:waitsOk solve_choices_with.T1.2 solve_choices_with.B1=true:=by kernel_rfl
set_option maxHeartbeats 8000000 in
set_option maxRecDepth 100000 in
theorem solve_choices_with.calls (a0_0:Int) (a0_1:Int) (a1:Int) (a2:Int) (r1:Int) (r2:Int) (w:World) (h:solve_choices_with.f a0_0 a0_1 a1 a2=some (r1,r2)) :
  Calls Tryz.prog 92 #[.agg #[.int .i64 a0_0,.int .i64 a0_1],.int .i64 a1,.int .i64 a2] w fun e w'=>e=.returned (.agg #[.int .i64 r1,.int .i64 r2])∧Below w.heap.size w w':=by
 have HB:=zA (Below.refl w.heap.size w);have H:(if 0≤a1 then (some (Go.bits .or .i64 a0_0 (shl .i64 1 a1),Go.bits .or .i64 (Go.bits .andNot .i64 a0_1 (shl .i64 1 a1)) (shl .i64 a2 a1))) else (none))=some (r1,r2):=h;clear h;obtain ⟨c4,H⟩:=if1 H;have c4b0:=eq_true c4;have c4b1:decide (0≤a1)=true:=decide_eq_true c4;clear c4;obtain ⟨ji5,hji5⟩:=zZ (shl .i64 1 a1)
 first|rw [hji5] at H|simp only [hji5] at H
 have hji5_:(IntKind.i64.wrap (1 * 2 ^ min a1.toNat 64))=ji5:=hji5;have hji5z:a1≤64→(IntKind.i64.wrap (1 * 2 ^ a1.toNat))=ji5:=shl_small hji5
 have hji5u:(IntKind.i64.wrap (2 ^ min a1.toNat 64))=ji5:=by have h_:=hji5_;rw [Int.one_mul] at h_;exact h_
 have hji5v:a1≤64→(IntKind.i64.wrap (2 ^ a1.toNat))=ji5:=fun hle_=>by have h_:=hji5z hle_;rw [Int.one_mul] at h_;exact h_
 have hji5y:(wrap64 (1 * 2 ^ min a1.toNat 64))=ji5:=(i64_w _).symm.trans hji5_
 have hji5x:a1≤64→(wrap64 (1 * 2 ^ a1.toNat))=ji5:=fun h_=>(i64_w _).symm.trans (hji5z h_)
 have c6b0:=eq_true (of_decide_eq_true zh:0≤a1);have c7b0:=eq_true (of_decide_eq_true zh:0≤a1);obtain ⟨ji8,hji8⟩:=zZ (shl .i64 a2 a1)
 first|rw [hji8] at H|simp only [hji8] at H
 have hji8_:(IntKind.i64.wrap (a2 * 2 ^ min a1.toNat 64))=ji8:=hji8;have hji8z:a1≤64→(IntKind.i64.wrap (a2 * 2 ^ a1.toNat))=ji8:=shl_small hji8;have hji8y:(wrap64 (a2 * 2 ^ min a1.toNat 64))=ji8:=(i64_w _).symm.trans hji8_
 have hji8x:a1≤64→(wrap64 (a2 * 2 ^ a1.toNat))=ji8:=fun h_=>(i64_w _).symm.trans (hji8z h_)
 simp only [Option.some.injEq,Prod.mk.injEq] at H;obtain ⟨rfl,rfl⟩:=H
 go_enter Tryz.func92,Tryz.ntmps92
 try go_wp2_with (first|((with_reducible refine gd 3 rfl ?_);refine zx #[.int .i64 a0_0,.int .i64 a0_1] 80 ?_;intro gb17 hg w9 BK17 hb GW17 HB1;have GE17:=GW17;clear HB hb hg;have HB:=HB1;clear HB1)|((with_reducible refine gd 6 rfl ?_);refine zx #[.int .i64 0,.int .i64 0] 80 ?_;intro gb16 hg w10 BK16 hb GW16 HB1;have GE16:=GW16;have NB17_16:=zL hg BK17;have NB16_17:=zLs NB17_16;replace BK17:=zw BK17 hb;clear HB hb hg;have HB:=HB1;clear HB1))
 replace BK17:=zA (blk_drew BK17.out);replace BK16:=zA (blk_drew BK16.out);replace HB:=zA (below_drew1 HB.out);refine start_ (n:=16) (S:=fun w'=>w'.cell? ⟨gb17,0,none⟩=some (.int .i64 a0_0)∧w'.cell? ⟨gb17,1,none⟩=some (.int .i64 a0_1)) (ds:=[]) (bz 16 0) zK rfl rfl ⟨zc0 BK17,zc1 BK17⟩ (fun hHeld=>?_);refine with_tabW solve_choices_with.tab1 solve_choices_with.bits1 (fun HT_ HW_=>?_)
 generalize w10.drew=w11 at BK17 BK16 HB hHeld ⊢
 refine zP 0 7 (bz 16 1) HT_ ?_;refine zP 2 9 (bz 16 5) HT_ ?_;refine zP 3 10 (bz 16 13) HT_ ?_;refine zP 5 12 (bz 16 45) HT_ ?_;refine zP 7 14 (bz 16 173) HT_ ?_;refine zP 8 15 (bz 16 429) HT_ ?_;refine zP 10 17 (bz 16 1453) HT_ ?_;refine zP 11 18 (bz 16 3501) HT_ ?_;refine zP 12 19 (bz 16 7597) HT_ ?_;refine zQ 1 8 (bz 16 7599) HT_ HW_ hHeld ?_;refine zP 4 11 (bz 16 7615) HT_ ?_;refine zQ 6 13 (bz 16 7679) HT_ HW_ hHeld ?_;refine zP 9 16 (bz 16 8191) HT_ ?_;refine zP 13 20 (bz 16 16383) HT_ ?_;refine zP 14 21 (bz 16 32767) HT_ ?_;refine one_ (i:=15) (N:=none) (bz 16 65535) rfl rfl (one_of HT_.out zK) (by decide) (fun K hK=>?_);have hs12:w11.cell? ⟨gb16,0,none⟩=some (.int .i64 0):=zc0 BK16;have hfs12:=zf BK16 0;have hns12_0:=NB17_16.out;have hms12_0:=NB16_17.out;have hs13:w11.cell? ⟨gb16,1,none⟩=some (.int .i64 0):=zc1 BK16;have hfs13:=zf BK16 1;have hns13_0:=NB17_16.out;have hms13_0:=NB16_17.out;refine skip_ (w1:=?_) (by rfl) rfl ?_ ?_;rotate_left
 ·go_simp
  rfl
 refine hK.out _ _ ⟨((cell_far (p:=⟨gb16,_,none⟩) NB17_16.out _).trans (((cell_far (p:=⟨gb16,_,none⟩) NB17_16.out _).trans (hHeld.1)))),((cell_far (p:=⟨gb16,_,none⟩) NB17_16.out _).trans (((cell_far (p:=⟨gb16,_,none⟩) NB17_16.out _).trans (hHeld.2))))⟩ (fun hHeld=>?_);clear hK K;refine done_ (done_of HT_.out zK) ?_
 try go_wp2
 refine bodyPost_ret (results_cell_row rfl _ _ gb16 80 #[.int .i64 (Go.bits .or .i64 a0_0 (ji5)),.int .i64 (Go.bits .or .i64 (Go.bits .andNot .i64 a0_1 (ji5)) (ji8))] (0,0) _ rfl (by refine zj ?_;refine blk_put (cs:=#[.int .i64 (Go.bits .or .i64 a0_0 (ji5)),.int .i64 0]) ?_ 1 _ rfl;refine zj ?_;refine blk_put (cs:=#[.int .i64 0,.int .i64 0]) ?_ 0 _ rfl;refine zj ?_;exact BK16.out) Tryz.underlying80 rfl zK) rfl ?_;exact ⟨by first|rfl|(simp [errW_none,errW_some] <;> rfl)|(simp only [← hji5,← hji8];first|rfl|(simp [errW_none,errW_some] <;> rfl))|(simp [*,errW_none,errW_some] <;> rfl),zv2 HB GE17 GE16⟩
def solve_row.l0:Nat→Int→Int→List Int→Int→Int→Option (Int)
 | 0,_,_,_,_,_=>none
 | k+1,x1,x5,x9,x10,x11=>if x11<x10 then (if 0≤x11 then (if x11<(x9.length:Int) then (if 0≤(rd x9 x11) then (solve_row.l0 k x1 (Go.bits .or .i64 x5 (shl .i64 (Go.bits .and .i64 (shr .i64 x1 (rd x9 x11)) 1) x11)) x9 x10 (wrap64 (x11+1))) else (none)) else (none)) else (none)) else (some x5)
def solve_row.f (k:Nat) (l0_0:List Int) (l0_1:List Int) (a1:Int):Option (Int):=solve_row.l0 k a1 0 l0_0 (l0_0.length:Int) 0
theorem solve_row.mono_l:∀ k,(∀ y0 y1 y2 y3 y4,LeO (solve_row.l0 k y0 y1 y2 y3 y4) (solve_row.l0 (k+1) y0 y1 y2 y3 y4))
 | 0=>fun _ _ _ _ _ r h=>by simp [solve_row.l0] at h
 | k+1=>by
  have ih0:=solve_row.mono_l k
  ·intro y0 y1 y2 y3 y4
   unfold solve_row.l0
   repeat' first
   | (with_reducible exact ih0 _ _ _ _ _)
   | (with_reducible exact LeO.refl _)
   | (with_reducible exact LeO.none _)
   | (with_reducible refine LeO.ite ?_ ?_)
   | (with_reducible refine LeO.bind ?_ (fun _=>?_))
   | exact LeO.none _
   | refine LeO.ite ?_ ?_
   | refine LeO.bind ?_ (fun _=>?_)
theorem solve_row.mono:∀ a0 a1 a2 k,LeO (solve_row.f k a0 a1 a2) (solve_row.f (k+1) a0 a1 a2):=by
 intro a0 a1 a2 k;have ih0:=solve_row.mono_l k
 unfold solve_row.f
 repeat' first
   | (with_reducible exact ih0 _ _ _ _ _)
   | (with_reducible exact LeO.refl _)
   | (with_reducible exact LeO.none _)
   | (with_reducible refine LeO.ite ?_ ?_)
   | (with_reducible refine LeO.bind ?_ (fun _=>?_))
   | exact LeO.none _
   | refine LeO.ite ?_ ?_
   | refine LeO.bind ?_ (fun _=>?_)
set_option maxHeartbeats 8000000 in
set_option maxRecDepth 100000 in
theorem solve_row.calls (k:Nat) (A0_0:Option Addr) (c0_0:Nat) (l0_0:List Int) (A0_1:Option Addr) (c0_1:Nat) (l0_1:List Int) (a1:Int) (r:Int) (w:World) (hr0_0:Kd.C (Kd.int .i64) w A0_0 l0_0.length l0_0) (hc0_0:l0_0.length≤c0_0) (hr0_1:Kd.C (Kd.int .i64) w A0_1 l0_1.length l0_1) (hc0_1:l0_1.length≤c0_1) (h:solve_row.f k l0_0 l0_1 a1=some r) :
  Calls Tryz.prog 73 #[.agg #[.slice A0_0 l0_0.length c0_0,.slice A0_1 l0_1.length c0_1],.int .i64 a1] w fun e w'=>e=.returned (.int .i64 r)∧Below w.heap.size w w':=by
 have HR0_0:=zA hr0_0;have HC0_0:=zA hc0_0;clear hr0_0 hc0_0;have HR0_1:=zA hr0_1;have HC0_1:=zA hc0_1;clear hr0_1 hc0_1;have HB:=zA (Below.refl w.heap.size w);have H:(solve_row.l0 k a1 0 l0_0 (l0_0.length:Int) 0)=some r:=h;clear h;have H':=zA H;clear H
 go_enter Tryz.func73,Tryz.ntmps73
 go_wp2_with (first|((with_reducible refine gd 2 rfl ?_);refine zx #[.slice A0_0 l0_0.length c0_0,.slice A0_1 l0_1.length c0_1] 49 ?_;intro gb19 hg w3 BK19 hb GW19 HB1;have GE19:=GW19;clear HB hb hg;have HB:=HB1;clear HB1;have hcz4_0:=zc0 BK19;have hcz4_1:=zc1 BK19;have hfz4_0:=zf BK19))
 go_loopg [5,11] k (fun kq v5 v11 w'=>∃ (x5_1:Int) (x11_1:Int),v5=.int .i64 x5_1∧v11=.int .i64 x11_1∧Aside0 (solve_row.l0 kq a1 x5_1 l0_0 (l0_0.length:Int) x11_1=some r)∧Aside0 (kq≤k)∧Aside0 (w'.heap[gb19]?=some (.cells #[(.slice A0_0 l0_0.length c0_0),(.slice A0_1 l0_1.length c0_1)] 49 (0,0)))∧Aside0 (Below w.heap.size w w'))
 case atStart=>exact ⟨(0),(0),zT,zT,H',⟨Nat.le_refl _⟩,⟨by refine zj ?_;exact BK19.out⟩,⟨zv1 HB GE19⟩⟩
 case round=>
  clear H'
  try clear hcz4_0
  try clear hcz4_1
  try clear hfz4_0
  try clear hfz4_1
  obtain ⟨x5_1,x11_1,rfl,rfl,HA,HK1,BK19,HB⟩:=hrel
  cases gk with
  | zero=>exact absurd HA.out (by simp [solve_row.l0])
  | succ k1=>
   have H:=HA.out;clear HA;simp only [solve_row.l0] at H
   rcases ifd H with ⟨c5b0,H⟩|⟨c5b0,H⟩
   ·obtain ⟨c6b0,H⟩:=ifd1 H;obtain ⟨c7b0,H⟩:=ifd1 H;obtain ⟨c8,H⟩:=if1 H;have c8b0:=eq_true c8;have c8b1:decide (0≤(rd l0_0 x11_1))=true:=decide_eq_true c8;clear c8;obtain ⟨ji9,hji9⟩:=zZ (shr .i64 a1 (rd l0_0 x11_1))
    first|rw [hji9] at H|simp only [hji9] at H
    have hji9_:(a1 / 2 ^ min (rd l0_0 x11_1).toNat 64)=ji9:=hji9;have hji9z:(rd l0_0 x11_1)≤64→(a1 / 2 ^ (rd l0_0 x11_1).toNat)=ji9:=shr_small hji9;have c10b0:=eq_true (of_decide_eq_true zh:0≤x11_1);obtain ⟨ji11,hji11⟩:=zZ (shl .i64 (Go.bits .and .i64 (ji9) 1) x11_1)
    first|rw [hji11] at H|simp only [hji11] at H
    have hji11_:(IntKind.i64.wrap ((Go.bits .and .i64 (ji9) 1) * 2 ^ min x11_1.toNat 64))=ji11:=hji11;have hji11z:x11_1≤64→(IntKind.i64.wrap ((Go.bits .and .i64 (ji9) 1) * 2 ^ x11_1.toNat))=ji11:=shl_small hji11;have hji11y:(wrap64 ((Go.bits .and .i64 (ji9) 1) * 2 ^ min x11_1.toNat 64))=ji11:=(i64_w _).symm.trans hji11_
    have hji11x:x11_1≤64→(wrap64 ((Go.bits .and .i64 (ji9) 1) * 2 ^ x11_1.toNat))=ji11:=fun h_=>(i64_w _).symm.trans (hji11z h_)
    have H':=zA H;clear H;obtain ⟨p21,q21,ad21,e21,hx21_0⟩:=zp (Kd.at_int HR0_0.out x11_1)
    cases e21
    replace hx21_0:=zd HB hx21_0;replace p21:=eq_true p21;replace q21:=eq_true q21
    go_wp2
    go_roundg k1
    case measure=>have:=HK1.out;omega
    case rel=>exact ⟨(Go.bits .or .i64 x5_1 (ji11)),(wrap64 (x11_1+1)),(by first|rfl|(simp;done)|(simp only [← hji11] <;> (first|rfl|simp))|(simp [*];done)),zT,H',⟨by have:=HK1.out;omega⟩,⟨by refine zj ?_;exact BK19.out⟩,⟨zv1 HB GE19⟩⟩
   ·obtain rfl:=Option.some.inj H
    go_wp2
    go_ret
    exact ⟨ze,zv1 HB GE19⟩
def solve_choices_fails_1_v1.f (a0:Int) (a1_0:Int) (a2_0:Int):Option (Bool):=some ((Go.bits .and .i64 a0 a1_0) == a2_0)
set_option maxHeartbeats 8000000 in
set_option maxRecDepth 100000 in
theorem solve_choices_fails_1_v1.calls (a0:Int) (gp1_0:Nat) (a1_0:Int) (gp2_0:Nat) (a2_0:Int) (r:Bool) (w:World) (hb_gp1_0:w.heap[gp1_0]?=some (.cells #[.int .i64 a1_0] 3 (0,0))) (hb_gp2_0:w.heap[gp2_0]?=some (.cells #[.int .i64 a2_0] 3 (0,0))) (h:solve_choices_fails_1_v1.f a0 a1_0 a2_0=some r) :
  Calls Tryz.prog 114 #[.int .i64 a0,.pointer (some ⟨gp1_0,0,none⟩),.pointer (some ⟨gp2_0,0,none⟩)] w fun e w'=>e=.returned (.bool r)∧Drawn0 w w':=by
 have BK38:=zA hb_gp1_0;clear hb_gp1_0;have BK39:=zA hb_gp2_0;clear hb_gp2_0;have H:(some ((Go.bits .and .i64 a0 a1_0) == a2_0))=some r:=h;clear h;obtain rfl:=Option.some.inj H;have hcz4_0:w.cell? ⟨gp1_0,0,none⟩=some (.int .i64 a1_0):=zc0 BK38;have hfz4_0:=zf BK38 0;have hcz5_0:w.cell? ⟨gp2_0,0,none⟩=some (.int .i64 a2_0):=zc0 BK39;have hfz5_0:=zf BK39 0
 go_enter Tryz.func114,Tryz.ntmps114
 go_wp2
 go_ret
 exact ⟨by first|rfl|(simp;done)|(simp [*];done),by repeat (first|exact Drawn0.refl _|apply Drawn0.step)⟩
def slices_IndexFunc_int_int_solve_choices_fails_1.l0:Nat→List Int→Int→Int→Int→Int→Option (Int)
 | 0,_,_,_,_,_=>none
 | k+1,x0,x7,x8,x26,x27=>if x8<x7 then (if 0≤x8 then (if x8<(x0.length:Int) then ((solve_choices_fails_1_v1.f (rd x0 x8) x26 x27).bind fun t31=>(if t31=true then (some x8) else (slices_IndexFunc_int_int_solve_choices_fails_1.l0 k x0 x7 (wrap64 (x8+1)) x26 x27))) else (none)) else (none)) else (some (-1))
def slices_IndexFunc_int_int_solve_choices_fails_1.f (k:Nat) (l0:List Int) (a1_0:Int) (a1_1:Int):Option (Int):=slices_IndexFunc_int_int_solve_choices_fails_1.l0 k l0 (l0.length:Int) 0 a1_0 a1_1
theorem slices_IndexFunc_int_int_solve_choices_fails_1.mono_l:∀ k,(∀ y0 y1 y2 y3 y4,LeO (slices_IndexFunc_int_int_solve_choices_fails_1.l0 k y0 y1 y2 y3 y4) (slices_IndexFunc_int_int_solve_choices_fails_1.l0 (k+1) y0 y1 y2 y3 y4))
 | 0=>fun _ _ _ _ _ r h=>by simp [slices_IndexFunc_int_int_solve_choices_fails_1.l0] at h
 | k+1=>by
  have ih0:=slices_IndexFunc_int_int_solve_choices_fails_1.mono_l k
  ·intro y0 y1 y2 y3 y4
   unfold slices_IndexFunc_int_int_solve_choices_fails_1.l0
   repeat' first
   | (with_reducible exact ih0 _ _ _ _ _)
   | (with_reducible exact LeO.refl _)
   | (with_reducible exact LeO.none _)
   | (with_reducible refine LeO.ite ?_ ?_)
   | (with_reducible refine LeO.bind ?_ (fun _=>?_))
   | exact LeO.none _
   | refine LeO.ite ?_ ?_
   | refine LeO.bind ?_ (fun _=>?_)
theorem slices_IndexFunc_int_int_solve_choices_fails_1.mono:∀ a0 a1 a2 k,LeO (slices_IndexFunc_int_int_solve_choices_fails_1.f k a0 a1 a2) (slices_IndexFunc_int_int_solve_choices_fails_1.f (k+1) a0 a1 a2):=by
 intro a0 a1 a2 k;have ih0:=slices_IndexFunc_int_int_solve_choices_fails_1.mono_l k
 unfold slices_IndexFunc_int_int_solve_choices_fails_1.f
 repeat' first
   | (with_reducible exact ih0 _ _ _ _ _)
   | (with_reducible exact LeO.refl _)
   | (with_reducible exact LeO.none _)
   | (with_reducible refine LeO.ite ?_ ?_)
   | (with_reducible refine LeO.bind ?_ (fun _=>?_))
   | exact LeO.none _
   | refine LeO.ite ?_ ?_
   | refine LeO.bind ?_ (fun _=>?_)
set_option maxHeartbeats 8000000 in
set_option maxRecDepth 100000 in
theorem slices_IndexFunc_int_int_solve_choices_fails_1.calls (k:Nat) (A0:Option Addr) (c0:Nat) (l0:List Int) (gp1_0:Nat) (gp1_1:Nat) (a1_0:Int) (a1_1:Int) (r:Int) (w:World) (hr0:Kd.C (Kd.int .i64) w A0 l0.length l0) (hc0:l0.length≤c0) (hb_gp1_0:w.heap[gp1_0]?=some (.cells #[.int .i64 a1_0] 3 (0,0))) (hb_gp1_1:w.heap[gp1_1]?=some (.cells #[.int .i64 a1_1] 3 (0,0))) (h:slices_IndexFunc_int_int_solve_choices_fails_1.f k l0 a1_0 a1_1=some r) :
  Calls Tryz.prog 115 #[.slice A0 l0.length c0,.func (.func 114) #[] #[.pointer (some ⟨gp1_0,0,none⟩),.pointer (some ⟨gp1_1,0,none⟩)]] w fun e w'=>e=.returned (.int .i64 r)∧Below w.heap.size w w':=by
 have HR0:=zA hr0;have HC0:=zA hc0;clear hr0 hc0;have BK33:=zA hb_gp1_0;clear hb_gp1_0;have BK34:=zA hb_gp1_1;clear hb_gp1_1;have HB:=zA (Below.refl w.heap.size w);have H:(slices_IndexFunc_int_int_solve_choices_fails_1.l0 k l0 (l0.length:Int) 0 a1_0 a1_1)=some r:=h;clear h;have H':=zA H;clear H
 go_enter Tryz.func115,Tryz.ntmps115
 go_wp2
 go_loopg [8] k (fun kq v8 w'=>∃ (x8_1:Int),v8=.int .i64 x8_1∧Aside0 (slices_IndexFunc_int_int_solve_choices_fails_1.l0 kq l0 (l0.length:Int) x8_1 a1_0 a1_1=some r)∧Aside0 (kq≤k)∧Aside0 (w'.heap[gp1_0]?=some (.cells #[.int .i64 a1_0] 3 (0,0)))∧Aside0 (w'.heap[gp1_1]?=some (.cells #[.int .i64 a1_1] 3 (0,0)))∧Aside0 (Below w.heap.size w w'))
 case atStart=>exact ⟨(0),zT,H',⟨Nat.le_refl _⟩,⟨by refine zj ?_;exact BK33.out⟩,⟨by refine zj ?_;exact BK34.out⟩,⟨zv0 HB⟩⟩
 case round=>
  clear H';obtain ⟨x8_1,rfl,HA,HK1,BK33,BK34,HB⟩:=hrel
  cases gk with
  | zero=>exact absurd HA.out (by simp [slices_IndexFunc_int_int_solve_choices_fails_1.l0])
  | succ k1=>
   have H:=HA.out;clear HA;simp only [slices_IndexFunc_int_int_solve_choices_fails_1.l0] at H
   rcases ifd H with ⟨c3b0,H⟩|⟨c3b0,H⟩
   ·obtain ⟨c4b0,H⟩:=ifd1 H;obtain ⟨c5b0,H⟩:=ifd1 H;obtain ⟨t31,A6,H⟩:=zo H;have HC7:=zA H;clear H;obtain ⟨p22,q22,ad22,e22,hx22_0⟩:=zp (Kd.at_int HR0.out x8_1)
    cases e22
    replace hx22_0:=zd HB hx22_0;replace p22:=eq_true p22;replace q22:=eq_true q22
    go_upto_if 16 with (first|(go_at_call 114;(with_reducible refine (solve_choices_fails_1_v1.calls (rd l0 x8_1) gp1_0 a1_0 gp1_1 a1_1 t31 _ ?side1 ?side2 A6.out).mono ?_);(case side1=>refine zj ?_;exact BK33.out);(case side2=>refine zj ?_;exact BK34.out);rintro e w' ⟨rfl,⟨nd,rfl⟩⟩))
    (try simp only [Act.put,zi,zs,zt]);have H:=HC7.out;clear HC7
    by_cases c8:t31=true
    ·subst c8
     have H1:(some x8_1)=some r:=by rw [if_pos rfl] at H;exact H
     clear H;have H:=H1;clear H1;obtain rfl:=Option.some.inj H
     go_wp2
     go_ret
     exact ⟨ze,zv0 HB⟩
    ·replace c8:=Bool.eq_false_iff.mpr c8;subst c8
     have H1:(slices_IndexFunc_int_int_solve_choices_fails_1.l0 k1 l0 (l0.length:Int) (wrap64 (x8_1+1)) a1_0 a1_1)=some r:=by rw [if_neg (show ¬ (false=true) by decide)] at H;exact H
     clear H;have H:=H1;clear H1;have H':=zA H;clear H
     go_wp2
     go_roundg k1
     case measure=>have:=HK1.out;omega
     case rel=>exact ⟨(wrap64 (x8_1+1)),zT,H',⟨by have:=HK1.out;omega⟩,⟨by refine zj ?_;exact BK33.out⟩,⟨by refine zj ?_;exact BK34.out⟩,⟨zv0 HB⟩⟩
   ·obtain rfl:=Option.some.inj H
    go_wp2
    go_ret
    exact ⟨ze,zv0 HB⟩
def slices_ContainsFunc_int_int_solve_choices_fails_1.f (k:Nat) (l0:List Int) (a1_0:Int) (a1_1:Int):Option (Bool):=(slices_IndexFunc_int_int_solve_choices_fails_1.f k l0 a1_0 a1_1).bind fun t28=>(some (decide (t28≥0)))
theorem slices_ContainsFunc_int_int_solve_choices_fails_1.mono:∀ a0 a1 a2 k,LeO (slices_ContainsFunc_int_int_solve_choices_fails_1.f k a0 a1 a2) (slices_ContainsFunc_int_int_solve_choices_fails_1.f (k+1) a0 a1 a2):=by
 intro a0 a1 a2 k
 unfold slices_ContainsFunc_int_int_solve_choices_fails_1.f
 repeat' first
   | (with_reducible exact slices_IndexFunc_int_int_solve_choices_fails_1.mono _ _ _ _)
   | (with_reducible exact LeO.refl _)
   | (with_reducible exact LeO.none _)
   | (with_reducible refine LeO.ite ?_ ?_)
   | (with_reducible refine LeO.bind ?_ (fun _=>?_))
   | exact LeO.none _
   | refine LeO.ite ?_ ?_
   | refine LeO.bind ?_ (fun _=>?_)
set_option maxHeartbeats 8000000 in
set_option maxRecDepth 100000 in
theorem slices_ContainsFunc_int_int_solve_choices_fails_1.calls (k:Nat) (A0:Option Addr) (c0:Nat) (l0:List Int) (gp1_0:Nat) (gp1_1:Nat) (a1_0:Int) (a1_1:Int) (r:Bool) (w:World) (hr0:Kd.C (Kd.int .i64) w A0 l0.length l0) (hc0:l0.length≤c0) (hb_gp1_0:w.heap[gp1_0]?=some (.cells #[.int .i64 a1_0] 3 (0,0))) (hb_gp1_1:w.heap[gp1_1]?=some (.cells #[.int .i64 a1_1] 3 (0,0))) (h:slices_ContainsFunc_int_int_solve_choices_fails_1.f k l0 a1_0 a1_1=some r) :
  Calls Tryz.prog 100 #[.slice A0 l0.length c0,.func (.func 114) #[] #[.pointer (some ⟨gp1_0,0,none⟩),.pointer (some ⟨gp1_1,0,none⟩)]] w fun e w'=>e=.returned (.bool r)∧Below w.heap.size w w':=by
 have HR0:=zA hr0;have HC0:=zA hc0;clear hr0 hc0;have BK36:=zA hb_gp1_0;clear hb_gp1_0;have BK37:=zA hb_gp1_1;clear hb_gp1_1;have HB:=zA (Below.refl w.heap.size w);have H:((slices_IndexFunc_int_int_solve_choices_fails_1.f k l0 a1_0 a1_1).bind fun t28=>(some (decide (t28≥0))))=some r:=h;clear h;obtain ⟨t28,A3,H⟩:=zo H;obtain rfl:=Option.some.inj H
 go_enter Tryz.func100,Tryz.ntmps100
 go_wp2_with (first|((with_reducible refine gate_callee (f:=115) rfl ?_);refine zgo 7 Tryz.func115 #[.slice A0 l0.length c0,.func (.func 114) #[] #[.pointer (some ⟨gp1_0,0,none⟩),.pointer (some ⟨gp1_1,0,none⟩)]] ?_;(with_reducible refine (slices_IndexFunc_int_int_solve_choices_fails_1.calls k _ _ l0 gp1_0 gp1_1 a1_0 a1_1 t28 _ ?side1 HC0.out ?side3 ?side4 A3.out).mono ?_);(case side1=>repeat (first|exact HR0.out|(with_reducible refine Kd.C_alloc ?_ _)|(with_reducible refine Kd.C_drewN ?_ _)|(with_reducible refine Kd.C_drew ?_)));(case side3=>refine zj ?_;exact BK36.out);(case side4=>refine zj ?_;exact BK37.out);rintro e w4 ⟨rfl,hb⟩;refine ⟨_,rfl,?_⟩;replace BK36:=zw BK36 hb;replace BK37:=zw BK37 hb;replace HB:=zu hb;clear hb))
 go_ret
 exact ⟨ze,zv0 HB⟩
end Go.Proofs.YtkjghablbeaioaaGreat.B
