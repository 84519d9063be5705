import Derived.Test.YtngpkbbljnbojaaGreatL0
import Derived.Test.YtngpkbbljnbojaaGreatL4
import Derived.Test.YtngpkbbljnbojaaGreatL11
namespace Go.Proofs.YtngpkbbljnbojaaGreat.L
open Go.RowKit Go.Proofs.YtngpkbbljnbojaaGreatW.PrintWords Go.Proofs.YtngpkbbljnbojaaGreatW.PrintLast Go.Proofs.YtngpkbbljnbojaaGreatW.PrintMore
attribute [local go_sem] max2_int min2_int max_two min_two max_three min_three max_four min_four Tryz.underlying3 Tryz.underlying43 Tryz.underlying63
set_option linter.unusedVariables false
set_option linter.unusedSimpArgs false
def ancepslaw41_own.l0:Nat→List (S63)→List (S63)→Int→Int→Option ((List (S63)))
 | 0,_,_,_,_=>none
 | k+1,x3,x6,x7,x8=>if x8<x7 then (if 0≤x8 then (if x8<(x6.length:Int) then ((slices_Clone_int_int.f ((rd_T63 x6 x8).f0)).bind fun t53=>((slices_Clone_int_int.f ((rd_T63 x6 x8).f1)).bind fun t55=>(if x3.length<2932031007402 then (ancepslaw41_own.l0 k (x3++[(⟨t53,t55⟩:S63)]) x6 x7 (wrap64 (x8+1))) else (none)))) else (none)) else (none)) else (some x3)
def ancepslaw41_own.f (k:Nat) (l0:List (S63)):Option ((List (S63))):=ancepslaw41_own.l0 k ([]:List (S63)) l0 (l0.length:Int) 0
def ancepslaw41_own.T5:Bool×List (List Nat×List Nat):=(true,[([],[]),([],[]),([1],[1]),([2],[2]),([],[]),([4],[4]),([5,3],[5]),([3,6],[3,6]),([7],[7]),([0,8,6],[0,8]),([9,9,0,1,2,3,4,5,6,7,8,9],[0,9])])
def ancepslaw41_own.B5:List Nat:=[0,0,2,6,0,16,62,126,254,511,1023]
theorem ancepslaw41_own.tab5:rtab .any (opsOf Tryz.f10 5)=ancepslaw41_own.T5:=by kernel_rfl
theorem ancepslaw41_own.bits5:waitsOk ancepslaw41_own.T5.2 ancepslaw41_own.B5=true:=by kernel_rfl
set_option maxHeartbeats 8000000 in
set_option maxRecDepth 100000 in
theorem ancepslaw41_own.calls (k:Nat) (A0:Option Addr) (c0:Nat) (l0:List (S63)) (r:List (S63)) (w:World) (hr0:Kd.C k63 w A0 l0.length l0) (hc0:l0.length≤c0) (h:ancepslaw41_own.f k l0=some r) :
  Calls Tryz.prog 10 #[.slice A0 l0.length c0] w fun e w'=>∃ v0_:Value,e=.returned (v0_)∧Kd.S k63 63 w' w.heap.size (fun _=>True) v0_ r∧Below w.heap.size w w':=by
 have HR0:=zA hr0;have HC0:=zA hc0;clear hr0 hc0;have HB:=zA (Below.refl w.heap.size w);have H:(ancepslaw41_own.l0 k ([]:List (S63)) l0 (l0.length:Int) 0)=some r:=h;clear h;have H':=zA H;clear H
 go_enter Tryz.func10,Tryz.ntmps10
 go_wp2
 go_loopg [3,8] k (fun kq v3 v8 w'=>∃ (x3_1:List (S63)) (x8_1:Int),v8=.int .i64 x8_1∧Aside0 (ancepslaw41_own.l0 kq x3_1 l0 (l0.length:Int) x8_1=some r)∧Aside0 (kq≤k)∧Aside0 (Kd.S k63 63 w' w.heap.size (fun _=>True) v3 x3_1)∧Aside0 (Below w.heap.size w w'))
 case atStart=>exact ⟨(([]:List (S63))),(0),zT,H',⟨Nat.le_refl _⟩,⟨by first|exact Kd.S_nil _ _ _ _ _|exact Kd.N_nil _ _ _ _ _|exact Kd.V_nil _ _ _ _ _|exact Kd.Q_nil _ _ _ _ _|exact Kd.R_nil _ _ _ _ _⟩,⟨zv0 HB⟩⟩
 case round=>
  clear H';obtain ⟨x3_1,x8_1,rfl,HA,HK1,HO_3,HB⟩:=hrel
  cases gk with
  | zero=>exact absurd HA.out (by simp [ancepslaw41_own.l0])
  | succ k1=>
   have H:=HA.out;clear HA;simp only [ancepslaw41_own.l0] at H
   rcases ifd H with ⟨c2b0,H⟩|⟨c2b0,H⟩
   ·obtain ⟨c3b0,H⟩:=ifd1 H;obtain ⟨c4b0,H⟩:=ifd1 H;obtain ⟨t53,A5,H⟩:=zo H;obtain ⟨t55,A6,H⟩:=zo H;obtain ⟨c7,H⟩:=if1 H;have LMc7:=zA c7;clear c7
    first|(replace H:=zyb (x3_1++[(⟨t53,t55⟩:S63)]) H;obtain ⟨y56,Ny56,H⟩:=H)|(obtain ⟨y56,hy56⟩:=zY (x3_1++[(⟨t53,t55⟩:S63)]);(try rw (occs:=.pos [1]) [← hy56] at H);have Ny56:=zA hy56;clear hy56)
    have H':=zA H;clear H;obtain ⟨p27,q27,ad27,A27_0,c27_0,A27_1,c27_1,e27,hx27_0,hx27_1,hl27_0,hi27_0,hl27_1,hi27_1⟩:=zp (at_T63 HR0.out x8_1)
    cases e27
    replace hx27_0:=zd HB hx27_0;replace hx27_1:=zd HB hx27_1;have HR27_0:=zA hi27_0;have HC27_0:=zA hl27_0;clear hi27_0 hl27_0;have HR27_1:=zA hi27_1;have HC27_1:=zA hl27_1;clear hi27_1 hl27_1;replace p27:=eq_true p27;replace q27:=eq_true q27
    try go_wp2_with (first|((with_reducible refine gd 5 rfl ?_);refine zx #[.slice none 0 0,.slice none 0 0] 63 ?_;intro gb28 hg w8 BK28 hb GW28 HB1;have GE28:=GW28;replace HO_3:=zA (Kd.S_below (Kd.S_elderB (zS HO_3) gb28 (Nat.le_of_eq hg.symm)) hb);clear HB hb hg;have HB:=HB1;clear HB1;have hcz9_0:=zc0 BK28;have hcz9_1:=zc1 BK28;have hfz9_0:=zf BK28))
    have n0_:Aside0 (Kd.S k63 63 ((w8.setCell ⟨gb28,0,none⟩ (.slice A27_0 ((rd_T63 l0 x8_1).f0).length c27_0)).setCell ⟨gb28,1,none⟩ (.slice A27_1 ((rd_T63 l0 x8_1).f1).length c27_1)) w.heap.size (fun k_=>k_≠gb28) u3 x3_1):=⟨by (with_reducible repeat (first|apply Kd.S_alloc|apply Kd.S_drewN|apply Kd.S_drew));exact Kd.S_mono (Kd.S_far (p:=⟨gb28,1,none⟩) (Kd.S_far (p:=⟨gb28,0,none⟩) (Kd.S_mono HO_3.out (fun k_ hk=>(⟨hk,hk.2⟩:_∧k_≠gb28))) (fun _ hk=>hk.2) (.slice A27_0 ((rd_T63 l0 x8_1).f0).length c27_0)) (fun _ hk=>hk.2) (.slice A27_1 ((rd_T63 l0 x8_1).f1).length c27_1)) (fun _ hk=>hk.1.2)⟩
    have n1_:Aside0 (((w8.setCell ⟨gb28,0,none⟩ (.slice A27_0 ((rd_T63 l0 x8_1).f0).length c27_0)).setCell ⟨gb28,1,none⟩ (.slice A27_1 ((rd_T63 l0 x8_1).f1).length c27_1)).heap[gb28]?=some (.cells #[.slice A27_0 ((rd_T63 l0 x8_1).f0).length c27_0,.slice A27_1 ((rd_T63 l0 x8_1).f1).length c27_1] 63 (0,0))):=⟨by refine zj ?_;refine blk_put (cs:=#[.slice A27_0 ((rd_T63 l0 x8_1).f0).length c27_0,.slice none 0 0]) ?_ 1 _ rfl;refine zj ?_;refine blk_put (cs:=#[.slice none 0 0,.slice none 0 0]) ?_ 0 _ rfl;refine zj ?_;exact BK28.out⟩
    have n2_:Aside0 (Below w.heap.size w ((w8.setCell ⟨gb28,0,none⟩ (.slice A27_0 ((rd_T63 l0 x8_1).f0).length c27_0)).setCell ⟨gb28,1,none⟩ (.slice A27_1 ((rd_T63 l0 x8_1).f1).length c27_1))):=⟨zv1 HB GE28⟩
    (try clear HO_3);(try clear BK28);(try clear HB)
    generalize ((w8.setCell ⟨gb28,0,none⟩ (.slice A27_0 ((rd_T63 l0 x8_1).f0).length c27_0)).setCell ⟨gb28,1,none⟩ (.slice A27_1 ((rd_T63 l0 x8_1).f1).length c27_1))=w10 at n0_ n1_ n2_ ⊢
    have HO_3:=n0_;have BK28:=n1_;have HB:=n2_;clear n0_ n1_ n2_;replace HO_3:=zA (Kd.S_drew HO_3.out);replace BK28:=zA (blk_drew BK28.out);replace HB:=zA (below_drew1 HB.out);refine start_ (n:=11) (S:=fun w'=>w'.cell? ⟨gb28,0,none⟩=some (.slice A27_0 ((rd_T63 l0 x8_1).f0).length c27_0)∧w'.cell? ⟨gb28,1,none⟩=some (.slice A27_1 ((rd_T63 l0 x8_1).f1).length c27_1)) (ds:=[]) (bz 11 0) zK rfl rfl ⟨zc0 BK28,zc1 BK28⟩ (fun hHeld=>?_);refine with_tabW ancepslaw41_own.tab5 ancepslaw41_own.bits5 (fun HT_ HW_=>?_)
    generalize w10.drew=w11 at HO_3 BK28 HB hHeld ⊢
    refine zP 0 12 (bz 11 1) HT_ ?_;refine zP 1 13 (bz 11 3) HT_ ?_;refine zP 4 16 (bz 11 19) HT_ ?_;refine zQ 2 14 (bz 11 23) HT_ HW_ hHeld ?_;refine zQ 5 17 (bz 11 55) HT_ HW_ hHeld ?_;refine one_ (i:=3) (N:=some 15) (bz 11 63) rfl rfl (one_of HT_.out zK) (by decide) (fun K hK=>?_);refine goes_ Tryz.func38 zK rfl #[.slice A27_0 ((rd_T63 l0 x8_1).f0).length c27_0] (by rfl) rfl rfl zM ?_
    with_reducible refine (slices_Clone_int_int.calls _ _ ((rd_T63 l0 x8_1).f0) t53 _ ?side1 ?side2 A5.out).mono ?_
    (case side1=>exact zC (Kd.C_below HR27_0.out HB.out));(case side2=>exact HC27_0.out);rintro e w12 ⟨v634,rfl,ho0,hb⟩;refine ⟨_,rfl,?_⟩;have HO66:=zA (Kd.R_lower ho0 (below_size zB));replace HO_3:=zA (Kd.S_elder' (zS HO_3) (Kd.R_base ho0) hb);replace BK28:=zw BK28 hb;replace HB:=zu hb;(try clear hb);(try clear hb2);(try clear hk);(try clear hi);(try clear ho0);refine hK.out _ _ ⟨zc0 BK28,zc1 BK28⟩ (fun hHeld=>?_);clear hK K;refine norm_ (a':=?_) ?_ ?_;rotate_left
    ·show Act.put _ (some 15) _=_
     simp only [Act.put,zi,zs,zt,i64_w,i32_w];rfl
    refine one_ (i:=6) (N:=some 18) (bz 11 127) rfl rfl (one_of HT_.out zK) (by decide) (fun K hK=>?_);refine goes_ Tryz.func38 zK rfl #[.slice A27_1 ((rd_T63 l0 x8_1).f1).length c27_1] (by rfl) rfl rfl zM ?_
    with_reducible refine (slices_Clone_int_int.calls _ _ ((rd_T63 l0 x8_1).f1) t55 _ ?side1 ?side2 A6.out).mono ?_
    (case side1=>exact zC (Kd.C_below HR27_1.out HB.out));(case side2=>exact HC27_1.out);rintro e w13 ⟨v637,rfl,ho0,hb⟩;refine ⟨_,rfl,?_⟩;have HO85:=zA (Kd.R_lower (Kd.R_new' ho0 (Kd.R_lt (zR HO66))) (below_size zB));replace HO_3:=zA (Kd.S_elder' (zS HO_3) (Kd.R_base ho0) hb);replace HO66:=zA (Kd.R_elder' (zR HO66) (Kd.R_base ho0) hb);replace BK28:=zw BK28 hb;replace HB:=zu hb;(try clear hb);(try clear hb2);(try clear hk);(try clear hi);(try clear ho0);obtain ⟨Ao14,co14,eo14⟩:=Kd.R_slice HO85.out
    (first|subst eo14|(injection eo14 with f1_ f2_ f3_;have f4_:=f1_.symm;have f5_:=f3_.symm;clear f1_ f2_ f3_;subst f4_;subst f5_))
    obtain ⟨Ao15,co15,eo15⟩:=Kd.R_slice HO66.out
    (first|subst eo15|(injection eo15 with f1_ f2_ f3_;have f4_:=f1_.symm;have f5_:=f3_.symm;clear f1_ f2_ f3_;subst f4_;subst f5_))
    refine hK.out _ _ ⟨zc0 BK28,zc1 BK28⟩ (fun hHeld=>?_);clear hK K;refine norm_ (a':=?_) ?_ ?_;rotate_left
    ·show Act.put _ (some 18) _=_
     simp only [Act.put,zi,zs,zt,i64_w,i32_w];rfl
    refine zP 7 19 (bz 11 255) HT_ ?_;refine one_ (i:=8) (N:=some 20) (bz 11 511) rfl rfl (one_of HT_.out zK) (by decide) (fun K hK=>?_);refine value_ (w1:=?_) (v:=?_) (by rfl) rfl ?_ ?_;rotate_left 2
    ·go_simp
     constructor
     ·rfl
     ·rfl
    refine hK.out _ _ ⟨(blk_cell (blk_alloc BK28.out _) 0).trans rfl,(blk_cell (blk_alloc BK28.out _) 1).trans rfl⟩ (fun hHeld=>?_);clear hK K;refine norm_ (a':=?_) ?_ ?_;rotate_left
    ·show Act.put _ (some 20) _=_
     simp only [Act.put,zi,zs,zt,i64_w,i32_w];rfl
    refine one_ (i:=9) (N:=some 21) (bz 11 1023) rfl rfl (one_of HT_.out zK) (by decide) (fun K hK=>?_);refine Kd.S_append_step k63 (w0:=w) w.heap.size (by rfl) (.tmp 12) (.tmp 20) 22 63 (.agg #[(.slice none 0 0),(.slice none 0 0)]) 48 rfl Tryz.underlying22 info63 rfl (by decide) (by omega) u3 x3_1 (⟨t53,t55⟩:S63) [.slice Ao15 t53.length co15,.slice Ao14 t55.length co14] (fun k_=>k_≠gb28) (fun k_=>some k_=(.slice Ao15 t53.length co15:Value).ownBlock∨some k_=(.slice Ao14 t55.length co14:Value).ownBlock) rfl rfl ?aP (fun k_ hk_=>hk_.elim (fun h_=>((Kd.R_mono (ok':=fun k_=>((fun k_=>k_≠gb28)) k_∧some k_≠(u3:Value).ownBlock) (Kd.R_types (Kd.R_apart' (HO66.out) (Kd.S_typed HO_3.out) (by decide)) BK28.out (by decide)) (fun k_ hk=>⟨hk.2,hk.1.2⟩))).1 k_ h_.symm) (fun h_=>((Kd.R_mono (ok':=fun k_=>((fun k_=>k_≠gb28)) k_∧some k_≠(u3:Value).ownBlock) (Kd.R_types (Kd.R_apart' (HO85.out) (Kd.S_typed HO_3.out) (by decide)) BK28.out (by decide)) (fun k_ hk=>⟨hk.2,hk.1.2⟩))).1 k_ h_.symm)) ?aF ?aO ?aB ?aS ?aL ?_;(case aP=>exact k63_mkM _ _ _ (⟨t53,t55⟩:S63) (Kd.R_mono (Kd.R_tight rfl (Kd.R_mono (ok':=fun k_=>((fun k_=>k_≠gb28)) k_∧some k_≠(u3:Value).ownBlock) (Kd.R_types (Kd.R_apart' (HO66.out) (Kd.S_typed HO_3.out) (by decide)) BK28.out (by decide)) (fun k_ hk=>⟨hk.2,hk.1.2⟩))) (fun _ h_=>Or.inl h_)) (Kd.R_mono (Kd.R_tight rfl (Kd.R_mono (ok':=fun k_=>((fun k_=>k_≠gb28)) k_∧some k_≠(u3:Value).ownBlock) (Kd.R_types (Kd.R_apart' (HO85.out) (Kd.S_typed HO_3.out) (by decide)) BK28.out (by decide)) (fun k_ hk=>⟨hk.2,hk.1.2⟩))) (fun _ h_=>Or.inr (h_))));(case aB=>exact zB);(case aF=>exact (fun k_ hk=>Kd.freshB (g:=gb28) (o:=.cells #[.slice A27_0 ((rd_T63 l0 x8_1).f0).length c27_0,.slice A27_1 ((rd_T63 l0 x8_1).f1).length c27_1] 63 (0,0)) (zk BK28) k_ hk));(case aO=>exact (by (with_reducible repeat (first|apply Kd.S_alloc|apply Kd.S_drewN|apply Kd.S_drew));exact Kd.S_mono HO_3.out (fun k_ hk=>⟨hk.1.1,fun e_=>e_.elim (fun h_=>hk.1.2 h_) (fun h_=>hk.2 h_)⟩)));(case aS=>exact (below_size zB));(case aL=>have:=LMc7.out;omega);intro v640 w16 ho hb hg hat;rw [← Ny56.out] at ho;have HO96:=zA (ho);replace BK28:=zA (blk_grown (g:=gb28) (o:=.cells #[.slice A27_0 ((rd_T63 l0 x8_1).f0).length c27_0,.slice A27_1 ((rd_T63 l0 x8_1).f1).length c27_1] 63 (0,0)) (zk BK28) hg (Kd.S_away HO_3.out (fun _ hk=>hk.1.1)));replace HB:=zA (hb);clear HO_3 HO66 HO85;clear ho hb hg hat;refine hK.out _ _ ⟨zc0 BK28,zc1 BK28⟩ (fun hHeld=>?_);clear hK K;refine norm_ (a':=?_) ?_ ?_;rotate_left
    ·show Act.put _ (some 21) _=_
     simp only [Act.put,zi,zs,zt,i64_w,i32_w];rfl
    refine zP 10 3 (bz 11 2047) HT_ ?_;refine done_ (done_of HT_.out zK) ?_
    try go_wp2
    go_roundg k1
    case measure=>have:=HK1.out;omega
    case rel=>exact ⟨(y56),(wrap64 (x8_1+1)),zT,H',⟨by have:=HK1.out;omega⟩,⟨by (with_reducible repeat (first|apply Kd.S_alloc|apply Kd.S_drewN|apply Kd.S_drew));exact Kd.S_mono HO96.out (fun _ hk=>trivial)⟩,⟨zv1 HB GE28⟩⟩
   ·obtain rfl:=Option.some.inj H
    go_wp2
    go_ret
    exact ⟨_,ze,by (with_reducible repeat (first|apply Kd.S_alloc|apply Kd.S_drewN|apply Kd.S_drew));exact HO_3.out,zv0 HB⟩
def ancepsref41_given.f (k:Nat) (l0:List (S63)):Option (Int):=(ancepsref40_Valid.f k l0).bind fun t67=>(if t67=0 then (if (l0.length:Int)>15 then (some 3) else (some 0)) else (some t67))
set_option maxHeartbeats 8000000 in
set_option maxRecDepth 100000 in
theorem ancepsref41_given.calls (k:Nat) (A0:Option Addr) (c0:Nat) (l0:List (S63)) (r:Int) (w:World) (hr0:Kd.C k63 w A0 l0.length l0) (hc0:l0.length≤c0) (h:ancepsref41_given.f k l0=some r) :
  Calls Tryz.prog 39 #[.slice A0 l0.length c0] w fun e w'=>e=.returned (.int .i64 r)∧Below w.heap.size w w':=by
 have HR0:=zA hr0;have HC0:=zA hc0;clear hr0 hc0;have HB:=zA (Below.refl w.heap.size w);have H:((ancepsref40_Valid.f k l0).bind fun t67=>(if t67=0 then (if (l0.length:Int)>15 then (some 3) else (some 0)) else (some t67)))=some r:=h;clear h;obtain ⟨t67,A2,H⟩:=zo H;have HC3:=zA H;clear H
 go_enter Tryz.func39,Tryz.ntmps39
 go_upto_if 7 with (first|((with_reducible refine gate_callee (f:=33) rfl ?_);refine zgo 5 Tryz.func33 #[.slice A0 l0.length c0] ?_;(with_reducible refine (ancepsref40_Valid.calls k _ _ l0 t67 _ ?side1 HC0.out A2.out).mono ?_);(case side1=>repeat (first|exact HR0.out|(with_reducible refine Kd.C_alloc ?_ _)|(with_reducible refine Kd.C_drewN ?_ _)|(with_reducible refine Kd.C_drew ?_)));rintro e w4 ⟨rfl,hb⟩;refine ⟨_,rfl,?_⟩;replace HB:=zu hb;clear hb))
 (try simp only [Act.put,zi,zs,zt]);have H:=HC3.out;clear HC3
 rcases ife H with ⟨c5b0,c5b1,H⟩|⟨c5,c5b0,c5b1,H⟩
 ·(first|rw [c5b0]|(simp only [i64_w,i32_w];rw [c5b0])|skip)
  (try rw [c5b1])
  rcases if0 H with ⟨c6,H⟩|⟨c6,H⟩
  ·have c6b0:decide (15<(l0.length:Int))=true:=decide_eq_true c6;have c6b1:decide (15<l0.length)=true:=decide_eq_true (by omega);clear c6;obtain rfl:=Option.some.inj H
   go_wp2
   go_ret
   exact ⟨ze,zv0 HB⟩
  ·have c6b0:decide (15<(l0.length:Int))=false:=decide_eq_false c6;have c6b1:decide (15<l0.length)=false:=decide_eq_false (by omega);clear c6;obtain rfl:=Option.some.inj H
   go_wp2
   go_ret
   exact ⟨ze,zv0 HB⟩
 ·(first|rw [c5b0]|(simp only [i64_w,i32_w];rw [c5b0])|skip)
  (try rw [c5b1]);obtain rfl:=Option.some.inj H
  go_wp2
  go_ret
  exact ⟨ze,zv0 HB⟩
def ancepsref38_Assignment.l0:Nat→List Int→Int→Int→Int→Option (Int)
 | 0,_,_,_,_=>none
 | k+1,x0,x1,x5,x6=>if x6<(x0.length:Int) then (if 0≤x6 then (if 0≤(rd x0 x6) then (ancepsref38_Assignment.l0 k x0 x1 (wrap64 (x5+(shl .i64 (Int.tmod (shr .i64 x1 x6) 2) (rd x0 x6)))) (wrap64 (x6+1))) else (none)) else (none)) else (some x5)
def ancepsref38_Assignment.f (k:Nat) (l0:List Int) (a1:Int):Option (Int):=ancepsref38_Assignment.l0 k l0 a1 0 0
set_option maxHeartbeats 8000000 in
set_option maxRecDepth 100000 in
theorem ancepsref38_Assignment.calls (k:Nat) (A0:Option Addr) (c0:Nat) (l0:List Int) (a1:Int) (r:Int) (w:World) (hr0:Kd.C (Kd.int .i64) w A0 l0.length l0) (hc0:l0.length≤c0) (h:ancepsref38_Assignment.f k l0 a1=some r) :
  Calls Tryz.prog 89 #[.slice A0 l0.length c0,.int .i64 a1] w fun e w'=>e=.returned (.int .i64 r)∧Drawn0 w w':=by
 have HR0:=zA hr0;have HC0:=zA hc0;clear hr0 hc0;have H:(ancepsref38_Assignment.l0 k l0 a1 0 0)=some r:=h;clear h;have H':=zA H;clear H
 go_enter Tryz.func89,Tryz.ntmps89
 go_wp2
 repeat (go_quiet (fail);try go_wp2)
 go_loopg [5,6] k (fun kq v5 v6 w'=>∃ (x5_1:Int) (x6_1:Int),v5=.int .i64 x5_1∧v6=.int .i64 x6_1∧Aside0 (ancepsref38_Assignment.l0 kq l0 a1 x5_1 x6_1=some r)∧Aside0 (kq≤k)∧Drawn0 w w')
 case atStart=>exact ⟨(0),(0),zT,zT,H',⟨Nat.le_refl _⟩,by repeat (first|exact Drawn0.refl _|apply Drawn0.step)⟩
 case round=>
  clear H';obtain ⟨x5_1,x6_1,rfl,rfl,HA,HK1,⟨m1,rfl⟩⟩:=hrel
  cases gk with
  | zero=>exact absurd HA.out (by simp [ancepsref38_Assignment.l0])
  | succ k1=>
   have H:=HA.out;clear HA;simp only [ancepsref38_Assignment.l0] at H
   rcases ifd H with ⟨c3b0,H⟩|⟨c3b0,H⟩
   ·obtain ⟨c4,H⟩:=if1 H;have c4b0:=eq_true c4;have c4b1:decide (0≤x6_1)=true:=decide_eq_true c4;clear c4;obtain ⟨ji5,hji5⟩:=zZ (shr .i64 a1 x6_1)
    first|rw [hji5] at H|simp only [hji5] at H
    have hji5_:(a1 / 2 ^ min x6_1.toNat 64)=ji5:=hji5;have hji5z:x6_1≤64→(a1 / 2 ^ x6_1.toNat)=ji5:=shr_small hji5;obtain ⟨c6,H⟩:=if1 H;have c6b0:=eq_true c6;have c6b1:decide (0≤(rd l0 x6_1))=true:=decide_eq_true c6;clear c6;obtain ⟨ji7,hji7⟩:=zZ (shl .i64 (Int.tmod (ji5) 2) (rd l0 x6_1))
    first|rw [hji7] at H|simp only [hji7] at H
    have hji7_:(IntKind.i64.wrap ((Int.tmod (ji5) 2) * 2 ^ min (rd l0 x6_1).toNat 64))=ji7:=hji7;have hji7z:(rd l0 x6_1)≤64→(IntKind.i64.wrap ((Int.tmod (ji5) 2) * 2 ^ (rd l0 x6_1).toNat))=ji7:=shl_small hji7;have hji7y:(wrap64 ((Int.tmod (ji5) 2) * 2 ^ min (rd l0 x6_1).toNat 64))=ji7:=(i64_w _).symm.trans hji7_
    have hji7x:(rd l0 x6_1)≤64→(wrap64 ((Int.tmod (ji5) 2) * 2 ^ (rd l0 x6_1).toNat))=ji7:=fun h_=>(i64_w _).symm.trans (hji7z h_)
    have H':=zA H;clear H;obtain ⟨p57,q57,ad57,e57,hx57_0⟩:=zp (Kd.at_int HR0.out x6_1)
    cases e57
    replace p57:=eq_true p57;replace q57:=eq_true q57
    go_wp2
    repeat (go_quiet (fail);try go_wp2)
    go_roundg k1
    case measure=>have:=HK1.out;omega
    case rel=>exact ⟨(wrap64 (x5_1+(ji7))),(wrap64 (x6_1+1)),(by first|rfl|(simp;done)|(simp only [← hji7] <;> (first|rfl|simp))|(simp [*];done)),zT,H',⟨by have:=HK1.out;omega⟩,by repeat (first|exact Drawn0.refl _|apply Drawn0.step)⟩
   ·obtain rfl:=Option.some.inj H
    go_wp2
    repeat (go_quiet (fail);try go_wp2)
    go_ret
    exact ⟨by first|rfl|(simp;done)|(simp [*];done),by repeat (first|exact Drawn0.refl _|apply Drawn0.step)⟩
def ancepsref38_in.l0:Nat→List Int→Int→Int→Option (Bool)
 | 0,_,_,_=>none
 | k+1,x0,x1,x5=>if x5<(x0.length:Int) then (if 0≤x5 then (if (rd x0 x5)=x1 then (some true) else (ancepsref38_in.l0 k x0 x1 (wrap64 (x5+1)))) else (none)) else (some false)
def ancepsref38_in.f (k:Nat) (l0:List Int) (a1:Int):Option (Bool):=ancepsref38_in.l0 k l0 a1 0
set_option maxHeartbeats 8000000 in
set_option maxRecDepth 100000 in
theorem ancepsref38_in.calls (k:Nat) (A0:Option Addr) (c0:Nat) (l0:List Int) (a1:Int) (r:Bool) (w:World) (hr0:Kd.C (Kd.int .i64) w A0 l0.length l0) (hc0:l0.length≤c0) (h:ancepsref38_in.f k l0 a1=some r) :
  Calls Tryz.prog 88 #[.slice A0 l0.length c0,.int .i64 a1] w fun e w'=>e=.returned (.bool r)∧Drawn0 w w':=by
 have HR0:=zA hr0;have HC0:=zA hc0;clear hr0 hc0;have H:(ancepsref38_in.l0 k l0 a1 0)=some r:=h;clear h;have H':=zA H;clear H
 go_enter Tryz.func88,Tryz.ntmps88
 go_wp2
 go_loopg [5] k (fun kq v5 w'=>∃ (x5_1:Int),v5=.int .i64 x5_1∧Aside0 (ancepsref38_in.l0 kq l0 a1 x5_1=some r)∧Aside0 (kq≤k)∧Drawn0 w w')
 case atStart=>exact ⟨(0),zT,H',⟨Nat.le_refl _⟩,by repeat (first|exact Drawn0.refl _|apply Drawn0.step)⟩
 case round=>
  clear H';obtain ⟨x5_1,rfl,HA,HK1,⟨m1,rfl⟩⟩:=hrel
  cases gk with
  | zero=>exact absurd HA.out (by simp [ancepsref38_in.l0])
  | succ k1=>
   have H:=HA.out;clear HA;simp only [ancepsref38_in.l0] at H
   rcases ifd H with ⟨c3b0,H⟩|⟨c3b0,H⟩
   ·obtain ⟨c4b0,H⟩:=ifd1 H
    rcases ife H with ⟨c5b0,c5b1,H⟩|⟨c5,c5b0,c5b1,H⟩
    ·obtain rfl:=Option.some.inj H;obtain ⟨p35,q35,ad35,e35,hx35_0⟩:=zp (Kd.at_int HR0.out x5_1)
     cases e35
     replace p35:=eq_true p35;replace q35:=eq_true q35
     go_wp2
     go_ret
     exact ⟨by first|rfl|(simp;done)|(simp [*];done),by repeat (first|exact Drawn0.refl _|apply Drawn0.step)⟩
    ·have H':=zA H;clear H;obtain ⟨p35,q35,ad35,e35,hx35_0⟩:=zp (Kd.at_int HR0.out x5_1)
     cases e35
     replace p35:=eq_true p35;replace q35:=eq_true q35
     go_wp2
     go_roundg k1
     case measure=>have:=HK1.out;omega
     case rel=>exact ⟨(wrap64 (x5_1+1)),zT,H',⟨by have:=HK1.out;omega⟩,by repeat (first|exact Drawn0.refl _|apply Drawn0.step)⟩
   ·obtain rfl:=Option.some.inj H
    go_wp2
    go_ret
    exact ⟨by first|rfl|(simp;done)|(simp [*];done),by repeat (first|exact Drawn0.refl _|apply Drawn0.step)⟩
def ancepsref38_Row.l0:Nat→List Int→Int→Int→Int→Option (Int)
 | 0,_,_,_,_=>none
 | k+1,x0,x1,x5,x6=>if x6<(x0.length:Int) then (if 0≤x6 then (if 0≤(rd x0 x6) then (ancepsref38_Row.l0 k x0 x1 (wrap64 (x5+(shl .i64 (Int.tmod (shr .i64 x1 (rd x0 x6)) 2) x6))) (wrap64 (x6+1))) else (none)) else (none)) else (some x5)
def ancepsref38_Row.f (k:Nat) (l0:List Int) (a1:Int):Option (Int):=ancepsref38_Row.l0 k l0 a1 0 0
set_option maxHeartbeats 8000000 in
set_option maxRecDepth 100000 in
theorem ancepsref38_Row.calls (k:Nat) (A0:Option Addr) (c0:Nat) (l0:List Int) (a1:Int) (r:Int) (w:World) (hr0:Kd.C (Kd.int .i64) w A0 l0.length l0) (hc0:l0.length≤c0) (h:ancepsref38_Row.f k l0 a1=some r) :
  Calls Tryz.prog 116 #[.slice A0 l0.length c0,.int .i64 a1] w fun e w'=>e=.returned (.int .i64 r)∧Drawn0 w w':=by
 have HR0:=zA hr0;have HC0:=zA hc0;clear hr0 hc0;have H:(ancepsref38_Row.l0 k l0 a1 0 0)=some r:=h;clear h;have H':=zA H;clear H
 go_enter Tryz.func116,Tryz.ntmps116
 go_wp2
 go_loopg [5,6] k (fun kq v5 v6 w'=>∃ (x5_1:Int) (x6_1:Int),v5=.int .i64 x5_1∧v6=.int .i64 x6_1∧Aside0 (ancepsref38_Row.l0 kq l0 a1 x5_1 x6_1=some r)∧Aside0 (kq≤k)∧Drawn0 w w')
 case atStart=>exact ⟨(0),(0),zT,zT,H',⟨Nat.le_refl _⟩,by repeat (first|exact Drawn0.refl _|apply Drawn0.step)⟩
 case round=>
  clear H';obtain ⟨x5_1,x6_1,rfl,rfl,HA,HK1,⟨m1,rfl⟩⟩:=hrel
  cases gk with
  | zero=>exact absurd HA.out (by simp [ancepsref38_Row.l0])
  | succ k1=>
   have H:=HA.out;clear HA;simp only [ancepsref38_Row.l0] at H
   rcases ifd H with ⟨c3b0,H⟩|⟨c3b0,H⟩
   ·obtain ⟨c4b0,H⟩:=ifd1 H;obtain ⟨c5,H⟩:=if1 H;have c5b0:=eq_true c5;have c5b1:decide (0≤(rd l0 x6_1))=true:=decide_eq_true c5;clear c5;obtain ⟨ji6,hji6⟩:=zZ (shr .i64 a1 (rd l0 x6_1))
    first|rw [hji6] at H|simp only [hji6] at H
    have hji6_:(a1 / 2 ^ min (rd l0 x6_1).toNat 64)=ji6:=hji6;have hji6z:(rd l0 x6_1)≤64→(a1 / 2 ^ (rd l0 x6_1).toNat)=ji6:=shr_small hji6;have c7b0:=eq_true (of_decide_eq_true zh:0≤x6_1);obtain ⟨ji8,hji8⟩:=zZ (shl .i64 (Int.tmod (ji6) 2) x6_1)
    first|rw [hji8] at H|simp only [hji8] at H
    have hji8_:(IntKind.i64.wrap ((Int.tmod (ji6) 2) * 2 ^ min x6_1.toNat 64))=ji8:=hji8;have hji8z:x6_1≤64→(IntKind.i64.wrap ((Int.tmod (ji6) 2) * 2 ^ x6_1.toNat))=ji8:=shl_small hji8;have hji8y:(wrap64 ((Int.tmod (ji6) 2) * 2 ^ min x6_1.toNat 64))=ji8:=(i64_w _).symm.trans hji8_
    have hji8x:x6_1≤64→(wrap64 ((Int.tmod (ji6) 2) * 2 ^ x6_1.toNat))=ji8:=fun h_=>(i64_w _).symm.trans (hji8z h_)
    have H':=zA H;clear H;obtain ⟨p58,q58,ad58,e58,hx58_0⟩:=zp (Kd.at_int HR0.out x6_1)
    cases e58
    replace p58:=eq_true p58;replace q58:=eq_true q58
    go_wp2
    go_roundg k1
    case measure=>have:=HK1.out;omega
    case rel=>exact ⟨(wrap64 (x5_1+(ji8))),(wrap64 (x6_1+1)),(by first|rfl|(simp;done)|(simp only [← hji8] <;> (first|rfl|simp))|(simp [*];done)),zT,H',⟨by have:=HK1.out;omega⟩,by repeat (first|exact Drawn0.refl _|apply Drawn0.step)⟩
   ·obtain rfl:=Option.some.inj H
    go_wp2
    go_ret
    exact ⟨by first|rfl|(simp;done)|(simp [*];done),by repeat (first|exact Drawn0.refl _|apply Drawn0.step)⟩
def ancepsref38_Holds.f (k:Nat) (l0_0:List Int) (l0_1:List Int) (a1:Int):Option (Bool):=(ancepsref38_Row.f k l0_0 a1).bind fun t51=>((ancepsref38_in.f k l0_1 t51).bind fun t68=>(some t68))
set_option maxHeartbeats 8000000 in
set_option maxRecDepth 100000 in
theorem ancepsref38_Holds.calls (k:Nat) (A0_0:Option Addr) (c0_0:Nat) (l0_0:List Int) (A0_1:Option Addr) (c0_1:Nat) (l0_1:List Int) (a1:Int) (r:Bool) (w:World) (hr0_0:Kd.C (Kd.int .i64) w A0_0 l0_0.length l0_0) (hc0_0:l0_0.length≤c0_0) (hr0_1:Kd.C (Kd.int .i64) w A0_1 l0_1.length l0_1) (hc0_1:l0_1.length≤c0_1) (h:ancepsref38_Holds.f k l0_0 l0_1 a1=some r) :
  Calls Tryz.prog 93 #[.agg #[.slice A0_0 l0_0.length c0_0,.slice A0_1 l0_1.length c0_1],.int .i64 a1] w fun e w'=>e=.returned (.bool r)∧Below w.heap.size w w':=by
 have HR0_0:=zA hr0_0;have HC0_0:=zA hc0_0;clear hr0_0 hc0_0;have HR0_1:=zA hr0_1;have HC0_1:=zA hc0_1;clear hr0_1 hc0_1;have HB:=zA (Below.refl w.heap.size w);have H:((ancepsref38_Row.f k l0_0 a1).bind fun t51=>((ancepsref38_in.f k l0_1 t51).bind fun t68=>(some t68)))=some r:=h;clear h;obtain ⟨t51,A3,H⟩:=zo H;obtain ⟨t68,A4,H⟩:=zo H;obtain rfl:=Option.some.inj H
 go_enter Tryz.func93,Tryz.ntmps93
 go_wp2_with (first|((with_reducible refine gd 2 rfl ?_);refine zx #[.slice A0_0 l0_0.length c0_0,.slice A0_1 l0_1.length c0_1] 63 ?_;intro gb31 hg w5 BK31 hb GW31 HB1;have GE31:=GW31;clear HB hb hg;have HB:=HB1;clear HB1;have hcz6_0:=zc0 BK31;have hcz6_1:=zc1 BK31;have hfz6_0:=zf BK31)|(go_at_call 116;(with_reducible refine (ancepsref38_Row.calls k _ _ l0_0 a1 t51 _ (zD HR0_0 HB) HC0_0.out A3.out).mono ?_);rintro e w' ⟨rfl,⟨nd,rfl⟩⟩;(try first|exact ⟨rfl,_,World.drewN_drewN _ _ _⟩|exact ⟨rfl,_,Eq.trans (World.drewN_drewN _ _ _) (congrArg (World.drewN _) (Nat.add_assoc _ _ _))⟩))|(go_at_call 88;(with_reducible refine (ancepsref38_in.calls k _ _ l0_1 t51 t68 _ ?side1 HC0_1.out A4.out).mono ?_);(case side1=>repeat (first|exact (Kd.C_below HR0_1.out zB)|(with_reducible refine Kd.C_alloc ?_ _)|(with_reducible refine Kd.C_drewN ?_ _)|(with_reducible refine Kd.C_drew ?_)));rintro e w' ⟨rfl,⟨nd,rfl⟩⟩;(try first|exact ⟨rfl,_,World.drewN_drewN _ _ _⟩|exact ⟨rfl,_,Eq.trans (World.drewN_drewN _ _ _) (congrArg (World.drewN _) (Nat.add_assoc _ _ _))⟩)))
 repeat (go_quiet (first|((with_reducible refine gd 2 rfl ?_);refine zx #[.slice A0_0 l0_0.length c0_0,.slice A0_1 l0_1.length c0_1] 63 ?_;intro gb31 hg w5 BK31 hb GW31 HB1;have GE31:=GW31;clear HB hb hg;have HB:=HB1;clear HB1;have hcz6_0:=zc0 BK31;have hcz6_1:=zc1 BK31;have hfz6_0:=zf BK31)|(go_at_call 116;(with_reducible refine (ancepsref38_Row.calls k _ _ l0_0 a1 t51 _ (zD HR0_0 HB) HC0_0.out A3.out).mono ?_);rintro e w' ⟨rfl,⟨nd,rfl⟩⟩;(try first|exact ⟨rfl,_,World.drewN_drewN _ _ _⟩|exact ⟨rfl,_,Eq.trans (World.drewN_drewN _ _ _) (congrArg (World.drewN _) (Nat.add_assoc _ _ _))⟩))|(go_at_call 88;(with_reducible refine (ancepsref38_in.calls k _ _ l0_1 t51 t68 _ ?side1 HC0_1.out A4.out).mono ?_);(case side1=>repeat (first|exact (Kd.C_below HR0_1.out zB)|(with_reducible refine Kd.C_alloc ?_ _)|(with_reducible refine Kd.C_drewN ?_ _)|(with_reducible refine Kd.C_drew ?_)));rintro e w' ⟨rfl,⟨nd,rfl⟩⟩;(try first|exact ⟨rfl,_,World.drewN_drewN _ _ _⟩|exact ⟨rfl,_,Eq.trans (World.drewN_drewN _ _ _) (congrArg (World.drewN _) (Nat.add_assoc _ _ _))⟩)));try go_wp2_with (first|((with_reducible refine gd 2 rfl ?_);refine zx #[.slice A0_0 l0_0.length c0_0,.slice A0_1 l0_1.length c0_1] 63 ?_;intro gb31 hg w5 BK31 hb GW31 HB1;have GE31:=GW31;clear HB hb hg;have HB:=HB1;clear HB1;have hcz6_0:=zc0 BK31;have hcz6_1:=zc1 BK31;have hfz6_0:=zf BK31)|(go_at_call 116;(with_reducible refine (ancepsref38_Row.calls k _ _ l0_0 a1 t51 _ (zD HR0_0 HB) HC0_0.out A3.out).mono ?_);rintro e w' ⟨rfl,⟨nd,rfl⟩⟩;(try first|exact ⟨rfl,_,World.drewN_drewN _ _ _⟩|exact ⟨rfl,_,Eq.trans (World.drewN_drewN _ _ _) (congrArg (World.drewN _) (Nat.add_assoc _ _ _))⟩))|(go_at_call 88;(with_reducible refine (ancepsref38_in.calls k _ _ l0_1 t51 t68 _ ?side1 HC0_1.out A4.out).mono ?_);(case side1=>repeat (first|exact (Kd.C_below HR0_1.out zB)|(with_reducible refine Kd.C_alloc ?_ _)|(with_reducible refine Kd.C_drewN ?_ _)|(with_reducible refine Kd.C_drew ?_)));rintro e w' ⟨rfl,⟨nd,rfl⟩⟩;(try first|exact ⟨rfl,_,World.drewN_drewN _ _ _⟩|exact ⟨rfl,_,Eq.trans (World.drewN_drewN _ _ _) (congrArg (World.drewN _) (Nat.add_assoc _ _ _))⟩))))
 go_ret
 exact ⟨ze,zv1 HB GE31⟩
mutual
def ancepsref40_solutions.l0:Nat→List (S63)→Int→List Int→List Int→Int→Option (List Int)
 | 0,_,_,_,_,_=>none
 | k+1,x0,x1,x5,x6,x7=>if x7<(shl .i64 1 (x5.length:Int)) then (if (x6.length:Int)<x1 then ((ancepsref38_Assignment.f k x5 x7).bind fun t48=>(ancepsref40_solutions.l1 k x0 x1 x5 x6 x7 t48 true 0)) else (some x6)) else (some x6)
def ancepsref40_solutions.l1:Nat→List (S63)→Int→List Int→List Int→Int→Int→Bool→Int→Option (List Int)
 | 0,_,_,_,_,_,_,_,_=>none
 | k+1,x0,x1,x5,x6,x7,x8,x9,x10=>if x10<(x0.length:Int) then (if x9=true then (if 0≤x10 then ((ancepsref38_Holds.f k ((rd_T63 x0 x10).f0) ((rd_T63 x0 x10).f1) x8).bind fun t79=>(ancepsref40_solutions.l1 k x0 x1 x5 x6 x7 x8 t79 (wrap64 (x10+1)))) else (none)) else (ancepsref40_solutions.l0 k x0 x1 x5 x6 (wrap64 (x7+1)))) else (if x9=true then (if x6.length<17592186044416 then (ancepsref40_solutions.l0 k x0 x1 x5 (x6++[x8]) (wrap64 (x7+1))) else (none)) else (ancepsref40_solutions.l0 k x0 x1 x5 x6 (wrap64 (x7+1))))
end
def ancepsref40_solutions.f (k:Nat) (l0:List (S63)) (a1:Int):Option (List Int):=(ancepsref40_Vars.f k l0).bind fun t30=>(ancepsref40_solutions.l0 k l0 a1 t30 ([]:List Int) 0)
set_option maxHeartbeats 8000000 in
set_option maxRecDepth 100000 in
theorem ancepsref40_solutions.calls (k:Nat) (A0:Option Addr) (c0:Nat) (l0:List (S63)) (a1:Int) (r:List Int) (w:World) (hr0:Kd.C k63 w A0 l0.length l0) (hc0:l0.length≤c0) (h:ancepsref40_solutions.f k l0 a1=some r) :
  Calls Tryz.prog 54 #[.slice A0 l0.length c0,.int .i64 a1] w fun e w'=>∃ v0_:Value,e=.returned (v0_)∧Kd.R (Kd.int .i64) 3 w' w.heap.size (fun _=>True) v0_ r∧Below w.heap.size w w':=by
 have HR0:=zA hr0;have HC0:=zA hc0;clear hr0 hc0;have HB:=zA (Below.refl w.heap.size w);have H:((ancepsref40_Vars.f k l0).bind fun t30=>(ancepsref40_solutions.l0 k l0 a1 t30 ([]:List Int) 0))=some r:=h;clear h;obtain ⟨t30,A3,H⟩:=zo H;have H':=zA H;clear H
 go_enter Tryz.func54,Tryz.ntmps54
 go_wp2_with (first|((with_reducible refine gate_callee (f:=34) rfl ?_);refine zgo 12 Tryz.func34 #[.slice A0 l0.length c0] ?_;(with_reducible refine (ancepsref40_Vars.calls k _ _ l0 t30 _ ?side1 HC0.out A3.out).mono ?_);(case side1=>repeat (first|exact HR0.out|(with_reducible refine Kd.C_alloc ?_ _)|(with_reducible refine Kd.C_drewN ?_ _)|(with_reducible refine Kd.C_drew ?_)));rintro e w4 ⟨v90,rfl,ho0,hb⟩;refine ⟨_,rfl,?_⟩;have HO97:=zA (Kd.R_lower ho0 (below_size zB));replace HB:=zu hb;clear hb;(try clear ho0)))
 go_loopg [6,7] k (fun kq v6 v7 w'=>∃ (x6_1:List Int) (x7_1:Int),v7=.int .i64 x7_1∧Aside0 (ancepsref40_solutions.l0 kq l0 a1 t30 x6_1 x7_1=some r)∧Aside0 (kq≤k)∧Aside0 (Kd.R (Kd.int .i64) 3 w' w.heap.size (fun k_=>some k_≠(v6:Value).ownBlock) v90 t30)∧Aside0 (Kd.R (Kd.int .i64) 3 w' w.heap.size (fun k_=>some k_≠(v90:Value).ownBlock) v6 x6_1)∧Aside0 (Below w.heap.size w w'))
 case atStart=>exact ⟨(([]:List Int)),(0),zT,H',⟨Nat.le_refl _⟩,⟨by refine zr ?_;exact Kd.R_mono HO97.out (fun _ hk=>(by simp [Value.ownBlock]))⟩,⟨by first|exact Kd.R_nil _ _ _ _ _|exact Kd.N_nil _ _ _ _ _|exact Kd.V_nil _ _ _ _ _|exact Kd.Q_nil _ _ _ _ _|exact Kd.S_nil _ _ _ _ _⟩,⟨zv0 HB⟩⟩
 case round=>
  clear H';obtain ⟨x6_1,x7_1,rfl,HA,HK1,HO_5,HO_6,HB⟩:=hrel
  cases gk with
  | zero=>exact absurd HA.out (by simp [ancepsref40_solutions.l0])
  | succ k1=>
   have H:=HA.out;clear HA;simp only [ancepsref40_solutions.l0] at H;obtain ⟨ji5,hji5⟩:=zZ (shl .i64 1 (t30.length:Int))
   first|rw [hji5] at H|simp only [hji5] at H
   have hji5_:(IntKind.i64.wrap (1 * 2 ^ min (t30.length:Int).toNat 64))=ji5:=hji5;have hji5z:(t30.length:Int)≤64→(IntKind.i64.wrap (1 * 2 ^ (t30.length:Int).toNat))=ji5:=shl_small hji5;have hji5p:(IntKind.i64.wrap (1 * 2 ^ min t30.length 64))=ji5:=hji5_;have hji5q:(t30.length:Int)≤64→(IntKind.i64.wrap (1 * 2 ^ t30.length))=ji5:=hji5z
   have hji5r:(IntKind.i64.wrap (2 ^ min t30.length 64))=ji5:=by have h_:=hji5p;rw [Int.one_mul] at h_;exact h_
   have hji5s:(t30.length:Int)≤64→(IntKind.i64.wrap (2 ^ t30.length))=ji5:=fun hle_=>by have h_:=hji5q hle_;rw [Int.one_mul] at h_;exact h_
   have hji5u:(IntKind.i64.wrap (2 ^ min (t30.length:Int).toNat 64))=ji5:=by have h_:=hji5_;rw [Int.one_mul] at h_;exact h_
   have hji5v:(t30.length:Int)≤64→(IntKind.i64.wrap (2 ^ (t30.length:Int).toNat))=ji5:=fun hle_=>by have h_:=hji5z hle_;rw [Int.one_mul] at h_;exact h_
   have hji5y:(wrap64 (1 * 2 ^ min (t30.length:Int).toNat 64))=ji5:=(i64_w _).symm.trans hji5_
   have hji5x:(t30.length:Int)≤64→(wrap64 (1 * 2 ^ (t30.length:Int).toNat))=ji5:=fun h_=>(i64_w _).symm.trans (hji5z h_)
   rcases ifd H with ⟨c6b0,H⟩|⟨c6b0,H⟩
   ·rcases ifd H with ⟨c7b0,H⟩|⟨c7b0,H⟩
    ·obtain ⟨t48,A8,H⟩:=zo H;have H':=zA H;clear H;obtain ⟨Ao9,co9,eo9⟩:=Kd.R_slice HO_5.out;subst eo9;obtain ⟨Ao10,co10,eo10⟩:=Kd.R_slice HO_6.out;subst eo10
     go_wp2_with (first|((with_reducible refine gate_callee (f:=89) rfl ?_);refine zgo 28 Tryz.func89 #[.slice Ao9 t30.length co9,.int .i64 x7_1] ?_;(with_reducible refine (ancepsref38_Assignment.calls k1 _ _ t30 x7_1 t48 _ ?side1 ?side2 A8.out).mono ?_);(case side1=>exact zC (Kd.R_reads' HO_5.out).2.2);(case side2=>exact (Kd.R_reads' HO_5.out).2.1);rintro e w' ⟨rfl,⟨nd,rfl⟩⟩;refine ⟨_,rfl,?_⟩))
     go_loopg [9,10] k1 (fun kq v9 v10 w'=>∃ (x9_2:Bool) (x10_2:Int),v9=.bool x9_2∧v10=.int .i64 x10_2∧Aside0 (ancepsref40_solutions.l1 kq l0 a1 t30 x6_1 x7_1 t48 x9_2 x10_2=some r)∧Aside0 (kq≤k1)∧Aside0 (Kd.R (Kd.int .i64) 3 w' w.heap.size (fun k_=>some k_≠((.slice Ao10 x6_1.length co10):Value).ownBlock) (.slice Ao9 t30.length co9) t30)∧Aside0 (Kd.R (Kd.int .i64) 3 w' w.heap.size (fun k_=>some k_≠((.slice Ao9 t30.length co9):Value).ownBlock) (.slice Ao10 x6_1.length co10) x6_1)∧Aside0 (Below w.heap.size w w'))
     case atStart=>exact ⟨(true),(0),zT,zT,H',⟨Nat.le_refl _⟩,⟨by refine zr ?_;exact HO_5.out⟩,⟨by refine zr ?_;exact HO_6.out⟩,⟨zv0 HB⟩⟩
     case round=>
      clear H'
      try clear c6
      try clear c6b0
      try clear c7
      try clear c7b0
      obtain ⟨x9_2,x10_2,rfl,rfl,HA,HK2,HO_5,HO_6,HB⟩:=hrel
      cases gk with
      | zero=>exact absurd HA.out (by simp [ancepsref40_solutions.l1])
      | succ k2=>
       have H:=HA.out;clear HA;simp only [ancepsref40_solutions.l1] at H
       rcases ifd H with ⟨c11b0,H⟩|⟨c11b0,H⟩
       ·by_cases c12:x9_2=true
        ·subst c12
         have H1:(if 0≤x10_2 then ((ancepsref38_Holds.f k2 ((rd_T63 l0 x10_2).f0) ((rd_T63 l0 x10_2).f1) t48).bind fun t79=>(ancepsref40_solutions.l1 k2 l0 a1 t30 x6_1 x7_1 t48 t79 (wrap64 (x10_2+1)))) else (none))=some r:=by rw [if_pos rfl] at H;exact H
         clear H;have H:=H1;clear H1;obtain ⟨c13b0,H⟩:=ifd1 H;obtain ⟨t79,A14,H⟩:=zo H;have H':=zA H;clear H;obtain ⟨p29,q29,ad29,A29_0,c29_0,A29_1,c29_1,e29,hx29_0,hx29_1,hl29_0,hi29_0,hl29_1,hi29_1⟩:=zp (at_T63 HR0.out x10_2)
         cases e29
         replace hx29_0:=zd HB hx29_0;replace hx29_1:=zd HB hx29_1;have HR29_0:=zA hi29_0;have HC29_0:=zA hl29_0;clear hi29_0 hl29_0;have HR29_1:=zA hi29_1;have HC29_1:=zA hl29_1;clear hi29_1 hl29_1;replace p29:=eq_true p29;replace q29:=eq_true q29
         go_wp2_with (first|((with_reducible refine gate_callee (f:=93) rfl ?_);refine zgo 43 Tryz.func93 #[.agg #[.slice A29_0 ((rd_T63 l0 x10_2).f0).length c29_0,.slice A29_1 ((rd_T63 l0 x10_2).f1).length c29_1],.int .i64 t48] ?_;(with_reducible refine (ancepsref38_Holds.calls k2 _ _ ((rd_T63 l0 x10_2).f0) _ _ ((rd_T63 l0 x10_2).f1) t48 t79 _ (zD HR29_0 HB) HC29_0.out (zD HR29_1 HB) HC29_1.out A14.out).mono ?_);rintro e w15 ⟨rfl,hb⟩;refine ⟨_,rfl,?_⟩;replace HO_5:=zA (Kd.R_below (zR HO_5) hb);replace HO_6:=zA (Kd.R_below (zR HO_6) hb);replace HB:=zu hb;clear hb))
         go_roundg k2
         case measure=>have:=HK1.out;have:=HK2.out;omega
         case rel=>exact ⟨(t79),(wrap64 (x10_2+1)),zT,zT,H',⟨by have:=HK1.out;have:=HK2.out;omega⟩,⟨by refine zr ?_;exact HO_5.out⟩,⟨by refine zr ?_;exact HO_6.out⟩,⟨zv0 HB⟩⟩
        ·replace c12:=Bool.eq_false_iff.mpr c12;subst c12
         have H1:(ancepsref40_solutions.l0 k2 l0 a1 t30 x6_1 (wrap64 (x7_1+1)))=some r:=by rw [if_neg (show ¬ (false=true) by decide)] at H;exact H
         clear H;have H:=H1;clear H1;have H':=zA H;clear H
         go_wp2
         go_roundg k2
         case measure=>have:=HK1.out;have:=HK2.out;omega
         case rel=>exact ⟨(x6_1),(wrap64 (x7_1+1)),zT,H',⟨by have:=HK1.out;have:=HK2.out;omega⟩,⟨by refine zr ?_;exact HO_5.out⟩,⟨by refine zr ?_;exact HO_6.out⟩,⟨zv0 HB⟩⟩
       ·by_cases c16:x9_2=true
        ·subst c16
         have H1:(if x6_1.length<17592186044416 then (ancepsref40_solutions.l0 k2 l0 a1 t30 (x6_1++[t48]) (wrap64 (x7_1+1))) else (none))=some r:=by rw [if_pos rfl] at H;exact H
         clear H;have H:=H1;clear H1;obtain ⟨c17,H⟩:=if1 H;have LMc17:=zA c17;clear c17
         first|(replace H:=zyb (x6_1++[t48]) H;obtain ⟨y59,Ny59,H⟩:=H)|(obtain ⟨y59,hy59⟩:=zY (x6_1++[t48]);(try rw (occs:=.pos [1]) [← hy59] at H);have Ny59:=zA hy59;clear hy59)
         have H':=zA H;clear H
         go_wp2_with (first|((with_reducible refine gate_builtin (b:=.append) (xs:=#[.tmp 45,.tmp 47]) rfl ?_);(try (refine gate_guard (by rfl) ?_;dsimp only));at_builtin;refine Kd.R_append (Kd.int .i64) (w0:=w) w.heap.size rfl (.tmp 45) (.tmp 47) 43 3 (.int .i64 0) 8 rfl Tryz.underlying43 info3 rfl (by decide) (by omega) (.slice Ao10 x6_1.length co10) x6_1 t48 [.int .i64 t48] (fun k_=>some k_≠(.slice Ao9 t30.length co9:Value).ownBlock) (fun _=>False) rfl rfl ?aP (fun _ hk=>hk.elim) ?aF ?aO ?aB ?aS ?aL ?_;(case aP=>exact rfl);(case aB=>exact zB);(case aF=>exact (fun k_ hk=>Kd.fresh' (Kd.R_lt (zR HO_5)) k_ hk));(case aO=>exact (zR HO_6));(case aS=>exact (below_size zB));(case aL=>have:=LMc17.out;omega);intro v656 w18 ho hb hg hat;rw [← Ny59.out] at ho;have HO98:=zA (ho);replace HO_5:=zA (Kd.R_after (ok:=(fun _=>True)) (by refine zr ?_;exact Kd.R_mono HO_5.out (fun _ hk=>⟨trivial,hk⟩)) hg hat);replace HB:=zA (hb);clear HO_6;clear ho hb hg hat))
         go_roundg k2
         case measure=>have:=HK1.out;have:=HK2.out;omega
         case rel=>exact ⟨(y59),(wrap64 (x7_1+1)),zT,H',⟨by have:=HK1.out;have:=HK2.out;omega⟩,⟨by refine zr ?_;exact Kd.R_mono HO_5.out (fun _ hk=>hk.2)⟩,⟨by refine zr ?_;exact HO98.out⟩,⟨zv0 HB⟩⟩
        ·replace c16:=Bool.eq_false_iff.mpr c16;subst c16
         have H1:(ancepsref40_solutions.l0 k2 l0 a1 t30 x6_1 (wrap64 (x7_1+1)))=some r:=by rw [if_neg (show ¬ (false=true) by decide)] at H;exact H
         clear H;have H:=H1;clear H1;have H':=zA H;clear H
         go_wp2
         go_roundg k2
         case measure=>have:=HK1.out;have:=HK2.out;omega
         case rel=>exact ⟨(x6_1),(wrap64 (x7_1+1)),zT,H',⟨by have:=HK1.out;have:=HK2.out;omega⟩,⟨by refine zr ?_;exact HO_5.out⟩,⟨by refine zr ?_;exact HO_6.out⟩,⟨zv0 HB⟩⟩
    ·obtain rfl:=Option.some.inj H;obtain ⟨Ao19,co19,eo19⟩:=Kd.R_slice HO_5.out;subst eo19;obtain ⟨Ao20,co20,eo20⟩:=Kd.R_slice HO_6.out;subst eo20
     go_wp2
     go_ret
     exact ⟨_,by first|rfl|(simp [errW_none,errW_some] <;> rfl)|(simp only [← hji5];first|rfl|(simp [errW_none,errW_some] <;> rfl))|(simp [*,errW_none,errW_some] <;> rfl),by refine zr ?_;exact Kd.R_mono HO_6.out (fun _ hk=>trivial),zv0 HB⟩
   ·obtain rfl:=Option.some.inj H;obtain ⟨Ao21,co21,eo21⟩:=Kd.R_slice HO_5.out;subst eo21
    go_wp2
    go_ret
    exact ⟨_,by first|rfl|(simp [errW_none,errW_some] <;> rfl)|(simp only [← hji5];first|rfl|(simp [errW_none,errW_some] <;> rfl))|(simp [*,errW_none,errW_some] <;> rfl),by refine zr ?_;exact Kd.R_mono HO_6.out (fun _ hk=>trivial),zv0 HB⟩
def ancepsref40_First.f (k:Nat) (l0:List (S63)):Option (Int×Int):=(ancepsref40_Valid.f k l0).bind fun t69=>(if t69=0 then ((ancepsref40_solutions.f k l0 1).bind fun t46=>(if (t46.length:Int)=0 then (some (0,10)) else (if 0<(t46.length:Int) then (some (rd t46 0,0)) else (none)))) else (some (0,t69)))
set_option maxHeartbeats 8000000 in
set_option maxRecDepth 100000 in
theorem ancepsref40_First.calls (k:Nat) (A0:Option Addr) (c0:Nat) (l0:List (S63)) (r1:Int) (r2:Int) (w:World) (hr0:Kd.C k63 w A0 l0.length l0) (hc0:l0.length≤c0) (h:ancepsref40_First.f k l0=some (r1,r2)) :
  Calls Tryz.prog 73 #[.slice A0 l0.length c0] w fun e w'=>e=.returned (.tuple #[.int .i64 r1,.int .i64 r2])∧Below w.heap.size w w':=by
 have HR0:=zA hr0;have HC0:=zA hc0;clear hr0 hc0;have HB:=zA (Below.refl w.heap.size w);have H:((ancepsref40_Valid.f k l0).bind fun t69=>(if t69=0 then ((ancepsref40_solutions.f k l0 1).bind fun t46=>(if (t46.length:Int)=0 then (some (0,10)) else (if 0<(t46.length:Int) then (some (rd t46 0,0)) else (none)))) else (some (0,t69))))=some (r1,r2):=h;clear h;obtain ⟨t69,A2,H⟩:=zo H;have HC3:=zA H;clear H
 go_enter Tryz.func73,Tryz.ntmps73
 go_upto_if 9 with (first|((with_reducible refine gate_callee (f:=33) rfl ?_);refine zgo 7 Tryz.func33 #[.slice A0 l0.length c0] ?_;(with_reducible refine (ancepsref40_Valid.calls k _ _ l0 t69 _ ?side1 HC0.out A2.out).mono ?_);(case side1=>repeat (first|exact HR0.out|(with_reducible refine Kd.C_alloc ?_ _)|(with_reducible refine Kd.C_drewN ?_ _)|(with_reducible refine Kd.C_drew ?_)));rintro e w4 ⟨rfl,hb⟩;refine ⟨_,rfl,?_⟩;replace HB:=zu hb;clear hb))
 (try simp only [Act.put,zi,zs,zt]);have H:=HC3.out;clear HC3
 rcases ife H with ⟨c5b0,c5b1,H⟩|⟨c5,c5b0,c5b1,H⟩
 ·(first|rw [c5b0]|(simp only [i64_w,i32_w];rw [c5b0])|skip)
  (try rw [c5b1]);obtain ⟨t46,A6,H⟩:=zo H;have HC7:=zA H;clear H
  go_upto_if 15 with (first|((with_reducible refine gate_callee (f:=54) rfl ?_);refine zgo 12 Tryz.func54 #[.slice A0 l0.length c0,.int .i64 1] ?_;(with_reducible refine (ancepsref40_solutions.calls k _ _ l0 1 t46 _ (zD HR0 HB) HC0.out A6.out).mono ?_);rintro e w8 ⟨v660,rfl,ho0,hb⟩;refine ⟨_,rfl,?_⟩;have HO91:=zA (Kd.R_lower ho0 (below_size zB));replace HB:=zu hb;clear hb;(try clear ho0);obtain ⟨Ao9,co9,eo9⟩:=Kd.R_slice HO91.out;subst eo9))
  (try simp only [Act.put,zi,zs,zt]);have H:=HC7.out;clear HC7
  rcases ife H with ⟨c10b0,c10b1,H⟩|⟨c10,c10b0,c10b1,H⟩
  ·(first|rw [c10b0]|(simp only [i64_w,i32_w];rw [c10b0])|skip)
   (try rw [c10b1]);simp only [Option.some.injEq,Prod.mk.injEq] at H;obtain ⟨rfl,rfl⟩:=H
   go_wp2
   go_ret2
   exact ⟨ze,zv0 HB⟩
  ·have c10b2:¬ (t46=[]):=fun h_=>c10 (by rw [h_];rfl)
   (first|rw [c10b0]|(simp only [i64_w,i32_w];rw [c10b0])|skip)
   (try rw [c10b1]);(try rw [c10b2]);obtain ⟨c11,H⟩:=if1 H;have c11b0:decide (0<(t46.length:Int))=true:=decide_eq_true c11;have c11b1:decide (0<t46.length)=true:=decide_eq_true (by omega);clear c11;simp only [Option.some.injEq,Prod.mk.injEq] at H;obtain ⟨rfl,rfl⟩:=H
   have p47:0≤(0:Int):=(by omega)
   have q47:0<(t46.length:Int):=of_decide_eq_true zh;obtain ⟨ad47,e47,hx47_0⟩:=Kd.at_int (Kd.R_reads' HO91.out).2.2 0 p47 q47
   cases e47
   have qi47:(0<t46.length)=True:=eq_true (by omega);(try rw [show ((0:Int)).toNat=0 from rfl] at hx47_0);(try rw [Addr.add_zero'] at hx47_0);replace p47:=eq_true p47;replace q47:=eq_true q47
   go_wp2
   go_ret2
   exact ⟨ze,zv0 HB⟩
 ·(first|rw [c5b0]|(simp only [i64_w,i32_w];rw [c5b0])|skip)
  (try rw [c5b1]);simp only [Option.some.injEq,Prod.mk.injEq] at H;obtain ⟨rfl,rfl⟩:=H
  go_wp2
  go_ret2
  exact ⟨ze,zv0 HB⟩
def ancepsref41_solvable.f (k:Nat) (l0:List (S63)):Option (Bool):=(ancepsref40_First.f k l0).bind fun bt82=>(some (bt82.2 == 0))
set_option maxHeartbeats 8000000 in
set_option maxRecDepth 100000 in
theorem ancepsref41_solvable.calls (k:Nat) (A0:Option Addr) (c0:Nat) (l0:List (S63)) (r:Bool) (w:World) (hr0:Kd.C k63 w A0 l0.length l0) (hc0:l0.length≤c0) (h:ancepsref41_solvable.f k l0=some r) :
  Calls Tryz.prog 40 #[.slice A0 l0.length c0] w fun e w'=>e=.returned (.bool r)∧Below w.heap.size w w':=by
 have HR0:=zA hr0;have HC0:=zA hc0;clear hr0 hc0;have HB:=zA (Below.refl w.heap.size w);have H:((ancepsref40_First.f k l0).bind fun bt82=>(some (bt82.2 == 0)))=some r:=h;clear h;obtain ⟨t82,t99,A2,H⟩:=zO H
 dsimp only at H
 obtain rfl:=Option.some.inj H
 go_enter Tryz.func40,Tryz.ntmps40
 go_wp2_with (first|((with_reducible refine gate_callee (f:=73) rfl ?_);refine zgo 7 Tryz.func73 #[.slice A0 l0.length c0] ?_;(with_reducible refine (ancepsref40_First.calls k _ _ l0 t82 t99 _ ?side1 HC0.out A2.out).mono ?_);(case side1=>repeat (first|exact HR0.out|(with_reducible refine Kd.C_alloc ?_ _)|(with_reducible refine Kd.C_drewN ?_ _)|(with_reducible refine Kd.C_drew ?_)));rintro e w3 ⟨rfl,hb⟩;refine ⟨_,rfl,?_⟩;replace HB:=zu hb;clear hb))
 go_ret
 exact ⟨ze,zv0 HB⟩
def ancepsref41_has.l0:Nat→List Int→Int→Int→Option (Bool)
 | 0,_,_,_=>none
 | k+1,x0,x1,x5=>if x5<(x0.length:Int) then (if 0≤x5 then (if (rd x0 x5)=x1 then (some true) else (ancepsref41_has.l0 k x0 x1 (wrap64 (x5+1)))) else (none)) else (some false)
def ancepsref41_has.f (k:Nat) (l0:List Int) (a1:Int):Option (Bool):=ancepsref41_has.l0 k l0 a1 0
set_option maxHeartbeats 8000000 in
set_option maxRecDepth 100000 in
theorem ancepsref41_has.calls (k:Nat) (A0:Option Addr) (c0:Nat) (l0:List Int) (a1:Int) (r:Bool) (w:World) (hr0:Kd.C (Kd.int .i64) w A0 l0.length l0) (hc0:l0.length≤c0) (h:ancepsref41_has.f k l0 a1=some r) :
  Calls Tryz.prog 50 #[.slice A0 l0.length c0,.int .i64 a1] w fun e w'=>e=.returned (.bool r)∧Drawn0 w w':=by
 have HR0:=zA hr0;have HC0:=zA hc0;clear hr0 hc0;have H:(ancepsref41_has.l0 k l0 a1 0)=some r:=h;clear h;have H':=zA H;clear H
 go_enter Tryz.func50,Tryz.ntmps50
 go_wp2
 go_loopg [5] k (fun kq v5 w'=>∃ (x5_1:Int),v5=.int .i64 x5_1∧Aside0 (ancepsref41_has.l0 kq l0 a1 x5_1=some r)∧Aside0 (kq≤k)∧Drawn0 w w')
 case atStart=>exact ⟨(0),zT,H',⟨Nat.le_refl _⟩,by repeat (first|exact Drawn0.refl _|apply Drawn0.step)⟩
 case round=>
  clear H';obtain ⟨x5_1,rfl,HA,HK1,⟨m1,rfl⟩⟩:=hrel
  cases gk with
  | zero=>exact absurd HA.out (by simp [ancepsref41_has.l0])
  | succ k1=>
   have H:=HA.out;clear HA;simp only [ancepsref41_has.l0] at H
   rcases ifd H with ⟨c3b0,H⟩|⟨c3b0,H⟩
   ·obtain ⟨c4b0,H⟩:=ifd1 H
    rcases ife H with ⟨c5b0,c5b1,H⟩|⟨c5,c5b0,c5b1,H⟩
    ·obtain rfl:=Option.some.inj H;obtain ⟨p36,q36,ad36,e36,hx36_0⟩:=zp (Kd.at_int HR0.out x5_1)
     cases e36
     replace p36:=eq_true p36;replace q36:=eq_true q36
     go_wp2
     go_ret
     exact ⟨by first|rfl|(simp;done)|(simp [*];done),by repeat (first|exact Drawn0.refl _|apply Drawn0.step)⟩
    ·have H':=zA H;clear H;obtain ⟨p36,q36,ad36,e36,hx36_0⟩:=zp (Kd.at_int HR0.out x5_1)
     cases e36
     replace p36:=eq_true p36;replace q36:=eq_true q36
     go_wp2
     go_roundg k1
     case measure=>have:=HK1.out;omega
     case rel=>exact ⟨(wrap64 (x5_1+1)),zT,H',⟨by have:=HK1.out;omega⟩,by repeat (first|exact Drawn0.refl _|apply Drawn0.step)⟩
   ·obtain rfl:=Option.some.inj H
    go_wp2
    go_ret
    exact ⟨by first|rfl|(simp;done)|(simp [*];done),by repeat (first|exact Drawn0.refl _|apply Drawn0.step)⟩
def ancepsref40_Given.f (k:Nat) (l0:List (S63)) (a1:Int) (a2:Int):Option ((List (S63))×Int):=(ancepsref40_Valid.f k l0).bind fun t70=>(if t70=0 then (if a1<0 then (some (([]:List (S63)),6)) else (if a1>23 then (some (([]:List (S63)),6)) else (if a2<0 then (some (([]:List (S63)),6)) else (if a2>1 then (some (([]:List (S63)),6)) else (if (l0.length:Int)=16 then (some (([]:List (S63)),3)) else ((some (([]:List (S63)):List (S63))).bind fun y37=>(if y37.length+l0.length<2932031007402 then ((some (y37++l0:List (S63))).bind fun y42=>(if y42.length<2932031007402 then (some ((y42++[(⟨(([a1]:List Int)),(([a2]:List Int))⟩:S63)]),0)) else (none))) else (none)))))))) else (some (([]:List (S63)),t70)))
set_option maxHeartbeats 8000000 in
set_option maxRecDepth 100000 in
theorem ancepsref40_Given.calls (k:Nat) (P0_:Nat→Prop) (A0:Option Addr) (c0:Nat) (l0:List (S63)) (a1:Int) (a2:Int) (r1:List (S63)) (r2:Int) (w:World) (hs0:Kd.V k63 63 w w.heap.size (fun k_=>P0_ k_) (.slice A0 l0.length c0) l0) (h:ancepsref40_Given.f k l0 a1 a2=some (r1,r2)) :
  Calls Tryz.prog 75 #[.slice A0 l0.length c0,.int .i64 a1,.int .i64 a2] w fun e w'=>∃ v0_:Value,e=.returned (.tuple #[v0_,.int .i64 r2])∧Kd.N k63 63 w' w.heap.size (fun k_=>(P0_ k_∨w.heap.size≤k_)) v0_ r1∧Below w.heap.size w w':=by
 have HO0:=zA (show Kd.V k63 63 w w.heap.size (fun k_=>(P0_ k_∨w.heap.size≤k_)) (.slice A0 l0.length c0) l0 from Kd.V_mono hs0 (fun k_ hk=>.inl hk));have HB:=zA (Below.refl w.heap.size w);have H:((ancepsref40_Valid.f k l0).bind fun t70=>(if t70=0 then (if a1<0 then (some (([]:List (S63)),6)) else (if a1>23 then (some (([]:List (S63)),6)) else (if a2<0 then (some (([]:List (S63)),6)) else (if a2>1 then (some (([]:List (S63)),6)) else (if (l0.length:Int)=16 then (some (([]:List (S63)),3)) else ((some (([]:List (S63)):List (S63))).bind fun y37=>(if y37.length+l0.length<2932031007402 then ((some (y37++l0:List (S63))).bind fun y42=>(if y42.length<2932031007402 then (some ((y42++[(⟨(([a1]:List Int)),(([a2]:List Int))⟩:S63)]),0)) else (none))) else (none)))))))) else (some (([]:List (S63)),t70))))=some (r1,r2):=h;clear h;obtain ⟨t70,A4,H⟩:=zo H;have HC5:=zA H;clear H
 go_enter Tryz.func75,Tryz.ntmps75
 go_upto_if 12 with (first|((with_reducible refine gate_callee (f:=33) rfl ?_);refine zgo 10 Tryz.func33 #[.slice A0 l0.length c0] ?_;(with_reducible refine (ancepsref40_Valid.calls k _ _ l0 t70 _ ?side1 ?side2 A4.out).mono ?_);(case side1=>exact zC (Kd.V_reads' HO0.out).2.2);(case side2=>exact (Kd.V_reads' HO0.out).2.1);rintro e w6 ⟨rfl,hb⟩;refine ⟨_,rfl,?_⟩;replace HO0:=zA (Kd.V_below (zV HO0) hb);replace HB:=zu hb;clear hb))
 (try simp only [Act.put,zi,zs,zt]);have H:=HC5.out;clear HC5
 rcases ife H with ⟨c7b0,c7b1,H⟩|⟨c7,c7b0,c7b1,H⟩
 ·(first|rw [c7b0]|(simp only [i64_w,i32_w];rw [c7b0])|skip)
  (try rw [c7b1])
  rcases ifd H with ⟨c8b0,H⟩|⟨c8b0,H⟩
  ·simp only [Option.some.injEq,Prod.mk.injEq] at H;obtain ⟨rfl,rfl⟩:=H
   go_wp2
   go_ret2
   exact ⟨_,ze,by first|exact Kd.S_nil _ _ _ _ _|exact Kd.N_nil _ _ _ _ _|exact Kd.V_nil _ _ _ _ _|exact Kd.Q_nil _ _ _ _ _|exact Kd.R_nil _ _ _ _ _,zv0 HB⟩
  ·rcases if0 H with ⟨c9,H⟩|⟨c9,H⟩
   ·have c9b0:decide (23<a1)=true:=decide_eq_true c9;clear c9;simp only [Option.some.injEq,Prod.mk.injEq] at H;obtain ⟨rfl,rfl⟩:=H
    go_wp2
    go_ret2
    exact ⟨_,ze,by first|exact Kd.S_nil _ _ _ _ _|exact Kd.N_nil _ _ _ _ _|exact Kd.V_nil _ _ _ _ _|exact Kd.Q_nil _ _ _ _ _|exact Kd.R_nil _ _ _ _ _,zv0 HB⟩
   ·have c9b0:decide (23<a1)=false:=decide_eq_false c9;clear c9
    rcases ifd H with ⟨c10b0,H⟩|⟨c10b0,H⟩
    ·simp only [Option.some.injEq,Prod.mk.injEq] at H;obtain ⟨rfl,rfl⟩:=H
     go_wp2
     go_ret2
     exact ⟨_,ze,by first|exact Kd.S_nil _ _ _ _ _|exact Kd.N_nil _ _ _ _ _|exact Kd.V_nil _ _ _ _ _|exact Kd.Q_nil _ _ _ _ _|exact Kd.R_nil _ _ _ _ _,zv0 HB⟩
    ·rcases if0 H with ⟨c11,H⟩|⟨c11,H⟩
     ·have c11b0:decide (1<a2)=true:=decide_eq_true c11;clear c11;simp only [Option.some.injEq,Prod.mk.injEq] at H;obtain ⟨rfl,rfl⟩:=H
      go_wp2
      go_ret2
      exact ⟨_,ze,by first|exact Kd.S_nil _ _ _ _ _|exact Kd.N_nil _ _ _ _ _|exact Kd.V_nil _ _ _ _ _|exact Kd.Q_nil _ _ _ _ _|exact Kd.R_nil _ _ _ _ _,zv0 HB⟩
     ·have c11b0:decide (1<a2)=false:=decide_eq_false c11;clear c11
      rcases ife H with ⟨c12b0,c12b1,H⟩|⟨c12,c12b0,c12b1,H⟩
      ·simp only [Option.some.injEq,Prod.mk.injEq] at H;obtain ⟨rfl,rfl⟩:=H
       go_wp2
       go_ret2
       exact ⟨_,ze,by first|exact Kd.S_nil _ _ _ _ _|exact Kd.N_nil _ _ _ _ _|exact Kd.V_nil _ _ _ _ _|exact Kd.Q_nil _ _ _ _ _|exact Kd.R_nil _ _ _ _ _,zv0 HB⟩
      ·first|(replace H:=zyb (([]:List (S63))) H;obtain ⟨y37,Ny37,H⟩:=H)|(obtain ⟨y37,hy37⟩:=zY (([]:List (S63)));(try rw (occs:=.pos [1]) [← hy37] at H);have Ny37:=zA hy37;clear hy37)
       obtain ⟨c13,H⟩:=if1 H;have LMc13:=zA c13;clear c13
       first|(replace H:=zyb (y37++l0) H;obtain ⟨y42,Ny42,H⟩:=H)|(obtain ⟨y42,hy42⟩:=zY (y37++l0);(try rw (occs:=.pos [1]) [← hy42] at H);have Ny42:=zA hy42;clear hy42)
       first|(replace H:=zyb (([a1]:List Int)) H;obtain ⟨y44,Ny44,H⟩:=H)|(obtain ⟨y44,hy44⟩:=zY (([a1]:List Int));(try rw (occs:=.pos [1]) [← hy44] at H);have Ny44:=zA hy44;clear hy44)
       first|(replace H:=zyb (([a2]:List Int)) H;obtain ⟨y45,Ny45,H⟩:=H)|(obtain ⟨y45,hy45⟩:=zY (([a2]:List Int));(try rw (occs:=.pos [1]) [← hy45] at H);have Ny45:=zA hy45;clear hy45)
       obtain ⟨c14,H⟩:=if1 H;have LMc14:=zA c14;clear c14
       first|(replace H:=zyb (y42++[(⟨y44,y45⟩:S63)]) H;obtain ⟨y62,Ny62,H⟩:=H)|(obtain ⟨y62,hy62⟩:=zY (y42++[(⟨y44,y45⟩:S63)]);(try rw (occs:=.pos [1]) [← hy62] at H);have Ny62:=zA hy62;clear hy62)
       simp only [Option.some.injEq,Prod.mk.injEq] at H;obtain ⟨rfl,rfl⟩:=H
       go_wp2_with (first|((with_reducible refine gate_dst (N:=31) rfl ?_);refine Kd.N_lit k63 _ 63 ?hg (N':=31) ?hd (xs:=([]:List (S63))) (inner:=[]) (ok:=(fun k_=>(P0_ k_∨w.heap.size≤k_))) (okp:=(fun k_=>(P0_ k_∨w.heap.size≤k_))) ?hr ?hp (fun _ hk=>hk) ((show ∀ k_,w6.heap.size≤k_→(fun k_=>(P0_ k_∨w.heap.size≤k_)) k_ from fun k_ hk=>(.inr (Nat.le_trans (below_size zB) hk))) _ (Nat.le_refl _)) (Below.refl _ _) (Nat.le_refl _) (by simp) ?_;(case hd=>rfl);(case hg=>rfl);(case hr=>first|(go_simp;done)|(go_simp;rfl));(case hp=>exact (Reps.none _ _));intro v87 w15 ho16 hb hg_ hnew_;clear hg_ hnew_;(first|rw [← Ny37.out] at ho16|(simp only [Int.reduceToNat] at ho16;rw [← Ny37.out] at ho16));have HO92:=zA (Kd.N_lower ho16 (below_size zB));replace HO0:=zA (Kd.V_elder' (zV HO0) (Kd.N_base ho16) hb);replace HB:=zu hb;clear hb ho16)|((with_reducible refine gate_builtin (b:=.append) (xs:=#[.tmp 31,.tmp 32]) rfl ?_);at_builtin;refine Kd.N_append_rows k63 (w0:=w) w.heap.size rfl (.tmp 31) (.tmp 32) 22 63 (.agg #[(.slice none 0 0),(.slice none 0 0)]) 48 rfl Tryz.underlying22 info63 rfl (by decide) (by omega) v87 y37 l0 _ _ _ (fun k_=>(P0_ k_∨w.heap.size≤k_)) (fun k_=>((fun k_=>(P0_ k_∨w.heap.size≤k_))) k_∧some k_≠(v87:Value).ownBlock) rfl rfl ?aO ?aR (fun _ hk=>hk) ?aF ?aB ?aS ?aL ?_;(case aR=>exact (by skip;exact Kd.V_F (Kd.V_mono (ok':=(fun k_=>((fun k_=>(P0_ k_∨w.heap.size≤k_))) k_∧some k_≠(v87:Value).ownBlock)) (HO0.out) (fun k_ hk=>⟨hk.1,hk.2⟩))));(case aB=>exact zB);(case aF=>exact (fun k_ hk=>(.inr (Nat.le_trans (below_size zB) hk))));(case aO=>exact (zN HO92));(case aS=>exact (below_size zB));(case aL=>have:=LMc13.out;omega);intro v80 w17 ho hb hg hat;rw [← Ny42.out] at ho;have HO52:=zA (ho);replace HO0:=zA (Kd.V_afterv (ok:=(fun k_=>(P0_ k_∨w.heap.size≤k_))) (zV HO0) hg hat);replace HB:=zA (hb);clear HO92;clear ho hb hg hat)|((with_reducible refine gate_dst (N:=35) rfl ?_);refine Kd.R_lit (Kd.int .i64) _ 3 ?hg (N:=35) ?hd (xs:=([a1]:List Int)) (inner:=[.int .i64 a1]) (ok:=fun _=>True) (okp:=fun _=>True) ?hr ?hp (fun _ hk=>hk) trivial (Below.refl _ _) (Nat.le_refl _) (by simp) ?_;(case hd=>rfl);(case hg=>rfl);(case hr=>first|(go_simp;done)|(go_simp;rfl));(case hp=>exact (Reps.one (show Kd.M (Kd.int .i64) _ _ _ a1 [.int .i64 a1] from rfl) (Reps.none _ _)));intro v674 w18 ho19 hb hg_ hnew_;clear hg_ hnew_;(first|rw [← Ny44.out] at ho19|(simp only [Int.reduceToNat] at ho19;rw [← Ny44.out] at ho19));have HO71:=zA (Kd.R_lower (Kd.R_newM (M:=fun k_=>(w.heap.size≤k_)) ho19 (below_size zB) (fun k_ h_=>h_)) (below_size zB));replace HO0:=zA (Kd.V_elder' (zV HO0) (Kd.R_base ho19) hb);replace HO52:=zA (Kd.N_elder' (zN HO52) (Kd.R_base ho19) hb);replace HB:=zu hb;clear hb ho19)|((with_reducible refine gate_dst (N:=37) rfl ?_);refine Kd.R_lit (Kd.int .i64) _ 3 ?hg (N:=37) ?hd (xs:=([a2]:List Int)) (inner:=[.int .i64 a2]) (ok:=fun _=>True) (okp:=fun _=>True) ?hr ?hp (fun _ hk=>hk) trivial (Below.refl _ _) (Nat.le_refl _) (by simp) ?_;(case hd=>rfl);(case hg=>rfl);(case hr=>first|(go_simp;done)|(go_simp;rfl));(case hp=>exact (Reps.one (show Kd.M (Kd.int .i64) _ _ _ a2 [.int .i64 a2] from rfl) (Reps.none _ _)));intro v677 w20 ho21 hb hg_ hnew_;clear hg_ hnew_;(first|rw [← Ny45.out] at ho21|(simp only [Int.reduceToNat] at ho21;rw [← Ny45.out] at ho21));have HO86:=zA (Kd.R_lower (Kd.R_new' (Kd.R_newM (M:=fun k_=>(w.heap.size≤k_)) ho21 (below_size zB) (fun k_ h_=>h_)) (Kd.R_lt (zR HO71))) (below_size zB));replace HO0:=zA (Kd.V_elder' (zV HO0) (Kd.R_base ho21) hb);replace HO52:=zA (Kd.N_elder' (zN HO52) (Kd.R_base ho21) hb);replace HO71:=zA (Kd.R_elder' (zR HO71) (Kd.R_base ho21) hb);replace HB:=zu hb;clear hb ho21;obtain ⟨Ao22,co22,eo22⟩:=Kd.R_slice HO86.out;subst eo22;obtain ⟨Ao23,co23,eo23⟩:=Kd.R_slice HO71.out;subst eo23)|((with_reducible refine gate_builtin (b:=.append) (xs:=#[.tmp 33,.tmp 39]) rfl ?_);at_builtin;refine Kd.N_append k63 (w0:=w) w.heap.size rfl (.tmp 33) (.tmp 39) 22 63 (.agg #[(.slice none 0 0),(.slice none 0 0)]) 48 rfl Tryz.underlying22 info63 rfl (by decide) (by omega) v80 y42 (⟨y44,y45⟩:S63) [.slice Ao23 y44.length co23,.slice Ao22 y45.length co22] (fun k_=>(P0_ k_∨w.heap.size≤k_)) (fun k_=>((fun k_=>(P0_ k_∨w.heap.size≤k_))) k_∧some k_≠(v80:Value).ownBlock) rfl rfl ?aP (fun _ hk=>hk) ?aF ?aO ?aB ?aS ?aL ?_;(case aP=>exact (k63_mkF _ _ (⟨y44,y45⟩:S63) (Kd.R_reads' (Kd.R_mono (ok':=(fun k_=>((fun k_=>(P0_ k_∨w.heap.size≤k_))) k_∧some k_≠(v80:Value).ownBlock)) (Kd.R_apart' (HO71.out) (Kd.N_typed HO52.out) (by decide)) (fun k_ hk=>⟨(.inr (hk.1.1.1)),hk.2⟩))).2.1 (Kd.R_F (Kd.R_mono (ok':=(fun k_=>((fun k_=>(P0_ k_∨w.heap.size≤k_))) k_∧some k_≠(v80:Value).ownBlock)) (Kd.R_apart' (HO71.out) (Kd.N_typed HO52.out) (by decide)) (fun k_ hk=>⟨(.inr (hk.1.1.1)),hk.2⟩))) (Kd.R_reads' (Kd.R_mono (ok':=(fun k_=>((fun k_=>(P0_ k_∨w.heap.size≤k_))) k_∧some k_≠(v80:Value).ownBlock)) (Kd.R_apart' (HO86.out) (Kd.N_typed HO52.out) (by decide)) (fun k_ hk=>⟨(.inr (hk.1.1.1)),hk.2⟩))).2.1 (Kd.R_F (Kd.R_mono (ok':=(fun k_=>((fun k_=>(P0_ k_∨w.heap.size≤k_))) k_∧some k_≠(v80:Value).ownBlock)) (Kd.R_apart' (HO86.out) (Kd.N_typed HO52.out) (by decide)) (fun k_ hk=>⟨(.inr (hk.1.1.1)),hk.2⟩)))));(case aB=>exact zB);(case aF=>exact (fun k_ hk=>(.inr (Nat.le_trans (below_size zB) hk))));(case aO=>exact (by (with_reducible repeat (first|apply Kd.N_alloc|apply Kd.N_drewN|apply Kd.N_drew));exact Kd.N_mono HO52.out (fun _ hk=>hk.1.1)));(case aS=>exact (below_size zB));(case aL=>have:=LMc14.out;omega);intro v680 w24 ho hb hg hat;rw [← Ny62.out] at ho;have HO681:=zA (ho);replace HO0:=zA (Kd.V_afterv (ok:=(fun k_=>(P0_ k_∨w.heap.size≤k_)∧some k_≠(.slice Ao23 y44.length co23:Value).ownBlock∧some k_≠(.slice Ao22 y45.length co22:Value).ownBlock)) (by (with_reducible repeat (first|apply Kd.V_alloc|apply Kd.V_drewN|apply Kd.V_drew));exact Kd.V_mono HO0.out (fun _ hk=>⟨⟨hk.1.1.1,⟨hk.1.2,hk.2⟩⟩,hk.1.1.2⟩)) hg hat);replace HB:=zA (hb);clear HO52 HO71 HO86;clear ho hb hg hat))
       go_ret2
       exact ⟨_,ze,by (with_reducible repeat (first|apply Kd.N_alloc|apply Kd.N_drewN|apply Kd.N_drew));exact HO681.out,zv0 HB⟩
 ·(first|rw [c7b0]|(simp only [i64_w,i32_w];rw [c7b0])|skip)
  (try rw [c7b1]);simp only [Option.some.injEq,Prod.mk.injEq] at H;obtain ⟨rfl,rfl⟩:=H
  go_wp2
  go_ret2
  exact ⟨_,ze,by first|exact Kd.S_nil _ _ _ _ _|exact Kd.N_nil _ _ _ _ _|exact Kd.V_nil _ _ _ _ _|exact Kd.Q_nil _ _ _ _ _|exact Kd.R_nil _ _ _ _ _,zv0 HB⟩
def ancepsref41_with.f (k:Nat) (l0:List (S63)) (a1:Int) (a2:Int):Option (Int×Bool):=(ancepsref40_Given.f k l0 a1 a2).bind fun bt72=>((ancepsref40_First.f k bt72.1).bind fun bt76=>(some (bt76.1,(bt76.2 == 0))))
set_option maxHeartbeats 8000000 in
set_option maxRecDepth 100000 in
theorem ancepsref41_with.calls (k:Nat) (A0:Option Addr) (c0:Nat) (l0:List (S63)) (a1:Int) (a2:Int) (r1:Int) (r2:Bool) (w:World) (hr0:Kd.C k63 w A0 l0.length l0) (hc0:l0.length≤c0) (h:ancepsref41_with.f k l0 a1 a2=some (r1,r2)) :
  Calls Tryz.prog 74 #[.slice A0 l0.length c0,.int .i64 a1,.int .i64 a2] w fun e w'=>e=.returned (.tuple #[.int .i64 r1,.bool r2])∧Below w.heap.size w w':=by
 have HR0:=zA hr0;have HC0:=zA hc0;clear hr0 hc0;have HB:=zA (Below.refl w.heap.size w);have H:((ancepsref40_Given.f k l0 a1 a2).bind fun bt72=>((ancepsref40_First.f k bt72.1).bind fun bt76=>(some (bt76.1,(bt76.2 == 0)))))=some (r1,r2):=h;clear h;obtain ⟨t72,t685,A4,H⟩:=zO H
 dsimp only at H
 obtain ⟨t76,t687,A5,H⟩:=zO H
 dsimp only at H
 simp only [Option.some.injEq,Prod.mk.injEq] at H;obtain ⟨rfl,rfl⟩:=H
 go_enter Tryz.func74,Tryz.ntmps74
 go_wp2_with (first|((with_reducible refine gate_callee (f:=75) rfl ?_);refine zgo 16 Tryz.func75 #[.slice A0 l0.length c0,.int .i64 a1,.int .i64 a2] ?_;(with_reducible refine (ancepsref40_Given.calls k (fun k_=>k_<w.heap.size) _ _ l0 a1 a2 t72 t685 _ ?side1 A4.out).mono ?_);(case side1=>exact Kd.V_mk HC0.out (Kd.F_below (Kd.C_F k63_heap HR0.out) zB));rintro e w6 ⟨v683,rfl,ho0,hb⟩;refine ⟨_,rfl,?_⟩;have HO83:=zA (Kd.N_lower (Kd.N_mono (ok':=fun k_=>True) ho0 (fun k_ hk_=>trivial)) (below_size zB));replace HB:=zu hb;clear hb;(try clear ho0);obtain ⟨Ao7,co7,eo7⟩:=Kd.N_slice HO83.out;subst eo7)|((with_reducible refine gate_callee (f:=73) rfl ?_);refine zgo 21 Tryz.func73 #[.slice Ao7 t72.length co7] ?_;(with_reducible refine (ancepsref40_First.calls k _ _ t72 t76 t687 _ ?side1 ?side2 A5.out).mono ?_);(case side1=>exact zC (Kd.N_reads' HO83.out).2.2);(case side2=>exact (Kd.N_reads' HO83.out).2.1);rintro e w8 ⟨rfl,hb⟩;refine ⟨_,rfl,?_⟩;replace HO83:=zA (Kd.N_below (zN HO83) hb);replace HB:=zu hb;clear hb))
 go_ret2
 exact ⟨ze,zv0 HB⟩
def ancepsref41_Value.f (k:Nat) (l0:List (S63)) (a1:Int):Option (Int×Int):=(ancepsref41_given.f k l0).bind fun t77=>(if t77=0 then (if a1<0 then (some (0,6)) else (if a1≥24 then (some (0,6)) else ((ancepsref41_solvable.f k l0).bind fun t81=>(if t81=true then ((ancepsref40_Vars.f k l0).bind fun t60=>((ancepsref41_has.f k t60 a1).bind fun t65=>(if t65=true then ((ancepsref41_with.f k l0 a1 0).bind fun bt61=>((ancepsref41_with.f k l0 a1 1).bind fun bt49=>(if bt61.2=true then (if bt49.2=true then (some (3,0)) else (some (1,0))) else (if bt49.2=true then (some (2,0)) else (some (1,0)))))) else (some (0,4))))) else (some (0,12)))))) else (some (0,t77)))
set_option maxHeartbeats 8000000 in
set_option maxRecDepth 100000 in
theorem ancepsref41_Value.calls (k:Nat) (A0:Option Addr) (c0:Nat) (l0:List (S63)) (a1:Int) (r1:Int) (r2:Int) (w:World) (hr0:Kd.C k63 w A0 l0.length l0) (hc0:l0.length≤c0) (h:ancepsref41_Value.f k l0 a1=some (r1,r2)) :
  Calls Tryz.prog 95 #[.slice A0 l0.length c0,.int .i64 a1] w fun e w'=>e=.returned (.tuple #[.int .i64 r1,.int .i64 r2])∧Below w.heap.size w w':=by
 have HR0:=zA hr0;have HC0:=zA hc0;clear hr0 hc0;have HB:=zA (Below.refl w.heap.size w);have H:((ancepsref41_given.f k l0).bind fun t77=>(if t77=0 then (if a1<0 then (some (0,6)) else (if a1≥24 then (some (0,6)) else ((ancepsref41_solvable.f k l0).bind fun t81=>(if t81=true then ((ancepsref40_Vars.f k l0).bind fun t60=>((ancepsref41_has.f k t60 a1).bind fun t65=>(if t65=true then ((ancepsref41_with.f k l0 a1 0).bind fun bt61=>((ancepsref41_with.f k l0 a1 1).bind fun bt49=>(if bt61.2=true then (if bt49.2=true then (some (3,0)) else (some (1,0))) else (if bt49.2=true then (some (2,0)) else (some (1,0)))))) else (some (0,4))))) else (some (0,12)))))) else (some (0,t77))))=some (r1,r2):=h;clear h;obtain ⟨t77,A3,H⟩:=zo H;have HC4:=zA H;clear H
 go_enter Tryz.func95,Tryz.ntmps95
 go_upto_if 14 with (first|((with_reducible refine gate_callee (f:=39) rfl ?_);refine zgo 12 Tryz.func39 #[.slice A0 l0.length c0] ?_;(with_reducible refine (ancepsref41_given.calls k _ _ l0 t77 _ ?side1 HC0.out A3.out).mono ?_);(case side1=>repeat (first|exact HR0.out|(with_reducible refine Kd.C_alloc ?_ _)|(with_reducible refine Kd.C_drewN ?_ _)|(with_reducible refine Kd.C_drew ?_)));rintro e w5 ⟨rfl,hb⟩;refine ⟨_,rfl,?_⟩;replace HB:=zu hb;clear hb))
 (try simp only [Act.put,zi,zs,zt]);have H:=HC4.out;clear HC4
 rcases ife H with ⟨c6b0,c6b1,H⟩|⟨c6,c6b0,c6b1,H⟩
 ·(first|rw [c6b0]|(simp only [i64_w,i32_w];rw [c6b0])|skip)
  (try rw [c6b1])
  rcases ifd H with ⟨c7b0,H⟩|⟨c7b0,H⟩
  ·simp only [Option.some.injEq,Prod.mk.injEq] at H;obtain ⟨rfl,rfl⟩:=H
   go_wp2
   go_ret2
   exact ⟨ze,zv0 HB⟩
  ·rcases if0 H with ⟨c8,H⟩|⟨c8,H⟩
   ·have c8b0:decide (24≤a1)=true:=decide_eq_true c8;clear c8;simp only [Option.some.injEq,Prod.mk.injEq] at H;obtain ⟨rfl,rfl⟩:=H
    go_wp2
    go_ret2
    exact ⟨ze,zv0 HB⟩
   ·have c8b0:decide (24≤a1)=false:=decide_eq_false c8;clear c8;obtain ⟨t81,A9,H⟩:=zo H;have HC10:=zA H;clear H
    go_upto_if 24 with (first|((with_reducible refine gate_callee (f:=40) rfl ?_);refine zgo 23 Tryz.func40 #[.slice A0 l0.length c0] ?_;(with_reducible refine (ancepsref41_solvable.calls k _ _ l0 t81 _ (zD HR0 HB) HC0.out A9.out).mono ?_);rintro e w11 ⟨rfl,hb⟩;refine ⟨_,rfl,?_⟩;replace HB:=zu hb;clear hb))
    (try simp only [Act.put,zi,zs,zt]);have H:=HC10.out;clear HC10
    by_cases c12:t81=true
    ·subst c12
     have H1:((ancepsref40_Vars.f k l0).bind fun t60=>((ancepsref41_has.f k t60 a1).bind fun t65=>(if t65=true then ((ancepsref41_with.f k l0 a1 0).bind fun bt61=>((ancepsref41_with.f k l0 a1 1).bind fun bt49=>(if bt61.2=true then (if bt49.2=true then (some (3,0)) else (some (1,0))) else (if bt49.2=true then (some (2,0)) else (some (1,0)))))) else (some (0,4)))))=some (r1,r2):=by rw [if_pos rfl] at H;exact H
     clear H;have H:=H1;clear H1;obtain ⟨t60,A13,H⟩:=zo H;obtain ⟨t65,A14,H⟩:=zo H;have HC15:=zA H;clear H
     go_upto_if 29 with (first|((with_reducible refine gate_callee (f:=34) rfl ?_);refine zgo 26 Tryz.func34 #[.slice A0 l0.length c0] ?_;(with_reducible refine (ancepsref40_Vars.calls k _ _ l0 t60 _ (zD HR0 HB) HC0.out A13.out).mono ?_);rintro e w16 ⟨v691,rfl,ho0,hb⟩;refine ⟨_,rfl,?_⟩;have HO78:=zA (Kd.R_lower ho0 (below_size zB));replace HB:=zu hb;clear hb;(try clear ho0);obtain ⟨Ao17,co17,eo17⟩:=Kd.R_slice HO78.out;subst eo17)|((with_reducible refine gate_callee (f:=50) rfl ?_);refine zgo 28 Tryz.func50 #[.slice Ao17 t60.length co17,.int .i64 a1] ?_;(with_reducible refine (ancepsref41_has.calls k _ _ t60 a1 t65 _ ?side1 ?side2 A14.out).mono ?_);(case side1=>exact zC (Kd.R_reads' HO78.out).2.2);(case side2=>exact (Kd.R_reads' HO78.out).2.1);rintro e w' ⟨rfl,⟨nd,rfl⟩⟩;refine ⟨_,rfl,?_⟩))
     (try simp only [Act.put,zi,zs,zt]);have H:=HC15.out;clear HC15
     by_cases c18:t65=true
     ·subst c18
      have H1:((ancepsref41_with.f k l0 a1 0).bind fun bt61=>((ancepsref41_with.f k l0 a1 1).bind fun bt49=>(if bt61.2=true then (if bt49.2=true then (some (3,0)) else (some (1,0))) else (if bt49.2=true then (some (2,0)) else (some (1,0))))))=some (r1,r2):=by rw [if_pos rfl] at H;exact H
      clear H;have H:=H1;clear H1;obtain ⟨t61,t94,A19,H⟩:=zO H
      dsimp only at H
      obtain ⟨t49,t84,A20,H⟩:=zO H
      dsimp only at H
      have HC21:=zA H;clear H
      go_upto_region 12 with (first|((with_reducible refine gate_callee (f:=74) rfl ?_);refine zgo 33 Tryz.func74 #[.slice A0 l0.length c0,.int .i64 a1,.int .i64 0] ?_;(with_reducible refine (ancepsref41_with.calls k _ _ l0 a1 0 t61 t94 _ (zD HR0 HB) HC0.out A19.out).mono ?_);rintro e w22 ⟨rfl,hb⟩;refine ⟨_,rfl,?_⟩;replace HO78:=zA (Kd.R_below (zR HO78) hb);replace HB:=zu hb;clear hb)|((with_reducible refine gate_callee (f:=74) rfl ?_);refine zgo 39 Tryz.func74 #[.slice A0 l0.length c0,.int .i64 a1,.int .i64 1] ?_;(with_reducible refine (ancepsref41_with.calls k _ _ l0 a1 1 t49 t84 _ (zD HR0 HB) HC0.out A20.out).mono ?_);rintro e w23 ⟨rfl,hb⟩;refine ⟨_,rfl,?_⟩;replace HO78:=zA (Kd.R_below (zR HO78) hb);replace HB:=zu hb;clear hb))
      (try simp only [Act.put,zi,zs,zt]);have H:=HC21.out;clear HC21
      by_cases c24:t94=true
      ·subst c24
       have H1:(if t84=true then (some (3,0)) else (some (1,0)))=some (r1,r2):=by rw [if_pos rfl] at H;exact H
       clear H;have H:=H1;clear H1
       by_cases c25:t84=true
       ·subst c25
        have H1:(some (3,0))=some (r1,r2):=by rw [if_pos rfl] at H;exact H
        clear H;have H:=H1;clear H1;simp only [Option.some.injEq,Prod.mk.injEq] at H;obtain ⟨rfl,rfl⟩:=H
        go_wp2
        go_ret2
        exact ⟨ze,zv0 HB⟩
       ·replace c25:=Bool.eq_false_iff.mpr c25;subst c25
        have H1:(some (1,0))=some (r1,r2):=by rw [if_neg (show ¬ (false=true) by decide)] at H;exact H
        clear H;have H:=H1;clear H1;simp only [Option.some.injEq,Prod.mk.injEq] at H;obtain ⟨rfl,rfl⟩:=H
        go_wp2
        go_ret2
        exact ⟨ze,zv0 HB⟩
      ·replace c24:=Bool.eq_false_iff.mpr c24;subst c24
       have H1:(if t84=true then (some (2,0)) else (some (1,0)))=some (r1,r2):=by rw [if_neg (show ¬ (false=true) by decide)] at H;exact H
       clear H;have H:=H1;clear H1
       by_cases c26:t84=true
       ·subst c26
        have H1:(some (2,0))=some (r1,r2):=by rw [if_pos rfl] at H;exact H
        clear H;have H:=H1;clear H1;simp only [Option.some.injEq,Prod.mk.injEq] at H;obtain ⟨rfl,rfl⟩:=H
        go_wp2
        go_ret2
        exact ⟨ze,zv0 HB⟩
       ·replace c26:=Bool.eq_false_iff.mpr c26;subst c26
        have H1:(some (1,0))=some (r1,r2):=by rw [if_neg (show ¬ (false=true) by decide)] at H;exact H
        clear H;have H:=H1;clear H1;simp only [Option.some.injEq,Prod.mk.injEq] at H;obtain ⟨rfl,rfl⟩:=H
        go_wp2
        go_ret2
        exact ⟨ze,zv0 HB⟩
     ·replace c18:=Bool.eq_false_iff.mpr c18;subst c18
      have H1:(some (0,4))=some (r1,r2):=by rw [if_neg (show ¬ (false=true) by decide)] at H;exact H
      clear H;have H:=H1;clear H1;simp only [Option.some.injEq,Prod.mk.injEq] at H;obtain ⟨rfl,rfl⟩:=H
      go_wp2
      go_ret2
      exact ⟨ze,zv0 HB⟩
    ·replace c12:=Bool.eq_false_iff.mpr c12;subst c12
     have H1:(some (0,12))=some (r1,r2):=by rw [if_neg (show ¬ (false=true) by decide)] at H;exact H
     clear H;have H:=H1;clear H1;simp only [Option.some.injEq,Prod.mk.injEq] at H;obtain ⟨rfl,rfl⟩:=H
     go_wp2
     go_ret2
     exact ⟨ze,zv0 HB⟩
 ·(first|rw [c6b0]|(simp only [i64_w,i32_w];rw [c6b0])|skip)
  (try rw [c6b1]);simp only [Option.some.injEq,Prod.mk.injEq] at H;obtain ⟨rfl,rfl⟩:=H
  go_wp2
  go_ret2
  exact ⟨ze,zv0 HB⟩
end Go.Proofs.YtngpkbbljnbojaaGreat.L
