import Derived.Test.YtngpkbbljnbojaaGreatA0
import Derived.Test.YtngpkbbljnbojaaGreatA5
import Derived.Test.YtngpkbbljnbojaaGreatA12
namespace Go.Proofs.YtngpkbbljnbojaaGreat.A
open Go.RowKit Go.Proofs.YtngpkbbljnbojaaGreatW.PrintWords Go.Proofs.YtngpkbbljnbojaaGreatW.PrintLast Go.Proofs.YtngpkbbljnbojaaGreatW.PrintMore
attribute [local go_sem] max2_int min2_int max_two min_two max_three min_three max_four min_four Tryz.underlying3 Tryz.underlying43 Tryz.underlying63
set_option linter.unusedVariables false
set_option linter.unusedSimpArgs false
def ancepslaw41_own.l0:Nat→List (S63)→List (S63)→Int→Int→Option ((List (S63)))
 | 0,_,_,_,_=>none
 | k+1,x3,x6,x7,x8=>if x8<x7 then (if 0≤x8 then (if x8<(x6.length:Int) then ((slices_Clone_int_int.f ((rd_T63 x6 x8).f0)).bind fun t31=>((slices_Clone_int_int.f ((rd_T63 x6 x8).f1)).bind fun t33=>(if x3.length<2932031007402 then (ancepslaw41_own.l0 k (x3++[(⟨t31,t33⟩:S63)]) x6 x7 (wrap64 (x8+1))) else (none)))) else (none)) else (none)) else (some x3)
def ancepslaw41_own.f (k:Nat) (l0:List (S63)):Option ((List (S63))):=ancepslaw41_own.l0 k ([]:List (S63)) l0 (l0.length:Int) 0
def ancepslaw41_own.T5:Bool×List (List Nat×List Nat):=(true,[([],[]),([],[]),([1],[1]),([2],[2]),([],[]),([4],[4]),([5,3],[5]),([3,6],[3,6]),([7],[7]),([0,8,6],[0,8]),([9,9,0,1,2,3,4,5,6,7,8,9],[0,9])])
def ancepslaw41_own.B5:List Nat:=[0,0,2,6,0,16,62,126,254,511,1023]
theorem ancepslaw41_own.tab5:rtab .any (opsOf Tryz.f10 5)=ancepslaw41_own.T5:=by kernel_rfl
theorem ancepslaw41_own.bits5:waitsOk ancepslaw41_own.T5.2 ancepslaw41_own.B5=true:=by kernel_rfl
set_option maxHeartbeats 8000000 in
set_option maxRecDepth 100000 in
theorem ancepslaw41_own.calls (k:Nat) (A0:Option Addr) (c0:Nat) (l0:List (S63)) (r:List (S63)) (w:World) (hr0:Kd.C k63 w A0 l0.length l0) (hc0:l0.length≤c0) (h:ancepslaw41_own.f k l0=some r) :
  Calls Tryz.prog 10 #[.slice A0 l0.length c0] w fun e w'=>∃ v0_:Value,e=.returned (v0_)∧Kd.S k63 63 w' w.heap.size (fun _=>True) v0_ r∧Below w.heap.size w w':=by
 have HR0:=zA hr0;have HC0:=zA hc0;clear hr0 hc0;have HB:=zA (Below.refl w.heap.size w);have H:(ancepslaw41_own.l0 k ([]:List (S63)) l0 (l0.length:Int) 0)=some r:=h;clear h;have H':=zA H;clear H
 go_enter Tryz.func10,Tryz.ntmps10
 go_wp2
 go_loopg [3,8] k (fun kq v3 v8 w'=>∃ (x3_1:List (S63)) (x8_1:Int),v8=.int .i64 x8_1∧Aside0 (ancepslaw41_own.l0 kq x3_1 l0 (l0.length:Int) x8_1=some r)∧Aside0 (kq≤k)∧Aside0 (Kd.S k63 63 w' w.heap.size (fun _=>True) v3 x3_1)∧Aside0 (Below w.heap.size w w'))
 case atStart=>exact ⟨(([]:List (S63))),(0),zT,H',⟨Nat.le_refl _⟩,⟨by first|exact Kd.S_nil _ _ _ _ _|exact Kd.N_nil _ _ _ _ _|exact Kd.V_nil _ _ _ _ _|exact Kd.Q_nil _ _ _ _ _|exact Kd.R_nil _ _ _ _ _⟩,⟨zv0 HB⟩⟩
 case round=>
  clear H';obtain ⟨x3_1,x8_1,rfl,HA,HK1,HO_3,HB⟩:=hrel
  cases gk with
  | zero=>exact absurd HA.out (by simp [ancepslaw41_own.l0])
  | succ k1=>
   have H:=HA.out;clear HA;simp only [ancepslaw41_own.l0] at H
   rcases ifd H with ⟨c2b0,H⟩|⟨c2b0,H⟩
   ·obtain ⟨c3b0,H⟩:=ifd1 H;obtain ⟨c4b0,H⟩:=ifd1 H;obtain ⟨t31,A5,H⟩:=zo H;obtain ⟨t33,A6,H⟩:=zo H;obtain ⟨c7,H⟩:=if1 H;have LMc7:=zA c7;clear c7
    first|(replace H:=zyb (x3_1++[(⟨t31,t33⟩:S63)]) H;obtain ⟨y35,Ny35,H⟩:=H)|(obtain ⟨y35,hy35⟩:=zY (x3_1++[(⟨t31,t33⟩:S63)]);(try rw (occs:=.pos [1]) [← hy35] at H);have Ny35:=zA hy35;clear hy35)
    have H':=zA H;clear H;obtain ⟨p23,q23,ad23,A23_0,c23_0,A23_1,c23_1,e23,hx23_0,hx23_1,hl23_0,hi23_0,hl23_1,hi23_1⟩:=zp (at_T63 HR0.out x8_1)
    cases e23
    replace hx23_0:=zd HB hx23_0;replace hx23_1:=zd HB hx23_1;have HR23_0:=zA hi23_0;have HC23_0:=zA hl23_0;clear hi23_0 hl23_0;have HR23_1:=zA hi23_1;have HC23_1:=zA hl23_1;clear hi23_1 hl23_1;replace p23:=eq_true p23;replace q23:=eq_true q23
    try go_wp2_with (first|((with_reducible refine gd 5 rfl ?_);refine zx #[.slice none 0 0,.slice none 0 0] 63 ?_;intro gb24 hg w8 BK24 hb GW24 HB1;have GE24:=GW24;replace HO_3:=zA (Kd.S_below (Kd.S_elderB (zS HO_3) gb24 (Nat.le_of_eq hg.symm)) hb);clear HB hb hg;have HB:=HB1;clear HB1;have hcz9_0:=zc0 BK24;have hcz9_1:=zc1 BK24;have hfz9_0:=zf BK24))
    have n0_:Aside0 (Kd.S k63 63 ((w8.setCell ⟨gb24,0,none⟩ (.slice A23_0 ((rd_T63 l0 x8_1).f0).length c23_0)).setCell ⟨gb24,1,none⟩ (.slice A23_1 ((rd_T63 l0 x8_1).f1).length c23_1)) w.heap.size (fun k_=>k_≠gb24) u3 x3_1):=⟨by (with_reducible repeat (first|apply Kd.S_alloc|apply Kd.S_drewN|apply Kd.S_drew));exact Kd.S_mono (Kd.S_far (p:=⟨gb24,1,none⟩) (Kd.S_far (p:=⟨gb24,0,none⟩) (Kd.S_mono HO_3.out (fun k_ hk=>(⟨hk,hk.2⟩:_∧k_≠gb24))) (fun _ hk=>hk.2) (.slice A23_0 ((rd_T63 l0 x8_1).f0).length c23_0)) (fun _ hk=>hk.2) (.slice A23_1 ((rd_T63 l0 x8_1).f1).length c23_1)) (fun _ hk=>hk.1.2)⟩
    have n1_:Aside0 (((w8.setCell ⟨gb24,0,none⟩ (.slice A23_0 ((rd_T63 l0 x8_1).f0).length c23_0)).setCell ⟨gb24,1,none⟩ (.slice A23_1 ((rd_T63 l0 x8_1).f1).length c23_1)).heap[gb24]?=some (.cells #[.slice A23_0 ((rd_T63 l0 x8_1).f0).length c23_0,.slice A23_1 ((rd_T63 l0 x8_1).f1).length c23_1] 63 (0,0))):=⟨by refine zj ?_;refine blk_put (cs:=#[.slice A23_0 ((rd_T63 l0 x8_1).f0).length c23_0,.slice none 0 0]) ?_ 1 _ rfl;refine zj ?_;refine blk_put (cs:=#[.slice none 0 0,.slice none 0 0]) ?_ 0 _ rfl;refine zj ?_;exact BK24.out⟩
    have n2_:Aside0 (Below w.heap.size w ((w8.setCell ⟨gb24,0,none⟩ (.slice A23_0 ((rd_T63 l0 x8_1).f0).length c23_0)).setCell ⟨gb24,1,none⟩ (.slice A23_1 ((rd_T63 l0 x8_1).f1).length c23_1))):=⟨zv1 HB GE24⟩
    (try clear HO_3);(try clear BK24);(try clear HB)
    generalize ((w8.setCell ⟨gb24,0,none⟩ (.slice A23_0 ((rd_T63 l0 x8_1).f0).length c23_0)).setCell ⟨gb24,1,none⟩ (.slice A23_1 ((rd_T63 l0 x8_1).f1).length c23_1))=w10 at n0_ n1_ n2_ ⊢
    have HO_3:=n0_;have BK24:=n1_;have HB:=n2_;clear n0_ n1_ n2_;replace HO_3:=zA (Kd.S_drew HO_3.out);replace BK24:=zA (blk_drew BK24.out);replace HB:=zA (below_drew1 HB.out);refine start_ (n:=11) (S:=fun w'=>w'.cell? ⟨gb24,0,none⟩=some (.slice A23_0 ((rd_T63 l0 x8_1).f0).length c23_0)∧w'.cell? ⟨gb24,1,none⟩=some (.slice A23_1 ((rd_T63 l0 x8_1).f1).length c23_1)) (ds:=[]) (bz 11 0) zK rfl rfl ⟨zc0 BK24,zc1 BK24⟩ (fun hHeld=>?_);refine with_tabW ancepslaw41_own.tab5 ancepslaw41_own.bits5 (fun HT_ HW_=>?_)
    generalize w10.drew=w11 at HO_3 BK24 HB hHeld ⊢
    refine zP 0 12 (bz 11 1) HT_ ?_;refine zP 1 13 (bz 11 3) HT_ ?_;refine zP 4 16 (bz 11 19) HT_ ?_;refine zQ 2 14 (bz 11 23) HT_ HW_ hHeld ?_;refine zQ 5 17 (bz 11 55) HT_ HW_ hHeld ?_;refine one_ (i:=3) (N:=some 15) (bz 11 63) rfl rfl (one_of HT_.out zK) (by decide) (fun K hK=>?_);refine goes_ Tryz.func38 zK rfl #[.slice A23_0 ((rd_T63 l0 x8_1).f0).length c23_0] (by rfl) rfl rfl zM ?_
    with_reducible refine (slices_Clone_int_int.calls _ _ ((rd_T63 l0 x8_1).f0) t31 _ ?side1 ?side2 A5.out).mono ?_
    (case side1=>exact zC (Kd.C_below HR23_0.out HB.out));(case side2=>exact HC23_0.out);rintro e w12 ⟨v51,rfl,ho0,hb⟩;refine ⟨_,rfl,?_⟩;have HO42:=zA (Kd.R_lower ho0 (below_size zB));replace HO_3:=zA (Kd.S_elder' (zS HO_3) (Kd.R_base ho0) hb);replace BK24:=zw BK24 hb;replace HB:=zu hb;(try clear hb);(try clear hb2);(try clear hk);(try clear hi);(try clear ho0);refine hK.out _ _ ⟨zc0 BK24,zc1 BK24⟩ (fun hHeld=>?_);clear hK K;refine norm_ (a':=?_) ?_ ?_;rotate_left
    ·show Act.put _ (some 15) _=_
     simp only [Act.put,zi,zs,zt,i64_w,i32_w];rfl
    refine one_ (i:=6) (N:=some 18) (bz 11 127) rfl rfl (one_of HT_.out zK) (by decide) (fun K hK=>?_);refine goes_ Tryz.func38 zK rfl #[.slice A23_1 ((rd_T63 l0 x8_1).f1).length c23_1] (by rfl) rfl rfl zM ?_
    with_reducible refine (slices_Clone_int_int.calls _ _ ((rd_T63 l0 x8_1).f1) t33 _ ?side1 ?side2 A6.out).mono ?_
    (case side1=>exact zC (Kd.C_below HR23_1.out HB.out));(case side2=>exact HC23_1.out);rintro e w13 ⟨v52,rfl,ho0,hb⟩;refine ⟨_,rfl,?_⟩;have HO46:=zA (Kd.R_lower (Kd.R_new' ho0 (Kd.R_lt (zR HO42))) (below_size zB));replace HO_3:=zA (Kd.S_elder' (zS HO_3) (Kd.R_base ho0) hb);replace HO42:=zA (Kd.R_elder' (zR HO42) (Kd.R_base ho0) hb);replace BK24:=zw BK24 hb;replace HB:=zu hb;(try clear hb);(try clear hb2);(try clear hk);(try clear hi);(try clear ho0);obtain ⟨Ao14,co14,eo14⟩:=Kd.R_slice HO46.out
    (first|subst eo14|(injection eo14 with f1_ f2_ f3_;have f4_:=f1_.symm;have f5_:=f3_.symm;clear f1_ f2_ f3_;subst f4_;subst f5_))
    obtain ⟨Ao15,co15,eo15⟩:=Kd.R_slice HO42.out
    (first|subst eo15|(injection eo15 with f1_ f2_ f3_;have f4_:=f1_.symm;have f5_:=f3_.symm;clear f1_ f2_ f3_;subst f4_;subst f5_))
    refine hK.out _ _ ⟨zc0 BK24,zc1 BK24⟩ (fun hHeld=>?_);clear hK K;refine norm_ (a':=?_) ?_ ?_;rotate_left
    ·show Act.put _ (some 18) _=_
     simp only [Act.put,zi,zs,zt,i64_w,i32_w];rfl
    refine zP 7 19 (bz 11 255) HT_ ?_;refine one_ (i:=8) (N:=some 20) (bz 11 511) rfl rfl (one_of HT_.out zK) (by decide) (fun K hK=>?_);refine value_ (w1:=?_) (v:=?_) (by rfl) rfl ?_ ?_;rotate_left 2
    ·go_simp
     constructor
     ·rfl
     ·rfl
    refine hK.out _ _ ⟨(blk_cell (blk_alloc BK24.out _) 0).trans rfl,(blk_cell (blk_alloc BK24.out _) 1).trans rfl⟩ (fun hHeld=>?_);clear hK K;refine norm_ (a':=?_) ?_ ?_;rotate_left
    ·show Act.put _ (some 20) _=_
     simp only [Act.put,zi,zs,zt,i64_w,i32_w];rfl
    refine one_ (i:=9) (N:=some 21) (bz 11 1023) rfl rfl (one_of HT_.out zK) (by decide) (fun K hK=>?_);refine Kd.S_append_step k63 (w0:=w) w.heap.size (by rfl) (.tmp 12) (.tmp 20) 22 63 (.agg #[(.slice none 0 0),(.slice none 0 0)]) 48 rfl Tryz.underlying22 info63 rfl (by decide) (by omega) u3 x3_1 (⟨t31,t33⟩:S63) [.slice Ao15 t31.length co15,.slice Ao14 t33.length co14] (fun k_=>k_≠gb24) (fun k_=>some k_=(.slice Ao15 t31.length co15:Value).ownBlock∨some k_=(.slice Ao14 t33.length co14:Value).ownBlock) rfl rfl ?aP (fun k_ hk_=>hk_.elim (fun h_=>((Kd.R_mono (ok':=fun k_=>((fun k_=>k_≠gb24)) k_∧some k_≠(u3:Value).ownBlock) (Kd.R_types (Kd.R_apart' (HO42.out) (Kd.S_typed HO_3.out) (by decide)) BK24.out (by decide)) (fun k_ hk=>⟨hk.2,hk.1.2⟩))).1 k_ h_.symm) (fun h_=>((Kd.R_mono (ok':=fun k_=>((fun k_=>k_≠gb24)) k_∧some k_≠(u3:Value).ownBlock) (Kd.R_types (Kd.R_apart' (HO46.out) (Kd.S_typed HO_3.out) (by decide)) BK24.out (by decide)) (fun k_ hk=>⟨hk.2,hk.1.2⟩))).1 k_ h_.symm)) ?aF ?aO ?aB ?aS ?aL ?_;(case aP=>exact k63_mkM _ _ _ (⟨t31,t33⟩:S63) (Kd.R_mono (Kd.R_tight rfl (Kd.R_mono (ok':=fun k_=>((fun k_=>k_≠gb24)) k_∧some k_≠(u3:Value).ownBlock) (Kd.R_types (Kd.R_apart' (HO42.out) (Kd.S_typed HO_3.out) (by decide)) BK24.out (by decide)) (fun k_ hk=>⟨hk.2,hk.1.2⟩))) (fun _ h_=>Or.inl h_)) (Kd.R_mono (Kd.R_tight rfl (Kd.R_mono (ok':=fun k_=>((fun k_=>k_≠gb24)) k_∧some k_≠(u3:Value).ownBlock) (Kd.R_types (Kd.R_apart' (HO46.out) (Kd.S_typed HO_3.out) (by decide)) BK24.out (by decide)) (fun k_ hk=>⟨hk.2,hk.1.2⟩))) (fun _ h_=>Or.inr (h_))));(case aB=>exact zB);(case aF=>exact (fun k_ hk=>Kd.freshB (g:=gb24) (o:=.cells #[.slice A23_0 ((rd_T63 l0 x8_1).f0).length c23_0,.slice A23_1 ((rd_T63 l0 x8_1).f1).length c23_1] 63 (0,0)) (zk BK24) k_ hk));(case aO=>exact (by (with_reducible repeat (first|apply Kd.S_alloc|apply Kd.S_drewN|apply Kd.S_drew));exact Kd.S_mono HO_3.out (fun k_ hk=>⟨hk.1.1,fun e_=>e_.elim (fun h_=>hk.1.2 h_) (fun h_=>hk.2 h_)⟩)));(case aS=>exact (below_size zB));(case aL=>have:=LMc7.out;omega);intro v53 w16 ho hb hg hat;rw [← Ny35.out] at ho;have HO48:=zA (ho);replace BK24:=zA (blk_grown (g:=gb24) (o:=.cells #[.slice A23_0 ((rd_T63 l0 x8_1).f0).length c23_0,.slice A23_1 ((rd_T63 l0 x8_1).f1).length c23_1] 63 (0,0)) (zk BK24) hg (Kd.S_away HO_3.out (fun _ hk=>hk.1.1)));replace HB:=zA (hb);clear HO_3 HO42 HO46;clear ho hb hg hat;refine hK.out _ _ ⟨zc0 BK24,zc1 BK24⟩ (fun hHeld=>?_);clear hK K;refine norm_ (a':=?_) ?_ ?_;rotate_left
    ·show Act.put _ (some 21) _=_
     simp only [Act.put,zi,zs,zt,i64_w,i32_w];rfl
    refine zP 10 3 (bz 11 2047) HT_ ?_;refine done_ (done_of HT_.out zK) ?_
    try go_wp2
    go_roundg k1
    case measure=>have:=HK1.out;omega
    case rel=>exact ⟨(y35),(wrap64 (x8_1+1)),zT,H',⟨by have:=HK1.out;omega⟩,⟨by (with_reducible repeat (first|apply Kd.S_alloc|apply Kd.S_drewN|apply Kd.S_drew));exact Kd.S_mono HO48.out (fun _ hk=>trivial)⟩,⟨zv1 HB GE24⟩⟩
   ·obtain rfl:=Option.some.inj H
    go_wp2
    go_ret
    exact ⟨_,ze,by (with_reducible repeat (first|apply Kd.S_alloc|apply Kd.S_drewN|apply Kd.S_drew));exact HO_3.out,zv0 HB⟩
def ancepsref38_Assignment.l0:Nat→List Int→Int→Int→Int→Option (Int)
 | 0,_,_,_,_=>none
 | k+1,x0,x1,x5,x6=>if x6<(x0.length:Int) then (if 0≤x6 then (if 0≤(rd x0 x6) then (ancepsref38_Assignment.l0 k x0 x1 (wrap64 (x5+(shl .i64 (Int.tmod (shr .i64 x1 x6) 2) (rd x0 x6)))) (wrap64 (x6+1))) else (none)) else (none)) else (some x5)
def ancepsref38_Assignment.f (k:Nat) (l0:List Int) (a1:Int):Option (Int):=ancepsref38_Assignment.l0 k l0 a1 0 0
set_option maxHeartbeats 8000000 in
set_option maxRecDepth 100000 in
theorem ancepsref38_Assignment.calls (k:Nat) (A0:Option Addr) (c0:Nat) (l0:List Int) (a1:Int) (r:Int) (w:World) (hr0:Kd.C (Kd.int .i64) w A0 l0.length l0) (hc0:l0.length≤c0) (h:ancepsref38_Assignment.f k l0 a1=some r) :
  Calls Tryz.prog 89 #[.slice A0 l0.length c0,.int .i64 a1] w fun e w'=>e=.returned (.int .i64 r)∧Drawn0 w w':=by
 have HR0:=zA hr0;have HC0:=zA hc0;clear hr0 hc0;have H:(ancepsref38_Assignment.l0 k l0 a1 0 0)=some r:=h;clear h;have H':=zA H;clear H
 go_enter Tryz.func89,Tryz.ntmps89
 go_wp2
 repeat (go_quiet (fail);try go_wp2)
 go_loopg [5,6] k (fun kq v5 v6 w'=>∃ (x5_1:Int) (x6_1:Int),v5=.int .i64 x5_1∧v6=.int .i64 x6_1∧Aside0 (ancepsref38_Assignment.l0 kq l0 a1 x5_1 x6_1=some r)∧Aside0 (kq≤k)∧Drawn0 w w')
 case atStart=>exact ⟨(0),(0),zT,zT,H',⟨Nat.le_refl _⟩,by repeat (first|exact Drawn0.refl _|apply Drawn0.step)⟩
 case round=>
  clear H';obtain ⟨x5_1,x6_1,rfl,rfl,HA,HK1,⟨m1,rfl⟩⟩:=hrel
  cases gk with
  | zero=>exact absurd HA.out (by simp [ancepsref38_Assignment.l0])
  | succ k1=>
   have H:=HA.out;clear HA;simp only [ancepsref38_Assignment.l0] at H
   rcases ifd H with ⟨c3b0,H⟩|⟨c3b0,H⟩
   ·obtain ⟨c4,H⟩:=if1 H;have c4b0:=eq_true c4;have c4b1:decide (0≤x6_1)=true:=decide_eq_true c4;clear c4;obtain ⟨ji5,hji5⟩:=zZ (shr .i64 a1 x6_1)
    first|rw [hji5] at H|simp only [hji5] at H
    have hji5_:(a1 / 2 ^ min x6_1.toNat 64)=ji5:=hji5;have hji5z:x6_1≤64→(a1 / 2 ^ x6_1.toNat)=ji5:=shr_small hji5;obtain ⟨c6,H⟩:=if1 H;have c6b0:=eq_true c6;have c6b1:decide (0≤(rd l0 x6_1))=true:=decide_eq_true c6;clear c6;obtain ⟨ji7,hji7⟩:=zZ (shl .i64 (Int.tmod (ji5) 2) (rd l0 x6_1))
    first|rw [hji7] at H|simp only [hji7] at H
    have hji7_:(IntKind.i64.wrap ((Int.tmod (ji5) 2) * 2 ^ min (rd l0 x6_1).toNat 64))=ji7:=hji7;have hji7z:(rd l0 x6_1)≤64→(IntKind.i64.wrap ((Int.tmod (ji5) 2) * 2 ^ (rd l0 x6_1).toNat))=ji7:=shl_small hji7;have hji7y:(wrap64 ((Int.tmod (ji5) 2) * 2 ^ min (rd l0 x6_1).toNat 64))=ji7:=(i64_w _).symm.trans hji7_
    have hji7x:(rd l0 x6_1)≤64→(wrap64 ((Int.tmod (ji5) 2) * 2 ^ (rd l0 x6_1).toNat))=ji7:=fun h_=>(i64_w _).symm.trans (hji7z h_)
    have H':=zA H;clear H;obtain ⟨p36,q36,ad36,e36,hx36_0⟩:=zp (Kd.at_int HR0.out x6_1)
    cases e36
    replace p36:=eq_true p36;replace q36:=eq_true q36
    go_wp2
    repeat (go_quiet (fail);try go_wp2)
    go_roundg k1
    case measure=>have:=HK1.out;omega
    case rel=>exact ⟨(wrap64 (x5_1+(ji7))),(wrap64 (x6_1+1)),(by first|rfl|(simp;done)|(simp only [← hji7] <;> (first|rfl|simp))|(simp [*];done)),zT,H',⟨by have:=HK1.out;omega⟩,by repeat (first|exact Drawn0.refl _|apply Drawn0.step)⟩
   ·obtain rfl:=Option.some.inj H
    go_wp2
    repeat (go_quiet (fail);try go_wp2)
    go_ret
    exact ⟨by first|rfl|(simp;done)|(simp [*];done),by repeat (first|exact Drawn0.refl _|apply Drawn0.step)⟩
def ancepsref38_in.l0:Nat→List Int→Int→Int→Option (Bool)
 | 0,_,_,_=>none
 | k+1,x0,x1,x5=>if x5<(x0.length:Int) then (if 0≤x5 then (if (rd x0 x5)=x1 then (some true) else (ancepsref38_in.l0 k x0 x1 (wrap64 (x5+1)))) else (none)) else (some false)
def ancepsref38_in.f (k:Nat) (l0:List Int) (a1:Int):Option (Bool):=ancepsref38_in.l0 k l0 a1 0
set_option maxHeartbeats 8000000 in
set_option maxRecDepth 100000 in
theorem ancepsref38_in.calls (k:Nat) (A0:Option Addr) (c0:Nat) (l0:List Int) (a1:Int) (r:Bool) (w:World) (hr0:Kd.C (Kd.int .i64) w A0 l0.length l0) (hc0:l0.length≤c0) (h:ancepsref38_in.f k l0 a1=some r) :
  Calls Tryz.prog 88 #[.slice A0 l0.length c0,.int .i64 a1] w fun e w'=>e=.returned (.bool r)∧Drawn0 w w':=by
 have HR0:=zA hr0;have HC0:=zA hc0;clear hr0 hc0;have H:(ancepsref38_in.l0 k l0 a1 0)=some r:=h;clear h;have H':=zA H;clear H
 go_enter Tryz.func88,Tryz.ntmps88
 go_wp2
 go_loopg [5] k (fun kq v5 w'=>∃ (x5_1:Int),v5=.int .i64 x5_1∧Aside0 (ancepsref38_in.l0 kq l0 a1 x5_1=some r)∧Aside0 (kq≤k)∧Drawn0 w w')
 case atStart=>exact ⟨(0),zT,H',⟨Nat.le_refl _⟩,by repeat (first|exact Drawn0.refl _|apply Drawn0.step)⟩
 case round=>
  clear H';obtain ⟨x5_1,rfl,HA,HK1,⟨m1,rfl⟩⟩:=hrel
  cases gk with
  | zero=>exact absurd HA.out (by simp [ancepsref38_in.l0])
  | succ k1=>
   have H:=HA.out;clear HA;simp only [ancepsref38_in.l0] at H
   rcases ifd H with ⟨c3b0,H⟩|⟨c3b0,H⟩
   ·obtain ⟨c4b0,H⟩:=ifd1 H
    rcases ife H with ⟨c5b0,c5b1,H⟩|⟨c5,c5b0,c5b1,H⟩
    ·obtain rfl:=Option.some.inj H;obtain ⟨p28,q28,ad28,e28,hx28_0⟩:=zp (Kd.at_int HR0.out x5_1)
     cases e28
     replace p28:=eq_true p28;replace q28:=eq_true q28
     go_wp2
     go_ret
     exact ⟨by first|rfl|(simp;done)|(simp [*];done),by repeat (first|exact Drawn0.refl _|apply Drawn0.step)⟩
    ·have H':=zA H;clear H;obtain ⟨p28,q28,ad28,e28,hx28_0⟩:=zp (Kd.at_int HR0.out x5_1)
     cases e28
     replace p28:=eq_true p28;replace q28:=eq_true q28
     go_wp2
     go_roundg k1
     case measure=>have:=HK1.out;omega
     case rel=>exact ⟨(wrap64 (x5_1+1)),zT,H',⟨by have:=HK1.out;omega⟩,by repeat (first|exact Drawn0.refl _|apply Drawn0.step)⟩
   ·obtain rfl:=Option.some.inj H
    go_wp2
    go_ret
    exact ⟨by first|rfl|(simp;done)|(simp [*];done),by repeat (first|exact Drawn0.refl _|apply Drawn0.step)⟩
def ancepsref38_Row.l0:Nat→List Int→Int→Int→Int→Option (Int)
 | 0,_,_,_,_=>none
 | k+1,x0,x1,x5,x6=>if x6<(x0.length:Int) then (if 0≤x6 then (if 0≤(rd x0 x6) then (ancepsref38_Row.l0 k x0 x1 (wrap64 (x5+(shl .i64 (Int.tmod (shr .i64 x1 (rd x0 x6)) 2) x6))) (wrap64 (x6+1))) else (none)) else (none)) else (some x5)
def ancepsref38_Row.f (k:Nat) (l0:List Int) (a1:Int):Option (Int):=ancepsref38_Row.l0 k l0 a1 0 0
set_option maxHeartbeats 8000000 in
set_option maxRecDepth 100000 in
theorem ancepsref38_Row.calls (k:Nat) (A0:Option Addr) (c0:Nat) (l0:List Int) (a1:Int) (r:Int) (w:World) (hr0:Kd.C (Kd.int .i64) w A0 l0.length l0) (hc0:l0.length≤c0) (h:ancepsref38_Row.f k l0 a1=some r) :
  Calls Tryz.prog 116 #[.slice A0 l0.length c0,.int .i64 a1] w fun e w'=>e=.returned (.int .i64 r)∧Drawn0 w w':=by
 have HR0:=zA hr0;have HC0:=zA hc0;clear hr0 hc0;have H:(ancepsref38_Row.l0 k l0 a1 0 0)=some r:=h;clear h;have H':=zA H;clear H
 go_enter Tryz.func116,Tryz.ntmps116
 go_wp2
 go_loopg [5,6] k (fun kq v5 v6 w'=>∃ (x5_1:Int) (x6_1:Int),v5=.int .i64 x5_1∧v6=.int .i64 x6_1∧Aside0 (ancepsref38_Row.l0 kq l0 a1 x5_1 x6_1=some r)∧Aside0 (kq≤k)∧Drawn0 w w')
 case atStart=>exact ⟨(0),(0),zT,zT,H',⟨Nat.le_refl _⟩,by repeat (first|exact Drawn0.refl _|apply Drawn0.step)⟩
 case round=>
  clear H';obtain ⟨x5_1,x6_1,rfl,rfl,HA,HK1,⟨m1,rfl⟩⟩:=hrel
  cases gk with
  | zero=>exact absurd HA.out (by simp [ancepsref38_Row.l0])
  | succ k1=>
   have H:=HA.out;clear HA;simp only [ancepsref38_Row.l0] at H
   rcases ifd H with ⟨c3b0,H⟩|⟨c3b0,H⟩
   ·obtain ⟨c4b0,H⟩:=ifd1 H;obtain ⟨c5,H⟩:=if1 H;have c5b0:=eq_true c5;have c5b1:decide (0≤(rd l0 x6_1))=true:=decide_eq_true c5;clear c5;obtain ⟨ji6,hji6⟩:=zZ (shr .i64 a1 (rd l0 x6_1))
    first|rw [hji6] at H|simp only [hji6] at H
    have hji6_:(a1 / 2 ^ min (rd l0 x6_1).toNat 64)=ji6:=hji6;have hji6z:(rd l0 x6_1)≤64→(a1 / 2 ^ (rd l0 x6_1).toNat)=ji6:=shr_small hji6;have c7b0:=eq_true (of_decide_eq_true zh:0≤x6_1);obtain ⟨ji8,hji8⟩:=zZ (shl .i64 (Int.tmod (ji6) 2) x6_1)
    first|rw [hji8] at H|simp only [hji8] at H
    have hji8_:(IntKind.i64.wrap ((Int.tmod (ji6) 2) * 2 ^ min x6_1.toNat 64))=ji8:=hji8;have hji8z:x6_1≤64→(IntKind.i64.wrap ((Int.tmod (ji6) 2) * 2 ^ x6_1.toNat))=ji8:=shl_small hji8;have hji8y:(wrap64 ((Int.tmod (ji6) 2) * 2 ^ min x6_1.toNat 64))=ji8:=(i64_w _).symm.trans hji8_
    have hji8x:x6_1≤64→(wrap64 ((Int.tmod (ji6) 2) * 2 ^ x6_1.toNat))=ji8:=fun h_=>(i64_w _).symm.trans (hji8z h_)
    have H':=zA H;clear H;obtain ⟨p37,q37,ad37,e37,hx37_0⟩:=zp (Kd.at_int HR0.out x6_1)
    cases e37
    replace p37:=eq_true p37;replace q37:=eq_true q37
    go_wp2
    go_roundg k1
    case measure=>have:=HK1.out;omega
    case rel=>exact ⟨(wrap64 (x5_1+(ji8))),(wrap64 (x6_1+1)),(by first|rfl|(simp;done)|(simp only [← hji8] <;> (first|rfl|simp))|(simp [*];done)),zT,H',⟨by have:=HK1.out;omega⟩,by repeat (first|exact Drawn0.refl _|apply Drawn0.step)⟩
   ·obtain rfl:=Option.some.inj H
    go_wp2
    go_ret
    exact ⟨by first|rfl|(simp;done)|(simp [*];done),by repeat (first|exact Drawn0.refl _|apply Drawn0.step)⟩
def ancepsref38_Holds.f (k:Nat) (l0_0:List Int) (l0_1:List Int) (a1:Int):Option (Bool):=(ancepsref38_Row.f k l0_0 a1).bind fun t30=>((ancepsref38_in.f k l0_1 t30).bind fun t44=>(some t44))
set_option maxHeartbeats 8000000 in
set_option maxRecDepth 100000 in
theorem ancepsref38_Holds.calls (k:Nat) (A0_0:Option Addr) (c0_0:Nat) (l0_0:List Int) (A0_1:Option Addr) (c0_1:Nat) (l0_1:List Int) (a1:Int) (r:Bool) (w:World) (hr0_0:Kd.C (Kd.int .i64) w A0_0 l0_0.length l0_0) (hc0_0:l0_0.length≤c0_0) (hr0_1:Kd.C (Kd.int .i64) w A0_1 l0_1.length l0_1) (hc0_1:l0_1.length≤c0_1) (h:ancepsref38_Holds.f k l0_0 l0_1 a1=some r) :
  Calls Tryz.prog 93 #[.agg #[.slice A0_0 l0_0.length c0_0,.slice A0_1 l0_1.length c0_1],.int .i64 a1] w fun e w'=>e=.returned (.bool r)∧Below w.heap.size w w':=by
 have HR0_0:=zA hr0_0;have HC0_0:=zA hc0_0;clear hr0_0 hc0_0;have HR0_1:=zA hr0_1;have HC0_1:=zA hc0_1;clear hr0_1 hc0_1;have HB:=zA (Below.refl w.heap.size w);have H:((ancepsref38_Row.f k l0_0 a1).bind fun t30=>((ancepsref38_in.f k l0_1 t30).bind fun t44=>(some t44)))=some r:=h;clear h;obtain ⟨t30,A3,H⟩:=zo H;obtain ⟨t44,A4,H⟩:=zo H;obtain rfl:=Option.some.inj H
 go_enter Tryz.func93,Tryz.ntmps93
 go_wp2_with (first|((with_reducible refine gd 2 rfl ?_);refine zx #[.slice A0_0 l0_0.length c0_0,.slice A0_1 l0_1.length c0_1] 63 ?_;intro gb27 hg w5 BK27 hb GW27 HB1;have GE27:=GW27;clear HB hb hg;have HB:=HB1;clear HB1;have hcz6_0:=zc0 BK27;have hcz6_1:=zc1 BK27;have hfz6_0:=zf BK27)|(go_at_call 116;(with_reducible refine (ancepsref38_Row.calls k _ _ l0_0 a1 t30 _ (zD HR0_0 HB) HC0_0.out A3.out).mono ?_);rintro e w' ⟨rfl,⟨nd,rfl⟩⟩;(try first|exact ⟨rfl,_,World.drewN_drewN _ _ _⟩|exact ⟨rfl,_,Eq.trans (World.drewN_drewN _ _ _) (congrArg (World.drewN _) (Nat.add_assoc _ _ _))⟩))|(go_at_call 88;(with_reducible refine (ancepsref38_in.calls k _ _ l0_1 t30 t44 _ ?side1 HC0_1.out A4.out).mono ?_);(case side1=>repeat (first|exact (Kd.C_below HR0_1.out zB)|(with_reducible refine Kd.C_alloc ?_ _)|(with_reducible refine Kd.C_drewN ?_ _)|(with_reducible refine Kd.C_drew ?_)));rintro e w' ⟨rfl,⟨nd,rfl⟩⟩;(try first|exact ⟨rfl,_,World.drewN_drewN _ _ _⟩|exact ⟨rfl,_,Eq.trans (World.drewN_drewN _ _ _) (congrArg (World.drewN _) (Nat.add_assoc _ _ _))⟩)))
 repeat (go_quiet (first|((with_reducible refine gd 2 rfl ?_);refine zx #[.slice A0_0 l0_0.length c0_0,.slice A0_1 l0_1.length c0_1] 63 ?_;intro gb27 hg w5 BK27 hb GW27 HB1;have GE27:=GW27;clear HB hb hg;have HB:=HB1;clear HB1;have hcz6_0:=zc0 BK27;have hcz6_1:=zc1 BK27;have hfz6_0:=zf BK27)|(go_at_call 116;(with_reducible refine (ancepsref38_Row.calls k _ _ l0_0 a1 t30 _ (zD HR0_0 HB) HC0_0.out A3.out).mono ?_);rintro e w' ⟨rfl,⟨nd,rfl⟩⟩;(try first|exact ⟨rfl,_,World.drewN_drewN _ _ _⟩|exact ⟨rfl,_,Eq.trans (World.drewN_drewN _ _ _) (congrArg (World.drewN _) (Nat.add_assoc _ _ _))⟩))|(go_at_call 88;(with_reducible refine (ancepsref38_in.calls k _ _ l0_1 t30 t44 _ ?side1 HC0_1.out A4.out).mono ?_);(case side1=>repeat (first|exact (Kd.C_below HR0_1.out zB)|(with_reducible refine Kd.C_alloc ?_ _)|(with_reducible refine Kd.C_drewN ?_ _)|(with_reducible refine Kd.C_drew ?_)));rintro e w' ⟨rfl,⟨nd,rfl⟩⟩;(try first|exact ⟨rfl,_,World.drewN_drewN _ _ _⟩|exact ⟨rfl,_,Eq.trans (World.drewN_drewN _ _ _) (congrArg (World.drewN _) (Nat.add_assoc _ _ _))⟩)));try go_wp2_with (first|((with_reducible refine gd 2 rfl ?_);refine zx #[.slice A0_0 l0_0.length c0_0,.slice A0_1 l0_1.length c0_1] 63 ?_;intro gb27 hg w5 BK27 hb GW27 HB1;have GE27:=GW27;clear HB hb hg;have HB:=HB1;clear HB1;have hcz6_0:=zc0 BK27;have hcz6_1:=zc1 BK27;have hfz6_0:=zf BK27)|(go_at_call 116;(with_reducible refine (ancepsref38_Row.calls k _ _ l0_0 a1 t30 _ (zD HR0_0 HB) HC0_0.out A3.out).mono ?_);rintro e w' ⟨rfl,⟨nd,rfl⟩⟩;(try first|exact ⟨rfl,_,World.drewN_drewN _ _ _⟩|exact ⟨rfl,_,Eq.trans (World.drewN_drewN _ _ _) (congrArg (World.drewN _) (Nat.add_assoc _ _ _))⟩))|(go_at_call 88;(with_reducible refine (ancepsref38_in.calls k _ _ l0_1 t30 t44 _ ?side1 HC0_1.out A4.out).mono ?_);(case side1=>repeat (first|exact (Kd.C_below HR0_1.out zB)|(with_reducible refine Kd.C_alloc ?_ _)|(with_reducible refine Kd.C_drewN ?_ _)|(with_reducible refine Kd.C_drew ?_)));rintro e w' ⟨rfl,⟨nd,rfl⟩⟩;(try first|exact ⟨rfl,_,World.drewN_drewN _ _ _⟩|exact ⟨rfl,_,Eq.trans (World.drewN_drewN _ _ _) (congrArg (World.drewN _) (Nat.add_assoc _ _ _))⟩))))
 go_ret
 exact ⟨ze,zv1 HB GE27⟩
mutual
def ancepsref40_solutions.l0:Nat→List (S63)→Int→List Int→List Int→Int→Option (List Int)
 | 0,_,_,_,_,_=>none
 | k+1,x0,x1,x5,x6,x7=>if x7<(shl .i64 1 (x5.length:Int)) then (if (x6.length:Int)<x1 then ((ancepsref38_Assignment.f k x5 x7).bind fun t29=>(ancepsref40_solutions.l1 k x0 x1 x5 x6 x7 t29 true 0)) else (some x6)) else (some x6)
def ancepsref40_solutions.l1:Nat→List (S63)→Int→List Int→List Int→Int→Int→Bool→Int→Option (List Int)
 | 0,_,_,_,_,_,_,_,_=>none
 | k+1,x0,x1,x5,x6,x7,x8,x9,x10=>if x10<(x0.length:Int) then (if x9=true then (if 0≤x10 then ((ancepsref38_Holds.f k ((rd_T63 x0 x10).f0) ((rd_T63 x0 x10).f1) x8).bind fun t45=>(ancepsref40_solutions.l1 k x0 x1 x5 x6 x7 x8 t45 (wrap64 (x10+1)))) else (none)) else (ancepsref40_solutions.l0 k x0 x1 x5 x6 (wrap64 (x7+1)))) else (if x9=true then (if x6.length<17592186044416 then (ancepsref40_solutions.l0 k x0 x1 x5 (x6++[x8]) (wrap64 (x7+1))) else (none)) else (ancepsref40_solutions.l0 k x0 x1 x5 x6 (wrap64 (x7+1))))
end
def ancepsref40_solutions.f (k:Nat) (l0:List (S63)) (a1:Int):Option (List Int):=(ancepsref40_Vars.f k l0).bind fun t26=>(ancepsref40_solutions.l0 k l0 a1 t26 ([]:List Int) 0)
set_option maxHeartbeats 8000000 in
set_option maxRecDepth 100000 in
theorem ancepsref40_solutions.calls (k:Nat) (A0:Option Addr) (c0:Nat) (l0:List (S63)) (a1:Int) (r:List Int) (w:World) (hr0:Kd.C k63 w A0 l0.length l0) (hc0:l0.length≤c0) (h:ancepsref40_solutions.f k l0 a1=some r) :
  Calls Tryz.prog 54 #[.slice A0 l0.length c0,.int .i64 a1] w fun e w'=>∃ v0_:Value,e=.returned (v0_)∧Kd.R (Kd.int .i64) 3 w' w.heap.size (fun _=>True) v0_ r∧Below w.heap.size w w':=by
 have HR0:=zA hr0;have HC0:=zA hc0;clear hr0 hc0;have HB:=zA (Below.refl w.heap.size w);have H:((ancepsref40_Vars.f k l0).bind fun t26=>(ancepsref40_solutions.l0 k l0 a1 t26 ([]:List Int) 0))=some r:=h;clear h;obtain ⟨t26,A3,H⟩:=zo H;have H':=zA H;clear H
 go_enter Tryz.func54,Tryz.ntmps54
 go_wp2_with (first|((with_reducible refine gate_callee (f:=34) rfl ?_);refine zgo 12 Tryz.func34 #[.slice A0 l0.length c0] ?_;(with_reducible refine (ancepsref40_Vars.calls k _ _ l0 t26 _ ?side1 HC0.out A3.out).mono ?_);(case side1=>repeat (first|exact HR0.out|(with_reducible refine Kd.C_alloc ?_ _)|(with_reducible refine Kd.C_drewN ?_ _)|(with_reducible refine Kd.C_drew ?_)));rintro e w4 ⟨v47,rfl,ho0,hb⟩;refine ⟨_,rfl,?_⟩;have HO49:=zA (Kd.R_lower ho0 (below_size zB));replace HB:=zu hb;clear hb;(try clear ho0)))
 go_loopg [6,7] k (fun kq v6 v7 w'=>∃ (x6_1:List Int) (x7_1:Int),v7=.int .i64 x7_1∧Aside0 (ancepsref40_solutions.l0 kq l0 a1 t26 x6_1 x7_1=some r)∧Aside0 (kq≤k)∧Aside0 (Kd.R (Kd.int .i64) 3 w' w.heap.size (fun k_=>some k_≠(v6:Value).ownBlock) v47 t26)∧Aside0 (Kd.R (Kd.int .i64) 3 w' w.heap.size (fun k_=>some k_≠(v47:Value).ownBlock) v6 x6_1)∧Aside0 (Below w.heap.size w w'))
 case atStart=>exact ⟨(([]:List Int)),(0),zT,H',⟨Nat.le_refl _⟩,⟨by refine zr ?_;exact Kd.R_mono HO49.out (fun _ hk=>(by simp [Value.ownBlock]))⟩,⟨by first|exact Kd.R_nil _ _ _ _ _|exact Kd.N_nil _ _ _ _ _|exact Kd.V_nil _ _ _ _ _|exact Kd.Q_nil _ _ _ _ _|exact Kd.S_nil _ _ _ _ _⟩,⟨zv0 HB⟩⟩
 case round=>
  clear H';obtain ⟨x6_1,x7_1,rfl,HA,HK1,HO_5,HO_6,HB⟩:=hrel
  cases gk with
  | zero=>exact absurd HA.out (by simp [ancepsref40_solutions.l0])
  | succ k1=>
   have H:=HA.out;clear HA;simp only [ancepsref40_solutions.l0] at H;obtain ⟨ji5,hji5⟩:=zZ (shl .i64 1 (t26.length:Int))
   first|rw [hji5] at H|simp only [hji5] at H
   have hji5_:(IntKind.i64.wrap (1 * 2 ^ min (t26.length:Int).toNat 64))=ji5:=hji5;have hji5z:(t26.length:Int)≤64→(IntKind.i64.wrap (1 * 2 ^ (t26.length:Int).toNat))=ji5:=shl_small hji5;have hji5p:(IntKind.i64.wrap (1 * 2 ^ min t26.length 64))=ji5:=hji5_;have hji5q:(t26.length:Int)≤64→(IntKind.i64.wrap (1 * 2 ^ t26.length))=ji5:=hji5z
   have hji5r:(IntKind.i64.wrap (2 ^ min t26.length 64))=ji5:=by have h_:=hji5p;rw [Int.one_mul] at h_;exact h_
   have hji5s:(t26.length:Int)≤64→(IntKind.i64.wrap (2 ^ t26.length))=ji5:=fun hle_=>by have h_:=hji5q hle_;rw [Int.one_mul] at h_;exact h_
   have hji5u:(IntKind.i64.wrap (2 ^ min (t26.length:Int).toNat 64))=ji5:=by have h_:=hji5_;rw [Int.one_mul] at h_;exact h_
   have hji5v:(t26.length:Int)≤64→(IntKind.i64.wrap (2 ^ (t26.length:Int).toNat))=ji5:=fun hle_=>by have h_:=hji5z hle_;rw [Int.one_mul] at h_;exact h_
   have hji5y:(wrap64 (1 * 2 ^ min (t26.length:Int).toNat 64))=ji5:=(i64_w _).symm.trans hji5_
   have hji5x:(t26.length:Int)≤64→(wrap64 (1 * 2 ^ (t26.length:Int).toNat))=ji5:=fun h_=>(i64_w _).symm.trans (hji5z h_)
   rcases ifd H with ⟨c6b0,H⟩|⟨c6b0,H⟩
   ·rcases ifd H with ⟨c7b0,H⟩|⟨c7b0,H⟩
    ·obtain ⟨t29,A8,H⟩:=zo H;have H':=zA H;clear H;obtain ⟨Ao9,co9,eo9⟩:=Kd.R_slice HO_5.out;subst eo9;obtain ⟨Ao10,co10,eo10⟩:=Kd.R_slice HO_6.out;subst eo10
     go_wp2_with (first|((with_reducible refine gate_callee (f:=89) rfl ?_);refine zgo 28 Tryz.func89 #[.slice Ao9 t26.length co9,.int .i64 x7_1] ?_;(with_reducible refine (ancepsref38_Assignment.calls k1 _ _ t26 x7_1 t29 _ ?side1 ?side2 A8.out).mono ?_);(case side1=>exact zC (Kd.R_reads' HO_5.out).2.2);(case side2=>exact (Kd.R_reads' HO_5.out).2.1);rintro e w' ⟨rfl,⟨nd,rfl⟩⟩;refine ⟨_,rfl,?_⟩))
     go_loopg [9,10] k1 (fun kq v9 v10 w'=>∃ (x9_2:Bool) (x10_2:Int),v9=.bool x9_2∧v10=.int .i64 x10_2∧Aside0 (ancepsref40_solutions.l1 kq l0 a1 t26 x6_1 x7_1 t29 x9_2 x10_2=some r)∧Aside0 (kq≤k1)∧Aside0 (Kd.R (Kd.int .i64) 3 w' w.heap.size (fun k_=>some k_≠((.slice Ao10 x6_1.length co10):Value).ownBlock) (.slice Ao9 t26.length co9) t26)∧Aside0 (Kd.R (Kd.int .i64) 3 w' w.heap.size (fun k_=>some k_≠((.slice Ao9 t26.length co9):Value).ownBlock) (.slice Ao10 x6_1.length co10) x6_1)∧Aside0 (Below w.heap.size w w'))
     case atStart=>exact ⟨(true),(0),zT,zT,H',⟨Nat.le_refl _⟩,⟨by refine zr ?_;exact HO_5.out⟩,⟨by refine zr ?_;exact HO_6.out⟩,⟨zv0 HB⟩⟩
     case round=>
      clear H'
      try clear c6
      try clear c6b0
      try clear c7
      try clear c7b0
      obtain ⟨x9_2,x10_2,rfl,rfl,HA,HK2,HO_5,HO_6,HB⟩:=hrel
      cases gk with
      | zero=>exact absurd HA.out (by simp [ancepsref40_solutions.l1])
      | succ k2=>
       have H:=HA.out;clear HA;simp only [ancepsref40_solutions.l1] at H
       rcases ifd H with ⟨c11b0,H⟩|⟨c11b0,H⟩
       ·by_cases c12:x9_2=true
        ·subst c12
         have H1:(if 0≤x10_2 then ((ancepsref38_Holds.f k2 ((rd_T63 l0 x10_2).f0) ((rd_T63 l0 x10_2).f1) t29).bind fun t45=>(ancepsref40_solutions.l1 k2 l0 a1 t26 x6_1 x7_1 t29 t45 (wrap64 (x10_2+1)))) else (none))=some r:=by rw [if_pos rfl] at H;exact H
         clear H;have H:=H1;clear H1;obtain ⟨c13b0,H⟩:=ifd1 H;obtain ⟨t45,A14,H⟩:=zo H;have H':=zA H;clear H;obtain ⟨p25,q25,ad25,A25_0,c25_0,A25_1,c25_1,e25,hx25_0,hx25_1,hl25_0,hi25_0,hl25_1,hi25_1⟩:=zp (at_T63 HR0.out x10_2)
         cases e25
         replace hx25_0:=zd HB hx25_0;replace hx25_1:=zd HB hx25_1;have HR25_0:=zA hi25_0;have HC25_0:=zA hl25_0;clear hi25_0 hl25_0;have HR25_1:=zA hi25_1;have HC25_1:=zA hl25_1;clear hi25_1 hl25_1;replace p25:=eq_true p25;replace q25:=eq_true q25
         go_wp2_with (first|((with_reducible refine gate_callee (f:=93) rfl ?_);refine zgo 43 Tryz.func93 #[.agg #[.slice A25_0 ((rd_T63 l0 x10_2).f0).length c25_0,.slice A25_1 ((rd_T63 l0 x10_2).f1).length c25_1],.int .i64 t29] ?_;(with_reducible refine (ancepsref38_Holds.calls k2 _ _ ((rd_T63 l0 x10_2).f0) _ _ ((rd_T63 l0 x10_2).f1) t29 t45 _ (zD HR25_0 HB) HC25_0.out (zD HR25_1 HB) HC25_1.out A14.out).mono ?_);rintro e w15 ⟨rfl,hb⟩;refine ⟨_,rfl,?_⟩;replace HO_5:=zA (Kd.R_below (zR HO_5) hb);replace HO_6:=zA (Kd.R_below (zR HO_6) hb);replace HB:=zu hb;clear hb))
         go_roundg k2
         case measure=>have:=HK1.out;have:=HK2.out;omega
         case rel=>exact ⟨(t45),(wrap64 (x10_2+1)),zT,zT,H',⟨by have:=HK1.out;have:=HK2.out;omega⟩,⟨by refine zr ?_;exact HO_5.out⟩,⟨by refine zr ?_;exact HO_6.out⟩,⟨zv0 HB⟩⟩
        ·replace c12:=Bool.eq_false_iff.mpr c12;subst c12
         have H1:(ancepsref40_solutions.l0 k2 l0 a1 t26 x6_1 (wrap64 (x7_1+1)))=some r:=by rw [if_neg (show ¬ (false=true) by decide)] at H;exact H
         clear H;have H:=H1;clear H1;have H':=zA H;clear H
         go_wp2
         go_roundg k2
         case measure=>have:=HK1.out;have:=HK2.out;omega
         case rel=>exact ⟨(x6_1),(wrap64 (x7_1+1)),zT,H',⟨by have:=HK1.out;have:=HK2.out;omega⟩,⟨by refine zr ?_;exact HO_5.out⟩,⟨by refine zr ?_;exact HO_6.out⟩,⟨zv0 HB⟩⟩
       ·by_cases c16:x9_2=true
        ·subst c16
         have H1:(if x6_1.length<17592186044416 then (ancepsref40_solutions.l0 k2 l0 a1 t26 (x6_1++[t29]) (wrap64 (x7_1+1))) else (none))=some r:=by rw [if_pos rfl] at H;exact H
         clear H;have H:=H1;clear H1;obtain ⟨c17,H⟩:=if1 H;have LMc17:=zA c17;clear c17
         first|(replace H:=zyb (x6_1++[t29]) H;obtain ⟨y39,Ny39,H⟩:=H)|(obtain ⟨y39,hy39⟩:=zY (x6_1++[t29]);(try rw (occs:=.pos [1]) [← hy39] at H);have Ny39:=zA hy39;clear hy39)
         have H':=zA H;clear H
         go_wp2_with (first|((with_reducible refine gate_builtin (b:=.append) (xs:=#[.tmp 45,.tmp 47]) rfl ?_);(try (refine gate_guard (by rfl) ?_;dsimp only));at_builtin;refine Kd.R_append (Kd.int .i64) (w0:=w) w.heap.size rfl (.tmp 45) (.tmp 47) 43 3 (.int .i64 0) 8 rfl Tryz.underlying43 info3 rfl (by decide) (by omega) (.slice Ao10 x6_1.length co10) x6_1 t29 [.int .i64 t29] (fun k_=>some k_≠(.slice Ao9 t26.length co9:Value).ownBlock) (fun _=>False) rfl rfl ?aP (fun _ hk=>hk.elim) ?aF ?aO ?aB ?aS ?aL ?_;(case aP=>exact rfl);(case aB=>exact zB);(case aF=>exact (fun k_ hk=>Kd.fresh' (Kd.R_lt (zR HO_5)) k_ hk));(case aO=>exact (zR HO_6));(case aS=>exact (below_size zB));(case aL=>have:=LMc17.out;omega);intro v55 w18 ho hb hg hat;rw [← Ny39.out] at ho;have HO50:=zA (ho);replace HO_5:=zA (Kd.R_after (ok:=(fun _=>True)) (by refine zr ?_;exact Kd.R_mono HO_5.out (fun _ hk=>⟨trivial,hk⟩)) hg hat);replace HB:=zA (hb);clear HO_6;clear ho hb hg hat))
         go_roundg k2
         case measure=>have:=HK1.out;have:=HK2.out;omega
         case rel=>exact ⟨(y39),(wrap64 (x7_1+1)),zT,H',⟨by have:=HK1.out;have:=HK2.out;omega⟩,⟨by refine zr ?_;exact Kd.R_mono HO_5.out (fun _ hk=>hk.2)⟩,⟨by refine zr ?_;exact HO50.out⟩,⟨zv0 HB⟩⟩
        ·replace c16:=Bool.eq_false_iff.mpr c16;subst c16
         have H1:(ancepsref40_solutions.l0 k2 l0 a1 t26 x6_1 (wrap64 (x7_1+1)))=some r:=by rw [if_neg (show ¬ (false=true) by decide)] at H;exact H
         clear H;have H:=H1;clear H1;have H':=zA H;clear H
         go_wp2
         go_roundg k2
         case measure=>have:=HK1.out;have:=HK2.out;omega
         case rel=>exact ⟨(x6_1),(wrap64 (x7_1+1)),zT,H',⟨by have:=HK1.out;have:=HK2.out;omega⟩,⟨by refine zr ?_;exact HO_5.out⟩,⟨by refine zr ?_;exact HO_6.out⟩,⟨zv0 HB⟩⟩
    ·obtain rfl:=Option.some.inj H;obtain ⟨Ao19,co19,eo19⟩:=Kd.R_slice HO_5.out;subst eo19;obtain ⟨Ao20,co20,eo20⟩:=Kd.R_slice HO_6.out;subst eo20
     go_wp2
     go_ret
     exact ⟨_,by first|rfl|(simp [errW_none,errW_some] <;> rfl)|(simp only [← hji5];first|rfl|(simp [errW_none,errW_some] <;> rfl))|(simp [*,errW_none,errW_some] <;> rfl),by refine zr ?_;exact Kd.R_mono HO_6.out (fun _ hk=>trivial),zv0 HB⟩
   ·obtain rfl:=Option.some.inj H;obtain ⟨Ao21,co21,eo21⟩:=Kd.R_slice HO_5.out;subst eo21
    go_wp2
    go_ret
    exact ⟨_,by first|rfl|(simp [errW_none,errW_some] <;> rfl)|(simp only [← hji5];first|rfl|(simp [errW_none,errW_some] <;> rfl))|(simp [*,errW_none,errW_some] <;> rfl),by refine zr ?_;exact Kd.R_mono HO_6.out (fun _ hk=>trivial),zv0 HB⟩
end Go.Proofs.YtngpkbbljnbojaaGreat.A
