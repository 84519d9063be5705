import Derived.Test.YtkjghablbeaioaaGreatB0
import Derived.Test.YtkjghablbeaioaaGreatB2
import Derived.Test.YtkjghablbeaioaaGreatB14
import Derived.Test.YtkjghablbeaioaaGreatB21
import Derived.Test.YtkjghablbeaioaaGreatB22
namespace Go.Proofs.YtkjghablbeaioaaGreat.B
open Go.RowKit Go.Proofs.YtkjghablbeaioaaGreatW.PrintWords Go.Proofs.YtkjghablbeaioaaGreatW.PrintLast Go.Proofs.YtkjghablbeaioaaGreatW.PrintMore
attribute [local go_sem] max2_int min2_int max_two min_two max_three min_three max_four min_four Tryz.underlying23 Tryz.underlying28 Tryz.underlying3
set_option linter.unusedVariables false
set_option linter.unusedSimpArgs false
def ancepsref42_CheckSmallest.l0:Nat→List (S49)→List Int→List (List Int)→Int→Option (Bool)
 | 0,_,_,_,_=>none
 | k+1,x0,x2,x7,x8=>if x8<(x7.length:Int) then (if 0≤x8 then ((ancepsref42_System.f k x0 (rd_L1 x7 x8)).bind fun t39=>(if x8<(x2.length:Int) then ((ancepsref40_Holds.f k t39 (rd x2 x8)).bind fun t53=>(if t53=true then (ancepsref42_CheckSmallest.l0 k x0 x2 x7 (wrap64 (x8+1))) else (some false))) else (none))) else (none)) else (some true)
def ancepsref42_CheckSmallest.f (k:Nat) (l0:List (S49)) (l1_0:List Int) (l1_1:List (S96)) (l1_2:List Int) (l2:List Int):Option (Bool):=(ancepsref42_Check.f k l0 l1_0 l1_1 l1_2).bind fun t44=>(if t44=true then (if (l1_0.length:Int)=0 then (some false) else ((ancepsref42_Sets.f k (l0.length:Int) (wrap64 ((l1_0.length:Int) - 1))).bind fun t35=>(if (l2.length:Int)=(t35.length:Int) then (ancepsref42_CheckSmallest.l0 k l0 l2 t35 0) else (some false)))) else (some false))
def ancepsref42_CheckSmallest.T9:Bool×List (List Nat×List Nat):=(true,[([],[]),([],[]),([],[]),([1,2],[1,2]),([3],[3]),([0,4],[0,4]),([],[]),([],[]),([6,7],[6,7]),([8],[8]),([5,9,5],[5,9]),([10],[10])])
def ancepsref42_CheckSmallest.B9:List Nat:=[0,0,0,6,14,31,0,0,192,448,1023,2047]
theorem ancepsref42_CheckSmallest.tab9:rtab .any (opsOf Tryz.f13 9)=ancepsref42_CheckSmallest.T9:=by kernel_rfl
theorem ancepsref42_CheckSmallest.bits9:waitsOk ancepsref42_CheckSmallest.T9.2 ancepsref42_CheckSmallest.B9=true:=by kernel_rfl
set_option maxHeartbeats 8000000 in
set_option maxRecDepth 100000 in
theorem ancepsref42_CheckSmallest.calls (k:Nat) (A0:Option Addr) (c0:Nat) (l0:List (S49)) (A1_0:Option Addr) (c1_0:Nat) (l1_0:List Int) (A1_1:Option Addr) (c1_1:Nat) (l1_1:List (S96)) (A1_2:Option Addr) (c1_2:Nat) (l1_2:List Int) (A2:Option Addr) (c2:Nat) (l2:List Int) (r:Bool) (w:World) (hr0:Kd.C k49 w A0 l0.length l0) (hc0:l0.length≤c0) (hr1_0:Kd.C (Kd.int .i64) w A1_0 l1_0.length l1_0) (hc1_0:l1_0.length≤c1_0) (hr1_1:Kd.C k96 w A1_1 l1_1.length l1_1) (hc1_1:l1_1.length≤c1_1) (hr1_2:Kd.C (Kd.int .i64) w A1_2 l1_2.length l1_2) (hc1_2:l1_2.length≤c1_2) (hr2:Kd.C (Kd.int .i64) w A2 l2.length l2) (hc2:l2.length≤c2) (h:ancepsref42_CheckSmallest.f k l0 l1_0 l1_1 l1_2 l2=some r) :
  Calls Tryz.prog 13 #[.slice A0 l0.length c0,.agg #[.slice A1_0 l1_0.length c1_0,.slice A1_1 l1_1.length c1_1,.slice A1_2 l1_2.length c1_2],.slice A2 l2.length c2] w fun e w'=>e=.returned (.bool r)∧Below w.heap.size w w':=by
 have HR0:=zA hr0;have HC0:=zA hc0;clear hr0 hc0;have HR1_0:=zA hr1_0;have HC1_0:=zA hc1_0;clear hr1_0 hc1_0;have HR1_1:=zA hr1_1;have HC1_1:=zA hc1_1;clear hr1_1 hc1_1;have HR1_2:=zA hr1_2;have HC1_2:=zA hc1_2;clear hr1_2 hc1_2;have HR2:=zA hr2;have HC2:=zA hc2;clear hr2 hc2;have HB:=zA (Below.refl w.heap.size w);have H:((ancepsref42_Check.f k l0 l1_0 l1_1 l1_2).bind fun t44=>(if t44=true then (if (l1_0.length:Int)=0 then (some false) else ((ancepsref42_Sets.f k (l0.length:Int) (wrap64 ((l1_0.length:Int) - 1))).bind fun t35=>(if (l2.length:Int)=(t35.length:Int) then (ancepsref42_CheckSmallest.l0 k l0 l2 t35 0) else (some false)))) else (some false)))=some r:=h;clear h;have HC4:=zA H;clear H
 go_enter Tryz.func13,Tryz.ntmps13
 go_upto_region 1 with (first|((with_reducible refine gd 4 rfl ?_);(try (refine gate_guard (by rfl) ?_;dsimp only));refine zx #[.slice A1_0 l1_0.length c1_0,.slice A1_1 l1_1.length c1_1,.slice A1_2 l1_2.length c1_2] 28 ?_;intro gb34 hg w5 BK34 hb GW34 HB1;have GE34:=GW34;clear HB hb hg;have HB:=HB1;clear HB1))
 (try simp only [Act.put,zi,zs,zt]);have H:=HC4.out;clear HC4;obtain ⟨t44,A6,H⟩:=zo H
 by_cases c7:t44=true
 ·subst c7
  have H1:(if (l1_0.length:Int)=0 then (some false) else ((ancepsref42_Sets.f k (l0.length:Int) (wrap64 ((l1_0.length:Int) - 1))).bind fun t35=>(if (l2.length:Int)=(t35.length:Int) then (ancepsref42_CheckSmallest.l0 k l0 l2 t35 0) else (some false))))=some r:=by rw [if_pos rfl] at H;exact H
  clear H;have H:=H1;clear H1;have HC8:=zA H;clear H;have hcz9_0:=zc0 BK34;have hcz9_1:=zc1 BK34;have hcz9_2:=zc2 BK34;have hfz9_0:=zf BK34
  go_upto_if 18 with (first|((with_reducible refine gate_callee (f:=12) rfl ?_);refine zgo 11 Tryz.func12 #[.slice A0 l0.length c0,.agg #[.slice A1_0 l1_0.length c1_0,.slice A1_1 l1_1.length c1_1,.slice A1_2 l1_2.length c1_2]] ?_;(with_reducible refine (ancepsref42_Check.calls k _ _ l0 _ _ l1_0 _ _ l1_1 _ _ l1_2 true _ (zD HR0 HB) HC0.out (zD HR1_0 HB) HC1_0.out (zD HR1_1 HB) HC1_1.out (zD HR1_2 HB) HC1_2.out A6.out).mono ?_);rintro e w10 ⟨rfl,hb⟩;refine ⟨_,rfl,?_⟩;replace BK34:=zw BK34 hb;replace HB:=zu hb;clear hb;have hcz11_0:=zc0 BK34;have hcz11_1:=zc1 BK34;have hcz11_2:=zc2 BK34;have hfz11_0:=zf BK34))
  (try simp only [Act.put,zi,zs,zt]);have H:=HC8.out;clear HC8
  rcases ife H with ⟨c12b0,c12b1,H⟩|⟨c12,c12b0,c12b1,H⟩
  ·(first|rw [c12b0]|(simp only [i64_w,i32_w];rw [c12b0])|skip)
   (try rw [c12b1]);obtain rfl:=Option.some.inj H
   go_wp2
   go_ret
   exact ⟨ze,zv1 HB GE34⟩
  ·have c12b2:¬ (l1_0=[]):=fun h_=>c12 (by rw [h_];rfl)
   (first|rw [c12b0]|(simp only [i64_w,i32_w];rw [c12b0])|skip)
   (try rw [c12b1]);(try rw [c12b2]);obtain ⟨t35,A13,H⟩:=zo H;have HC14:=zA H;clear H;have hcz15_0:=zc0 BK34;have hcz15_1:=zc1 BK34;have hcz15_2:=zc2 BK34;have hfz15_0:=zf BK34
   go_upto_if 30 with (first|((with_reducible refine gate_callee (f:=43) rfl ?_);refine zgo 25 Tryz.func43 #[.int .i64 (l0.length:Int),.int .i64 (wrap64 ((l1_0.length:Int) - 1))] ?_;(with_reducible refine (ancepsref42_Sets.calls k (l0.length:Int) (wrap64 ((l1_0.length:Int) - 1)) t35 _ A13.out).mono ?_);rintro e w16 ⟨v58,rfl,ho0,hb⟩;refine ⟨_,rfl,?_⟩;have HO57:=zA (Kd.N_lower (Kd.N_mono (ok':=fun k_=>k_≠gb34) (Kd.S_N (Kd.S_bound ho0)) (fun k_ hk_=>(Kd.freshB (g:=gb34) (o:=.cells #[.slice A1_0 l1_0.length c1_0,.slice A1_1 l1_1.length c1_1,.slice A1_2 l1_2.length c1_2] 28 (0,0)) (zk BK34) k_ hk_.2.1))) (below_size zB));replace BK34:=zw BK34 hb;replace HB:=zu hb;clear hb;(try clear ho0);obtain ⟨Ao17,co17,eo17⟩:=Kd.N_slice HO57.out;subst eo17))
   (try simp only [Act.put,zi,zs,zt]);have H:=HC14.out;clear HC14
   rcases if0 H with ⟨c18,H⟩|⟨c18,H⟩
   ·have c18b0:((l2.length:Int) == (t35.length:Int))=true:=beq_iff_eq.mpr c18;have c18b1:((l2.length:Int) != (t35.length:Int))=false:=bne_eq_false_iff_eq.mpr c18
    have c18b2:(l2.length == t35.length)=true:=by first|simpa using c18|(simp at c18 ⊢;omega)
    clear c18
    (first|rw [c18b0]|(simp only [i64_w,i32_w];rw [c18b0])|skip)
    (try rw [c18b1]);(try rw [c18b2]);have H':=zA H;clear H
    go_wp2
    go_loopg [8] k (fun kq v8 w'=>∃ (x8_1:Int),v8=.int .i64 x8_1∧Aside0 (ancepsref42_CheckSmallest.l0 kq l0 l2 t35 x8_1=some r)∧Aside0 (kq≤k)∧Aside0 (Kd.N (Kd.slice 3 (Kd.int .i64)) 23 w' w.heap.size (fun k_=>k_≠gb34) (.slice Ao17 t35.length co17) t35)∧Aside0 (w'.heap[gb34]?=some (.cells #[(.slice A1_0 l1_0.length c1_0),(.slice A1_1 l1_1.length c1_1),(.slice A1_2 l1_2.length c1_2)] 28 (0,0)))∧Aside0 (Below w.heap.size w w'))
    case atStart=>exact ⟨(0),zT,H',⟨Nat.le_refl _⟩,⟨by (with_reducible repeat (first|apply Kd.N_alloc|apply Kd.N_drewN|apply Kd.N_drew));exact HO57.out⟩,⟨by refine zj ?_;exact BK34.out⟩,⟨zv1 HB GE34⟩⟩
    case round=>
     clear H'
     try clear c7
     try clear c12
     try clear c12b0
     try clear c12b1
     try clear c12b2
     try clear c18
     try clear c18b0
     try clear c18b1
     try clear c18b2
     try clear hcz11_0
     try clear hcz11_1
     try clear hcz11_2
     try clear hcz15_0
     try clear hcz15_1
     try clear hcz15_2
     try clear hcz9_0
     try clear hcz9_1
     try clear hcz9_2
     try clear hfz11_0
     try clear hfz11_1
     try clear hfz11_2
     try clear hfz15_0
     try clear hfz15_1
     try clear hfz15_2
     try clear hfz9_0
     try clear hfz9_1
     try clear hfz9_2
     obtain ⟨x8_1,rfl,HA,HK1,HO_7,BK34,HB⟩:=hrel
     cases gk with
     | zero=>exact absurd HA.out (by simp [ancepsref42_CheckSmallest.l0])
     | succ k1=>
      have H:=HA.out;clear HA;simp only [ancepsref42_CheckSmallest.l0] at H
      rcases ifd H with ⟨c19b0,H⟩|⟨c19b0,H⟩
      ·obtain ⟨c20b0,H⟩:=ifd1 H;obtain ⟨t39,A21,H⟩:=zo H;obtain ⟨c22b0,H⟩:=ifd1 H;obtain ⟨t53,A23,H⟩:=zo H;have HC24:=zA H;clear H
       try go_wp2
       replace HO_7:=zA (Kd.N_drew HO_7.out);replace BK34:=zA (blk_drew BK34.out);replace HB:=zA (below_drew1 HB.out);obtain ⟨p33,q33,ad33,A33_0,c33_0,e33,hx33_0,hl33_0,hi33_0⟩:=zp (at_L1 (Kd.N_reads' HO_7.out).2.2 x8_1)
       cases e33
       obtain ⟨ce33,hce33,hMe33,hcc33⟩:=Kd.N_get HO_7.out [] x8_1 p33 (by first|exact q33|exact of_decide_eq_true zh|(have e_:=(Kd.N_reads' HO_7.out).1;omega));obtain ⟨ua33_0,uc33_0,rfl,ul33_0,ge33_0⟩:=Kd.FK_slice_open hMe33;have hv33_0:=hcc33 0 _ rfl;rw [Nat.add_zero,show ((Kd.slice 3 (Kd.int .i64))).sz=1 from rfl,Nat.mul_one] at hv33_0;replace hv33_0:=Option.some.inj (hv33_0.symm.trans hx33_0)
       injection hv33_0 with hva_ hvn_ hvc_
       rw [hva_] at ge33_0;rw [hvc_] at ul33_0;have HL33_0:=zA (show Kd.V (Kd.int .i64) 3 _ w.heap.size _ _ (rd_L1 t35 x8_1) from Kd.V_mk ul33_0 ge33_0);clear hva_ hvn_ hvc_ ge33_0 ul33_0;clear hcc33 hce33;have HR33_0:=zA hi33_0;have HC33_0:=zA hl33_0;clear hi33_0 hl33_0;replace p33:=eq_true p33;replace q33:=eq_true q33;obtain ⟨p37,q37,ad37,e37,hx37_0⟩:=zp (Kd.at_int HR2.out x8_1);have hw37_0:=hx37_0
       cases e37
       replace hx37_0:=zd HB hx37_0;replace p37:=eq_true p37;replace q37:=eq_true q37;refine start_ (n:=12) (S:=fun w'=>w'.cell? (ad33.add (x8_1).toNat)=some (.slice A33_0 (rd_L1 t35 x8_1).length c33_0)∧w'.cell? (ad37.add (x8_1).toNat)=some (.int .i64 (rd l2 x8_1))) (ds:=[]) (bz 12 0) zK rfl rfl ⟨hx33_0,((HB.out.cell (World.block_lt_of_cell? w _ hw37_0)).trans hw37_0)⟩ (fun hHeld=>?_);refine with_tabW ancepsref42_CheckSmallest.tab9 ancepsref42_CheckSmallest.bits9 (fun HT_ HW_=>?_)
       generalize wr.drew=w25 at HO_7 BK34 HB HL33_0 HR33_0 hx33_0 hx37_0 hHeld ⊢
       refine zP 0 37 (bz 12 1) HT_ ?_;refine zP 1 38 (bz 12 3) HT_ ?_;refine zP 2 39 (bz 12 7) HT_ ?_;refine zP 3 40 (bz 12 15) HT_ ?_;refine zP 6 43 (bz 12 79) HT_ ?_;refine zP 7 44 (bz 12 207) HT_ ?_;refine zP 8 45 (bz 12 463) HT_ ?_;refine zQ 4 41 (bz 12 479) HT_ HW_ hHeld ?_;refine zQ 9 46 (bz 12 991) HT_ HW_ hHeld ?_;refine one_ (i:=5) (N:=some 42) (bz 12 1023) rfl rfl (one_of HT_.out zK) (by decide) (fun K hK=>?_);refine goes_ Tryz.func40 zK rfl #[.slice A0 l0.length c0,.slice A33_0 (rd_L1 t35 x8_1).length c33_0] (by rfl) rfl rfl zM ?_
       with_reducible refine (ancepsref42_System.calls k1 (fun k_=>k_<w.heap.size) _ _ l0 _ _ (rd_L1 t35 x8_1) t39 _ ?side1 ?side2 ?side3 A21.out).mono ?_
       (case side1=>exact Kd.V_mk HC0.out (Kd.F_below (Kd.C_F k49_heap HR0.out) zB));(case side2=>exact zC ((Kd.V_reads' HL33_0.out).2.2));(case side3=>exact HC33_0.out);rintro e w26 ⟨v59,rfl,ho0,hb⟩;have HS0_:=(hb.cell (World.block_lt_of_cell? _ _ (hHeld.1))).trans (hHeld.1);refine ⟨_,rfl,?_⟩;have HO46:=zA (Kd.N_lower (Kd.N_mono (ok':=fun k_=>some k_≠(.slice (some ad33) t35.length co17:Value).ownBlock∧k_≠gb34) ho0 (fun k_ hk_=>⟨Or.elim hk_ (fun hs_=>fun e_=>Nat.not_le.2 hs_ (Kd.N_base HO_7.out k_ e_.symm)) (fun hn_=>(Kd.fresh' (Kd.N_lt (zN HO_7)) k_ hn_)),Or.elim hk_ (fun hs_=>fun e_=>Nat.not_le.2 hs_ (by rw [e_];exact GW34.out)) (fun hn_=>(Kd.freshB (g:=gb34) (o:=.cells #[.slice A1_0 l1_0.length c1_0,.slice A1_1 l1_1.length c1_1,.slice A1_2 l1_2.length c1_2] 28 (0,0)) (zk BK34) k_ hn_))⟩)) (below_size zB));replace HO_7:=zA (Kd.N_elder' (zN HO_7) (Kd.N_base ho0) hb);replace BK34:=zw BK34 hb;replace HR33_0:=zA (Kd.C_below ((Kd.V_reads' HL33_0.out).2.2) hb);replace HL33_0:=zA (Kd.V_elder' (by (with_reducible repeat (first|apply Kd.V_alloc|apply Kd.V_drewN|apply Kd.V_drew));exact HL33_0.out) (Kd.N_base ho0) hb);replace HB:=zu hb;(try clear hb);(try clear hb2);(try clear hk);(try clear hi);(try clear ho0);obtain ⟨Ao27,co27,eo27⟩:=Kd.N_slice HO46.out
       (first|subst eo27|(injection eo27 with f1_ f2_ f3_;have f4_:=f1_.symm;have f5_:=f3_.symm;clear f1_ f2_ f3_;subst f4_;subst f5_))
       refine hK.out _ _ ⟨HS0_,((HB.out.cell (World.block_lt_of_cell? w _ hw37_0)).trans hw37_0)⟩ (fun hHeld=>?_);clear hK K;refine norm_ (a':=?_) ?_ ?_;rotate_left
       ·show Act.put _ (some 42) _=_
        simp only [Act.put,zi,zs,zt,i64_w,i32_w];rfl
       refine one_ (i:=10) (N:=some 47) (bz 12 2047) rfl rfl (one_of HT_.out zK) (by decide) (fun K hK=>?_);refine goes_ Tryz.func41 zK rfl #[.slice Ao27 t39.length co27,.int .i64 (rd l2 x8_1)] (by rfl) rfl rfl zM ?_
       with_reducible refine (ancepsref40_Holds.calls k1 _ _ t39 (rd l2 x8_1) t53 _ ?side1 ?side2 A23.out).mono ?_
       (case side1=>exact zC (Kd.N_reads' HO46.out).2.2);(case side2=>exact (Kd.N_reads' HO46.out).2.1);rintro e w28 ⟨rfl,hb⟩;have HS0_:=(hb.cell (World.block_lt_of_cell? _ _ (hHeld.1))).trans (hHeld.1);refine ⟨_,rfl,?_⟩;replace HO_7:=zA (Kd.N_below (zN HO_7) hb);replace HO46:=zA (Kd.N_below (zN HO46) hb);replace BK34:=zw BK34 hb;replace HR33_0:=zA (Kd.C_below ((Kd.V_reads' HL33_0.out).2.2) hb);replace HL33_0:=zA (Kd.V_below (by (with_reducible repeat (first|apply Kd.V_alloc|apply Kd.V_drewN|apply Kd.V_drew));exact HL33_0.out) hb);replace HB:=zu hb;(try clear hb);(try clear hb2);(try clear hk);(try clear hi);refine hK.out _ _ ⟨HS0_,((HB.out.cell (World.block_lt_of_cell? w _ hw37_0)).trans hw37_0)⟩ (fun hHeld=>?_);clear hK K;refine norm_ (a':=?_) ?_ ?_;rotate_left
       ·show Act.put _ (some 47) _=_
        simp only [Act.put,zi,zs,zt,i64_w,i32_w];rfl
       refine zP 11 48 (bz 12 4095) HT_ ?_;refine done_ (done_of HT_.out zK) ?_
       go_upto_if 48 with (fail)
       (try simp only [Act.put,zi,zs,zt]);have H:=HC24.out;clear HC24
       by_cases c29:t53=true
       ·subst c29
        have H1:(ancepsref42_CheckSmallest.l0 k1 l0 l2 t35 (wrap64 (x8_1+1)))=some r:=by rw [if_pos rfl] at H;exact H
        clear H;have H:=H1;clear H1;have H':=zA H;clear H
        go_wp2
        go_roundg k1
        case measure=>have:=HK1.out;omega
        case rel=>exact ⟨(wrap64 (x8_1+1)),zT,H',⟨by have:=HK1.out;omega⟩,⟨by (with_reducible repeat (first|apply Kd.N_alloc|apply Kd.N_drewN|apply Kd.N_drew));exact Kd.N_mono HO_7.out (fun _ hk=>hk.1)⟩,⟨by refine zj ?_;exact BK34.out⟩,⟨zv1 HB GE34⟩⟩
       ·replace c29:=Bool.eq_false_iff.mpr c29;subst c29
        have H1:(some false)=some r:=by rw [if_neg (show ¬ (false=true) by decide)] at H;exact H
        clear H;have H:=H1;clear H1;obtain rfl:=Option.some.inj H
        go_wp2
        go_ret
        exact ⟨ze,zv1 HB GE34⟩
      ·obtain rfl:=Option.some.inj H
       go_wp2
       go_ret
       exact ⟨ze,zv1 HB GE34⟩
   ·have c18b0:((l2.length:Int) == (t35.length:Int))=false:=beq_eq_false_iff_ne.mpr c18;have c18b1:((l2.length:Int) != (t35.length:Int))=true:=bne_iff_ne.mpr c18
    have c18b2:(l2.length == t35.length)=false:=by first|simpa using c18|(simp at c18 ⊢;omega)
    (first|rw [c18b0]|(simp only [i64_w,i32_w];rw [c18b0])|skip)
    (try rw [c18b1]);(try rw [c18b2]);obtain rfl:=Option.some.inj H
    go_wp2
    go_ret
    exact ⟨ze,zv1 HB GE34⟩
 ·replace c7:=Bool.eq_false_iff.mpr c7;subst c7
  have H1:(some false)=some r:=by rw [if_neg (show ¬ (false=true) by decide)] at H;exact H
  clear H;have H:=H1;clear H1;obtain rfl:=Option.some.inj H;have hcz30_0:=zc0 BK34;have hcz30_1:=zc1 BK34;have hcz30_2:=zc2 BK34;have hfz30_0:=zf BK34
  go_wp2_with (first|((with_reducible refine gate_callee (f:=12) rfl ?_);refine zgo 11 Tryz.func12 #[.slice A0 l0.length c0,.agg #[.slice A1_0 l1_0.length c1_0,.slice A1_1 l1_1.length c1_1,.slice A1_2 l1_2.length c1_2]] ?_;(with_reducible refine (ancepsref42_Check.calls k _ _ l0 _ _ l1_0 _ _ l1_1 _ _ l1_2 false _ (zD HR0 HB) HC0.out (zD HR1_0 HB) HC1_0.out (zD HR1_1 HB) HC1_1.out (zD HR1_2 HB) HC1_2.out A6.out).mono ?_);rintro e w31 ⟨rfl,hb⟩;refine ⟨_,rfl,?_⟩;replace BK34:=zw BK34 hb;replace HB:=zu hb;clear hb))
  go_ret
  exact ⟨ze,zv1 HB GE34⟩
def ancepslaw42_ConflictChecks_1_v1.f (k:Nat) (l0:List Int) (l1_0:List Int) (l1_1:List (S96)) (l1_2:List Int):Option (Bool):=(slices_Equal_int_int.f k l0 l1_0).bind fun t47=>(some t47)
set_option maxHeartbeats 8000000 in
set_option maxRecDepth 100000 in
theorem ancepslaw42_ConflictChecks_1_v1.calls (k:Nat) (A0:Option Addr) (c0:Nat) (l0:List Int) (gp1_0:Nat) (A1_0:Option Addr) (c1_0:Nat) (l1_0:List Int) (A1_1:Option Addr) (c1_1:Nat) (l1_1:List (S96)) (A1_2:Option Addr) (c1_2:Nat) (l1_2:List Int) (r:Bool) (w:World) (hr0:Kd.C (Kd.int .i64) w A0 l0.length l0) (hc0:l0.length≤c0) (hr1_0:Kd.C (Kd.int .i64) w A1_0 l1_0.length l1_0) (hc1_0:l1_0.length≤c1_0) (hr1_1:Kd.C k96 w A1_1 l1_1.length l1_1) (hc1_1:l1_1.length≤c1_1) (hr1_2:Kd.C (Kd.int .i64) w A1_2 l1_2.length l1_2) (hc1_2:l1_2.length≤c1_2) (hb_gp1_0:w.heap[gp1_0]?=some (.cells #[.slice A1_0 l1_0.length c1_0,.slice A1_1 l1_1.length c1_1,.slice A1_2 l1_2.length c1_2] 28 (0,0))) (h:ancepslaw42_ConflictChecks_1_v1.f k l0 l1_0 l1_1 l1_2=some r) :
  Calls Tryz.prog 16 #[.slice A0 l0.length c0,.pointer (some ⟨gp1_0,0,none⟩)] w fun e w'=>e=.returned (.bool r)∧Drawn0 w w':=by
 have HR0:=zA hr0;have HC0:=zA hc0;clear hr0 hc0;have HR1_0:=zA hr1_0;have HC1_0:=zA hc1_0;clear hr1_0 hc1_0;have HR1_1:=zA hr1_1;have HC1_1:=zA hc1_1;clear hr1_1 hc1_1;have HR1_2:=zA hr1_2;have HC1_2:=zA hc1_2;clear hr1_2 hc1_2;have BK38:=zA hb_gp1_0;clear hb_gp1_0;have H:((slices_Equal_int_int.f k l0 l1_0).bind fun t47=>(some t47))=some r:=h;clear h;obtain ⟨t47,A3,H⟩:=zo H;obtain rfl:=Option.some.inj H;have hcz4_0:w.cell? ⟨gp1_0,0,none⟩=some (.slice A1_0 l1_0.length c1_0):=zc0 BK38;have hcz4_1:w.cell? ⟨gp1_0,1,none⟩=some (.slice A1_1 l1_1.length c1_1):=zc1 BK38;have hcz4_2:w.cell? ⟨gp1_0,2,none⟩=some (.slice A1_2 l1_2.length c1_2):=zc2 BK38;have hfz4_0:=zf BK38
 go_enter Tryz.func16,Tryz.ntmps16
 go_wp2_with (first|((with_reducible refine gate_callee (f:=17) rfl ?_);refine zgo 7 Tryz.func17 #[.slice A0 l0.length c0,.slice A1_0 l1_0.length c1_0] ?_;(with_reducible refine (slices_Equal_int_int.calls k _ _ l0 _ _ l1_0 t47 _ ?side1 HC0.out ?side3 HC1_0.out A3.out).mono ?_);(case side1=>repeat (first|exact HR0.out|(with_reducible refine Kd.C_alloc ?_ _)|(with_reducible refine Kd.C_drewN ?_ _)|(with_reducible refine Kd.C_drew ?_)));(case side3=>repeat (first|exact HR1_0.out|(with_reducible refine Kd.C_alloc ?_ _)|(with_reducible refine Kd.C_drewN ?_ _)|(with_reducible refine Kd.C_drew ?_)));rintro e w' ⟨rfl,⟨nd,rfl⟩⟩;refine ⟨_,rfl,?_⟩))
 go_ret
 exact ⟨by first|rfl|(simp;done)|(simp [*];done),by repeat (first|exact Drawn0.refl _|apply Drawn0.step)⟩
def slices_IndexFunc_int_int_ancepslaw42_ConflictChecks_1.l0:Nat→List (List Int)→Int→Int→List Int→List (S96)→List Int→Option (Int)
 | 0,_,_,_,_,_,_=>none
 | k+1,x0,x7,x8,x48,x50,x51=>if x8<x7 then (if 0≤x8 then (if x8<(x0.length:Int) then ((ancepslaw42_ConflictChecks_1_v1.f k (rd_L1 x0 x8) x48 x50 x51).bind fun t54=>(if t54=true then (some x8) else (slices_IndexFunc_int_int_ancepslaw42_ConflictChecks_1.l0 k x0 x7 (wrap64 (x8+1)) x48 x50 x51))) else (none)) else (none)) else (some (-1))
def slices_IndexFunc_int_int_ancepslaw42_ConflictChecks_1.f (k:Nat) (l0:List (List Int)) (l1_0:List Int) (l1_1:List (S96)) (l1_2:List Int):Option (Int):=slices_IndexFunc_int_int_ancepslaw42_ConflictChecks_1.l0 k l0 (l0.length:Int) 0 l1_0 l1_1 l1_2
set_option maxHeartbeats 8000000 in
set_option maxRecDepth 100000 in
theorem slices_IndexFunc_int_int_ancepslaw42_ConflictChecks_1.calls (k:Nat) (A0:Option Addr) (c0:Nat) (l0:List (List Int)) (gp1_0:Nat) (A1_0:Option Addr) (c1_0:Nat) (l1_0:List Int) (A1_1:Option Addr) (c1_1:Nat) (l1_1:List (S96)) (A1_2:Option Addr) (c1_2:Nat) (l1_2:List Int) (r:Int) (w:World) (hr0:Kd.C (Kd.slice 3 (Kd.int .i64)) w A0 l0.length l0) (hc0:l0.length≤c0) (hr1_0:Kd.C (Kd.int .i64) w A1_0 l1_0.length l1_0) (hc1_0:l1_0.length≤c1_0) (hr1_1:Kd.C k96 w A1_1 l1_1.length l1_1) (hc1_1:l1_1.length≤c1_1) (hr1_2:Kd.C (Kd.int .i64) w A1_2 l1_2.length l1_2) (hc1_2:l1_2.length≤c1_2) (hb_gp1_0:w.heap[gp1_0]?=some (.cells #[.slice A1_0 l1_0.length c1_0,.slice A1_1 l1_1.length c1_1,.slice A1_2 l1_2.length c1_2] 28 (0,0))) (h:slices_IndexFunc_int_int_ancepslaw42_ConflictChecks_1.f k l0 l1_0 l1_1 l1_2=some r) :
  Calls Tryz.prog 45 #[.slice A0 l0.length c0,.func (.func 16) #[] #[.pointer (some ⟨gp1_0,0,none⟩)]] w fun e w'=>e=.returned (.int .i64 r)∧Below w.heap.size w w':=by
 have HR0:=zA hr0;have HC0:=zA hc0;clear hr0 hc0;have HR1_0:=zA hr1_0;have HC1_0:=zA hc1_0;clear hr1_0 hc1_0;have HR1_1:=zA hr1_1;have HC1_1:=zA hc1_1;clear hr1_1 hc1_1;have HR1_2:=zA hr1_2;have HC1_2:=zA hc1_2;clear hr1_2 hc1_2;have BK55:=zA hb_gp1_0;clear hb_gp1_0;have HB:=zA (Below.refl w.heap.size w);have H:(slices_IndexFunc_int_int_ancepslaw42_ConflictChecks_1.l0 k l0 (l0.length:Int) 0 l1_0 l1_1 l1_2)=some r:=h;clear h;have H':=zA H;clear H
 go_enter Tryz.func45,Tryz.ntmps45
 go_wp2
 go_loopg [8] k (fun kq v8 w'=>∃ (x8_1:Int),v8=.int .i64 x8_1∧Aside0 (slices_IndexFunc_int_int_ancepslaw42_ConflictChecks_1.l0 kq l0 (l0.length:Int) x8_1 l1_0 l1_1 l1_2=some r)∧Aside0 (kq≤k)∧Aside0 (w'.heap[gp1_0]?=some (.cells #[(.slice A1_0 l1_0.length c1_0),(.slice A1_1 l1_1.length c1_1),(.slice A1_2 l1_2.length c1_2)] 28 (0,0)))∧Aside0 (Below w.heap.size w w'))
 case atStart=>exact ⟨(0),zT,H',⟨Nat.le_refl _⟩,⟨by refine zj ?_;exact BK55.out⟩,⟨zv0 HB⟩⟩
 case round=>
  clear H';obtain ⟨x8_1,rfl,HA,HK1,BK55,HB⟩:=hrel
  cases gk with
  | zero=>exact absurd HA.out (by simp [slices_IndexFunc_int_int_ancepslaw42_ConflictChecks_1.l0])
  | succ k1=>
   have H:=HA.out;clear HA;simp only [slices_IndexFunc_int_int_ancepslaw42_ConflictChecks_1.l0] at H
   rcases ifd H with ⟨c3b0,H⟩|⟨c3b0,H⟩
   ·obtain ⟨c4b0,H⟩:=ifd1 H;obtain ⟨c5b0,H⟩:=ifd1 H;obtain ⟨t54,A6,H⟩:=zo H;have HC7:=zA H;clear H;obtain ⟨p36,q36,ad36,A36_0,c36_0,e36,hx36_0,hl36_0,hi36_0⟩:=zp (at_L1 HR0.out x8_1)
    cases e36
    replace hx36_0:=zd HB hx36_0;have HR36_0:=zA hi36_0;have HC36_0:=zA hl36_0;clear hi36_0 hl36_0;replace p36:=eq_true p36;replace q36:=eq_true q36
    go_upto_if 16 with (first|(go_at_call 16;(with_reducible refine (ancepslaw42_ConflictChecks_1_v1.calls k1 _ _ (rd_L1 l0 x8_1) gp1_0 A1_0 c1_0 l1_0 A1_1 c1_1 l1_1 A1_2 c1_2 l1_2 t54 _ (zD HR36_0 HB) HC36_0.out (zD HR1_0 HB) HC1_0.out (zD HR1_1 HB) HC1_1.out (zD HR1_2 HB) HC1_2.out ?side9 A6.out).mono ?_);(case side9=>refine zj ?_;exact BK55.out);rintro e w' ⟨rfl,⟨nd,rfl⟩⟩))
    (try simp only [Act.put,zi,zs,zt]);have H:=HC7.out;clear HC7
    by_cases c8:t54=true
    ·subst c8
     have H1:(some x8_1)=some r:=by rw [if_pos rfl] at H;exact H
     clear H;have H:=H1;clear H1;obtain rfl:=Option.some.inj H
     go_wp2
     go_ret
     exact ⟨ze,zv0 HB⟩
    ·replace c8:=Bool.eq_false_iff.mpr c8;subst c8
     have H1:(slices_IndexFunc_int_int_ancepslaw42_ConflictChecks_1.l0 k1 l0 (l0.length:Int) (wrap64 (x8_1+1)) l1_0 l1_1 l1_2)=some r:=by rw [if_neg (show ¬ (false=true) by decide)] at H;exact H
     clear H;have H:=H1;clear H1;have H':=zA H;clear H
     go_wp2
     go_roundg k1
     case measure=>have:=HK1.out;omega
     case rel=>exact ⟨(wrap64 (x8_1+1)),zT,H',⟨by have:=HK1.out;omega⟩,⟨by refine zj ?_;exact BK55.out⟩,⟨zv0 HB⟩⟩
   ·obtain rfl:=Option.some.inj H
    go_wp2
    go_ret
    exact ⟨ze,zv0 HB⟩
def slices_ContainsFunc_int_int_ancepslaw42_ConflictChecks_1.f (k:Nat) (l0:List (List Int)) (l1_0:List Int) (l1_1:List (S96)) (l1_2:List Int):Option (Bool):=(slices_IndexFunc_int_int_ancepslaw42_ConflictChecks_1.f k l0 l1_0 l1_1 l1_2).bind fun t52=>(some (decide (t52≥0)))
set_option maxHeartbeats 8000000 in
set_option maxRecDepth 100000 in
theorem slices_ContainsFunc_int_int_ancepslaw42_ConflictChecks_1.calls (k:Nat) (A0:Option Addr) (c0:Nat) (l0:List (List Int)) (gp1_0:Nat) (A1_0:Option Addr) (c1_0:Nat) (l1_0:List Int) (A1_1:Option Addr) (c1_1:Nat) (l1_1:List (S96)) (A1_2:Option Addr) (c1_2:Nat) (l1_2:List Int) (r:Bool) (w:World) (hr0:Kd.C (Kd.slice 3 (Kd.int .i64)) w A0 l0.length l0) (hc0:l0.length≤c0) (hr1_0:Kd.C (Kd.int .i64) w A1_0 l1_0.length l1_0) (hc1_0:l1_0.length≤c1_0) (hr1_1:Kd.C k96 w A1_1 l1_1.length l1_1) (hc1_1:l1_1.length≤c1_1) (hr1_2:Kd.C (Kd.int .i64) w A1_2 l1_2.length l1_2) (hc1_2:l1_2.length≤c1_2) (hb_gp1_0:w.heap[gp1_0]?=some (.cells #[.slice A1_0 l1_0.length c1_0,.slice A1_1 l1_1.length c1_1,.slice A1_2 l1_2.length c1_2] 28 (0,0))) (h:slices_ContainsFunc_int_int_ancepslaw42_ConflictChecks_1.f k l0 l1_0 l1_1 l1_2=some r) :
  Calls Tryz.prog 15 #[.slice A0 l0.length c0,.func (.func 16) #[] #[.pointer (some ⟨gp1_0,0,none⟩)]] w fun e w'=>e=.returned (.bool r)∧Below w.heap.size w w':=by
 have HR0:=zA hr0;have HC0:=zA hc0;clear hr0 hc0;have HR1_0:=zA hr1_0;have HC1_0:=zA hc1_0;clear hr1_0 hc1_0;have HR1_1:=zA hr1_1;have HC1_1:=zA hc1_1;clear hr1_1 hc1_1;have HR1_2:=zA hr1_2;have HC1_2:=zA hc1_2;clear hr1_2 hc1_2;have BK56:=zA hb_gp1_0;clear hb_gp1_0;have HB:=zA (Below.refl w.heap.size w);have H:((slices_IndexFunc_int_int_ancepslaw42_ConflictChecks_1.f k l0 l1_0 l1_1 l1_2).bind fun t52=>(some (decide (t52≥0))))=some r:=h;clear h;obtain ⟨t52,A3,H⟩:=zo H;obtain rfl:=Option.some.inj H
 go_enter Tryz.func15,Tryz.ntmps15
 go_wp2_with (first|((with_reducible refine gate_callee (f:=45) rfl ?_);refine zgo 7 Tryz.func45 #[.slice A0 l0.length c0,.func (.func 16) #[] #[.pointer (some ⟨gp1_0,0,none⟩)]] ?_;(with_reducible refine (slices_IndexFunc_int_int_ancepslaw42_ConflictChecks_1.calls k _ _ l0 gp1_0 A1_0 c1_0 l1_0 A1_1 c1_1 l1_1 A1_2 c1_2 l1_2 t52 _ ?side1 HC0.out ?side3 HC1_0.out ?side5 HC1_1.out ?side7 HC1_2.out ?side9 A3.out).mono ?_);(case side1=>repeat (first|exact HR0.out|(with_reducible refine Kd.C_alloc ?_ _)|(with_reducible refine Kd.C_drewN ?_ _)|(with_reducible refine Kd.C_drew ?_)));(case side3=>repeat (first|exact HR1_0.out|(with_reducible refine Kd.C_alloc ?_ _)|(with_reducible refine Kd.C_drewN ?_ _)|(with_reducible refine Kd.C_drew ?_)));(case side5=>repeat (first|exact HR1_1.out|(with_reducible refine Kd.C_alloc ?_ _)|(with_reducible refine Kd.C_drewN ?_ _)|(with_reducible refine Kd.C_drew ?_)));(case side7=>repeat (first|exact HR1_2.out|(with_reducible refine Kd.C_alloc ?_ _)|(with_reducible refine Kd.C_drewN ?_ _)|(with_reducible refine Kd.C_drew ?_)));(case side9=>refine zj ?_;exact BK56.out);rintro e w4 ⟨rfl,hb⟩;refine ⟨_,rfl,?_⟩;replace BK56:=zw BK56 hb;replace HB:=zu hb;clear hb))
 go_ret
 exact ⟨ze,zv0 HB⟩
end Go.Proofs.YtkjghablbeaioaaGreat.B
