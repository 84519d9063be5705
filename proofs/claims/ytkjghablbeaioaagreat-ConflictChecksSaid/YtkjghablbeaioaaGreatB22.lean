import Derived.Test.YtkjghablbeaioaaGreatB0
import Derived.Test.YtkjghablbeaioaaGreatB10
import Derived.Test.YtkjghablbeaioaaGreatB14
import Derived.Test.YtkjghablbeaioaaGreatB19
import Derived.Test.YtkjghablbeaioaaGreatB21
namespace Go.Proofs.YtkjghablbeaioaaGreat.B
open Go.RowKit Go.Proofs.YtkjghablbeaioaaGreatW.PrintWords Go.Proofs.YtkjghablbeaioaaGreatW.PrintLast Go.Proofs.YtkjghablbeaioaaGreatW.PrintMore
attribute [local go_sem] max2_int min2_int max_two min_two max_three min_three max_four min_four Tryz.underlying23 Tryz.underlying26 Tryz.underlying28 Tryz.underlying3
set_option linter.unusedVariables false
set_option linter.unusedSimpArgs false
def ancepsref42_Check.l0:Nat→List (S49)→Int→List Int→List (S96)→List Int→Option (Bool)
 | 0,_,_,_,_,_=>none
 | k+1,x0,x5,x50,x58,x51=>if x5<(x50.length:Int) then ((ancepsref42_Without.f x50 x5).bind fun t52=>((ancepsref42_System.f k x0 t52).bind fun t53=>(if 0≤x5 then (if x5<(x51.length:Int) then ((ancepsref40_Holds.f k t53 (rd x51 x5)).bind fun t57=>(if t57=true then (ancepsref42_Check.l0 k x0 (wrap64 (x5+1)) x50 x58 x51) else (some false))) else (none)) else (none)))) else (some true)
def ancepsref42_Check.f (k:Nat) (l0:List (S49)) (l1_0:List Int) (l1_1:List (S96)) (l1_2:List Int):Option (Bool):=(ancepsref42_Valid.f k l0).bind fun t47=>(if t47=0 then ((ancepsref42_Is.f k l0 l1_0).bind fun t54=>(if t54=true then (if (l1_2.length:Int)=(l1_0.length:Int) then ((ancepsref42_System.f k l0 l1_0).bind fun t45=>((ancepsref40_Check.f k t45 l1_1).bind fun t48=>(if t48=true then (ancepsref42_Check.l0 k l0 0 l1_0 l1_1 l1_2) else (some false)))) else (some false)) else (some false))) else (some false))
def ancepsref42_Check.T1:Bool×List (List Nat×List Nat):=(true,[([],[]),([0],[0]),([1],[1]),([2,1],[2]),([3],[3]),([3],[3]),([5,3],[3,5]),([4,6,3,3],[3,4,6]),([7,3],[3,7]),([3,8],[3,8]),([9,7],[9]),([10],[10]),([11,10],[10,11]),([12,10],[10,12]),([10],[10]),([14,10],[10,14]),([15,10],[10,15]),([13,16,10],[10,13,16]),([10,17],[10,17]),([18,10],[18]),([19],[19]),([19],[19]),([21,19],[19,21]),([20,22,19,19],[19,20,22]),([19],[19]),([24,19],[19,24]),([23,25,23,19],[19,23,25]),([26,19],[19,26]),([19,27],[19,27])])
def ancepsref42_Check.B1:List Nat:=[0,1,3,7,15,15,47,127,255,511,1023,2047,4095,8191,2047,18431,51199,131071,262143,524287,1048575,1048575,3145727,8388607,1048575,17825791,67108863,134217727,268435455]
theorem ancepsref42_Check.tab1:rtab .any (opsOf Tryz.f12 1)=ancepsref42_Check.T1:=by kernel_rfl
theorem ancepsref42_Check.bits1:waitsOk ancepsref42_Check.T1.2 ancepsref42_Check.B1=true:=by kernel_rfl
def ancepsref42_Check.T6:Bool×List (List Nat×List Nat):=(true,[([],[]),([],[]),([1],[1]),([],[]),([2,3],[2,3]),([0,4,4],[0,4]),([],[]),([6],[6]),([],[]),([7,8],[7,8]),([9],[9]),([5,10,5],[5,10]),([11],[11])])
def ancepsref42_Check.B6:List Nat:=[0,0,2,0,14,31,0,64,0,448,960,2047,4095]
theorem ancepsref42_Check.tab6:rtab .any (opsOf Tryz.f12 6)=ancepsref42_Check.T6:=by kernel_rfl
theorem ancepsref42_Check.bits6:waitsOk ancepsref42_Check.T6.2 ancepsref42_Check.B6=true:=by kernel_rfl
set_option maxHeartbeats 8000000 in
set_option maxRecDepth 100000 in
theorem ancepsref42_Check.calls (k:Nat) (A0:Option Addr) (c0:Nat) (l0:List (S49)) (A1_0:Option Addr) (c1_0:Nat) (l1_0:List Int) (A1_1:Option Addr) (c1_1:Nat) (l1_1:List (S96)) (A1_2:Option Addr) (c1_2:Nat) (l1_2:List Int) (r:Bool) (w:World) (hr0:Kd.C k49 w A0 l0.length l0) (hc0:l0.length≤c0) (hr1_0:Kd.C (Kd.int .i64) w A1_0 l1_0.length l1_0) (hc1_0:l1_0.length≤c1_0) (hr1_1:Kd.C k96 w A1_1 l1_1.length l1_1) (hc1_1:l1_1.length≤c1_1) (hr1_2:Kd.C (Kd.int .i64) w A1_2 l1_2.length l1_2) (hc1_2:l1_2.length≤c1_2) (h:ancepsref42_Check.f k l0 l1_0 l1_1 l1_2=some r) :
  Calls Tryz.prog 12 #[.slice A0 l0.length c0,.agg #[.slice A1_0 l1_0.length c1_0,.slice A1_1 l1_1.length c1_1,.slice A1_2 l1_2.length c1_2]] w fun e w'=>e=.returned (.bool r)∧Below w.heap.size w w':=by
 have HR0:=zA hr0;have HC0:=zA hc0;clear hr0 hc0;have HR1_0:=zA hr1_0;have HC1_0:=zA hc1_0;clear hr1_0 hc1_0;have HR1_1:=zA hr1_1;have HC1_1:=zA hc1_1;clear hr1_1 hc1_1;have HR1_2:=zA hr1_2;have HC1_2:=zA hc1_2;clear hr1_2 hc1_2;have HB:=zA (Below.refl w.heap.size w);have H:((ancepsref42_Valid.f k l0).bind fun t47=>(if t47=0 then ((ancepsref42_Is.f k l0 l1_0).bind fun t54=>(if t54=true then (if (l1_2.length:Int)=(l1_0.length:Int) then ((ancepsref42_System.f k l0 l1_0).bind fun t45=>((ancepsref40_Check.f k t45 l1_1).bind fun t48=>(if t48=true then (ancepsref42_Check.l0 k l0 0 l1_0 l1_1 l1_2) else (some false)))) else (some false)) else (some false))) else (some false)))=some r:=h;clear h;have HC3:=zA H;clear H
 go_enter Tryz.func12,Tryz.ntmps12
 go_upto_region 1 with (first|((with_reducible refine gd 3 rfl ?_);(try (refine gate_guard (by rfl) ?_;dsimp only));refine zx #[.slice A1_0 l1_0.length c1_0,.slice A1_1 l1_1.length c1_1,.slice A1_2 l1_2.length c1_2] 28 ?_;intro gb43 hg w4 BK43 hb GW43 HB1;have GE43:=GW43;clear HB hb hg;have HB:=HB1;clear HB1))
 (try simp only [Act.put,zi,zs,zt]);have H:=HC3.out;clear HC3;obtain ⟨t47,A5,H⟩:=zo H
 rcases ife H with ⟨c6b0,c6b1,H⟩|⟨c6,c6b0,c6b1,H⟩
 ·(first|rw [c6b0]|(simp only [i64_w,i32_w];rw [c6b0])|skip)
  (try rw [c6b1]);obtain ⟨t54,A7,H⟩:=zo H
  by_cases c8:t54=true
  ·subst c8
   have H1:(if (l1_2.length:Int)=(l1_0.length:Int) then ((ancepsref42_System.f k l0 l1_0).bind fun t45=>((ancepsref40_Check.f k t45 l1_1).bind fun t48=>(if t48=true then (ancepsref42_Check.l0 k l0 0 l1_0 l1_1 l1_2) else (some false)))) else (some false))=some r:=by rw [if_pos rfl] at H;exact H
   clear H;have H:=H1;clear H1
   rcases if0 H with ⟨c9,H⟩|⟨c9,H⟩
   ·have c9b0:((l1_2.length:Int) == (l1_0.length:Int))=true:=beq_iff_eq.mpr c9;have c9b1:((l1_2.length:Int) != (l1_0.length:Int))=false:=bne_eq_false_iff_eq.mpr c9
    have c9b2:(l1_2.length == l1_0.length)=true:=by first|simpa using c9|(simp at c9 ⊢;omega)
    clear c9;obtain ⟨t45,A10,H⟩:=zo H;obtain ⟨t48,A11,H⟩:=zo H;have HC12:=zA H;clear H
    try go_wp2
    replace BK43:=zA (blk_drew BK43.out);replace HB:=zA (below_drew1 HB.out);refine start_ (n:=29) (S:=fun w'=>w'.cell? ⟨gb43,0,none⟩=some (.slice A1_0 l1_0.length c1_0)∧w'.cell? ⟨gb43,1,none⟩=some (.slice A1_1 l1_1.length c1_1)∧w'.cell? ⟨gb43,2,none⟩=some (.slice A1_2 l1_2.length c1_2)) (ds:=[]) (bz 29 0) zK rfl rfl ⟨zc0 BK43,zc1 BK43,zc2 BK43⟩ (fun hHeld=>?_);refine with_tabW ancepsref42_Check.tab1 ancepsref42_Check.bits1 (fun HT_ HW_=>?_)
    generalize w4.drew=w13 at BK43 HB hHeld ⊢
    refine zP 0 6 (bz 29 1) HT_ ?_;refine one_ (i:=1) (N:=some 7) (bz 29 3) rfl rfl (one_of HT_.out zK) (by decide) (fun K hK=>?_);refine goes_ Tryz.func28 zK rfl #[.slice A0 l0.length c0] (by rfl) rfl rfl zM ?_
    with_reducible refine (ancepsref42_Valid.calls k _ _ l0 t47 _ ?side1 ?side2 A5.out).mono ?_
    (case side1=>exact zC (Kd.C_below HR0.out HB.out));(case side2=>exact HC0.out);rintro e w14 ⟨rfl,hb⟩;refine ⟨_,rfl,?_⟩;replace BK43:=zw BK43 hb;replace HB:=zu hb;(try clear hb);(try clear hb2);(try clear hk);(try clear hi);refine hK.out _ _ ⟨zc0 BK43,zc1 BK43,zc2 BK43⟩ (fun hHeld=>?_);clear hK K;refine norm_ (a':=?_) ?_ ?_;rotate_left
    ·show Act.put _ (some 7) _=_
     simp only [Act.put,zi,zs,zt,i64_w,i32_w];rfl
    refine zP 2 8 (bz 29 7) HT_ ?_;refine zP 3 9 (bz 29 15) HT_ ?_;refine zP 4 10 (bz 29 31) HT_ ?_;refine zP 5 11 (bz 29 63) HT_ ?_;refine zQ 6 12 (bz 29 127) HT_ HW_ hHeld ?_;refine one_ (i:=7) (N:=some 13) (bz 29 255) rfl rfl (one_of HT_.out zK) (by decide) (fun K hK=>?_);refine goes_ Tryz.func38 zK rfl #[.slice A0 l0.length c0,.slice A1_0 l1_0.length c1_0] (by rfl) rfl rfl zM ?_
    with_reducible refine (ancepsref42_Is.calls k _ _ l0 _ _ l1_0 true _ ?side1 ?side2 ?side3 ?side4 A7.out).mono ?_
    (case side1=>exact zC (Kd.C_below HR0.out HB.out));(case side2=>exact HC0.out);(case side3=>exact zC (Kd.C_below HR1_0.out HB.out));(case side4=>exact HC1_0.out);rintro e w' ⟨rfl,⟨nd,rfl⟩⟩;refine ⟨_,rfl,?_⟩;refine hK.out _ _ ⟨zc0 BK43,zc1 BK43,zc2 BK43⟩ (fun hHeld=>?_);clear hK K;refine norm_ (a':=?_) ?_ ?_;rotate_left
    ·show Act.put _ (some 13) _=_
     simp only [Act.put,zi,zs,zt,i64_w,i32_w];rfl
    refine zP 8 14 (bz 29 511) HT_ ?_;refine zP 9 15 (bz 29 1023) HT_ ?_;refine zP 10 16 (bz 29 2047) HT_ ?_;refine zP 11 17 (bz 29 4095) HT_ ?_;refine zP 14 20 (bz 29 20479) HT_ ?_;refine zQ 12 18 (bz 29 24575) HT_ HW_ hHeld ?_;refine zP 13 19 (bz 29 32767) HT_ ?_;refine zQ 15 21 (bz 29 65535) HT_ HW_ hHeld ?_;refine zP 16 22 (bz 29 131071) HT_ ?_;refine zP 17 23 (bz 29 262143) HT_ ?_;refine zP 18 24 (bz 29 524287) HT_ ?_;refine zP 19 25 (bz 29 1048575) HT_ ?_;refine zP 20 26 (bz 29 2097151) HT_ ?_;refine zP 21 27 (bz 29 4194303) HT_ ?_;refine zP 24 30 (bz 29 20971519) HT_ ?_;refine zQ 22 28 (bz 29 25165823) HT_ HW_ hHeld ?_;refine zQ 25 31 (bz 29 58720255) HT_ HW_ hHeld ?_;refine one_ (i:=23) (N:=some 29) (bz 29 67108863) rfl rfl (one_of HT_.out zK) (by decide) (fun K hK=>?_);refine goes_ Tryz.func40 zK rfl #[.slice A0 l0.length c0,.slice A1_0 l1_0.length c1_0] (by rfl) rfl rfl zM ?_
    with_reducible refine (ancepsref42_System.calls k (fun k_=>k_<w.heap.size) _ _ l0 _ _ l1_0 t45 _ ?side1 ?side2 ?side3 A10.out).mono ?_
    (case side1=>exact Kd.V_mk HC0.out (Kd.F_below (Kd.C_F k49_heap HR0.out) zB));(case side2=>repeat (first|exact (Kd.C_below HR1_0.out zB)|(with_reducible refine Kd.C_alloc ?_ _)|(with_reducible refine Kd.C_drewN ?_ _)|(with_reducible refine Kd.C_drew ?_)));(case side3=>exact HC1_0.out);rintro e w15 ⟨v59,rfl,ho0,hb⟩;refine ⟨_,rfl,?_⟩;have HO55:=zA (Kd.N_lower (Kd.N_mono (ok':=fun k_=>k_≠gb43) ho0 (fun k_ hk_=>Or.elim hk_ (fun hs_=>fun e_=>Nat.not_le.2 hs_ (by rw [e_];exact GW43.out)) (fun hn_=>(Kd.freshB (g:=gb43) (o:=.cells #[.slice A1_0 l1_0.length c1_0,.slice A1_1 l1_1.length c1_1,.slice A1_2 l1_2.length c1_2] 28 (0,0)) (zk BK43) k_ hn_)))) (below_size zB));replace BK43:=zw BK43 hb;replace HB:=zu hb;(try clear hb);(try clear hb2);(try clear hk);(try clear hi);(try clear ho0);obtain ⟨Ao16,co16,eo16⟩:=Kd.N_slice HO55.out
    (first|subst eo16|(injection eo16 with f1_ f2_ f3_;have f4_:=f1_.symm;have f5_:=f3_.symm;clear f1_ f2_ f3_;subst f4_;subst f5_))
    refine hK.out _ _ ⟨zc0 BK43,zc1 BK43,zc2 BK43⟩ (fun hHeld=>?_);clear hK K;refine norm_ (a':=?_) ?_ ?_;rotate_left
    ·show Act.put _ (some 29) _=_
     simp only [Act.put,zi,zs,zt,i64_w,i32_w];rfl
    refine one_ (i:=26) (N:=some 32) (bz 29 134217727) rfl rfl (one_of HT_.out zK) (by decide) (fun K hK=>?_);refine goes_ Tryz.func39 zK rfl #[.slice Ao16 t45.length co16,.agg #[.slice A1_1 l1_1.length c1_1]] (by rfl) rfl rfl zM ?_
    with_reducible refine (ancepsref40_Check.calls k _ _ t45 _ _ l1_1 t48 _ ?side1 ?side2 ?side3 ?side4 A11.out).mono ?_
    (case side1=>exact zC (Kd.N_reads' HO55.out).2.2);(case side2=>exact (Kd.N_reads' HO55.out).2.1);(case side3=>exact zC (Kd.C_below HR1_1.out HB.out));(case side4=>exact HC1_1.out);rintro e w17 ⟨rfl,hb⟩;refine ⟨_,rfl,?_⟩;replace HO55:=zA (Kd.N_below (zN HO55) hb);replace BK43:=zw BK43 hb;replace HB:=zu hb;(try clear hb);(try clear hb2);(try clear hk);(try clear hi);refine hK.out _ _ ⟨zc0 BK43,zc1 BK43,zc2 BK43⟩ (fun hHeld=>?_);clear hK K;refine norm_ (a':=?_) ?_ ?_;rotate_left
    ·show Act.put _ (some 32) _=_
     simp only [Act.put,zi,zs,zt,i64_w,i32_w];rfl
    refine zP 27 33 (bz 29 268435455) HT_ ?_;refine zP 28 34 (bz 29 536870911) HT_ ?_;refine done_ (done_of HT_.out zK) ?_
    go_upto_if 34 with (fail)
    (try simp only [Act.put,zi,zs,zt]);have H:=HC12.out;clear HC12
    by_cases c18:t48=true
    ·subst c18
     have H1:(ancepsref42_Check.l0 k l0 0 l1_0 l1_1 l1_2)=some r:=by rw [if_pos rfl] at H;exact H
     clear H;have H:=H1;clear H1;have H':=zA H;clear H
     go_wp2
     go_loopg [5] k (fun kq v5 w'=>∃ (x5_1:Int),v5=.int .i64 x5_1∧Aside0 (ancepsref42_Check.l0 kq l0 x5_1 l1_0 l1_1 l1_2=some r)∧Aside0 (kq≤k)∧Aside0 (w'.heap[gb43]?=some (.cells #[(.slice A1_0 l1_0.length c1_0),(.slice A1_1 l1_1.length c1_1),(.slice A1_2 l1_2.length c1_2)] 28 (0,0)))∧Aside0 (Below w.heap.size w w'))
     case atStart=>exact ⟨(0),zT,H',⟨Nat.le_refl _⟩,⟨by refine zj ?_;exact BK43.out⟩,⟨zv1 HB GE43⟩⟩
     case round=>
      clear H'
      try clear c6
      try clear c6b0
      try clear c6b1
      try clear c8
      try clear c9
      try clear c9b0
      try clear c9b1
      try clear c9b2
      try clear c18
      obtain ⟨x5_1,rfl,HA,HK1,BK43,HB⟩:=hrel
      cases gk with
      | zero=>exact absurd HA.out (by simp [ancepsref42_Check.l0])
      | succ k1=>
       have H:=HA.out;clear HA;simp only [ancepsref42_Check.l0] at H
       rcases ifd H with ⟨c19b0,H⟩|⟨c19b0,H⟩
       ·(first|rw [c19b0]|(simp only [i64_w,i32_w];rw [c19b0])|skip)
        obtain ⟨t52,A20,H⟩:=zo H;obtain ⟨t53,A21,H⟩:=zo H;obtain ⟨c22b0,H⟩:=ifd1 H;obtain ⟨c23b0,H⟩:=ifd1 H;obtain ⟨t57,A24,H⟩:=zo H;have HC25:=zA H;clear H;have hcz26_0:=zc0 BK43;have hcz26_1:=zc1 BK43;have hcz26_2:=zc2 BK43;have hfz26_0:=zf BK43
        try go_wp2
        replace BK43:=zA (blk_drew BK43.out);replace HB:=zA (below_drew1 HB.out);obtain ⟨p44,q44,ad44,e44,hx44_0⟩:=zp (Kd.at_int HR1_2.out x5_1);have hw44_0:=hx44_0
        cases e44
        replace hx44_0:=zd HB hx44_0;replace p44:=eq_true p44;replace q44:=eq_true q44;refine start_ (n:=13) (S:=fun w'=>w'.cell? ⟨gb43,0,none⟩=some (.slice A1_0 l1_0.length c1_0)∧w'.cell? ⟨gb43,1,none⟩=some (.slice A1_1 l1_1.length c1_1)∧w'.cell? ⟨gb43,2,none⟩=some (.slice (some ad44) l1_2.length c1_2)∧w'.cell? (ad44.add (x5_1).toNat)=some (.int .i64 (rd l1_2 x5_1))) (ds:=[]) (bz 13 0) zK rfl rfl ⟨zc0 BK43,zc1 BK43,zc2 BK43,((HB.out.cell (World.block_lt_of_cell? w _ hw44_0)).trans hw44_0)⟩ (fun hHeld=>?_);refine with_tabW ancepsref42_Check.tab6 ancepsref42_Check.bits6 (fun HT_ HW_=>?_)
        generalize wr.drew=w27 at BK43 HB hx44_0 hHeld ⊢
        refine zP 0 42 (bz 13 1) HT_ ?_;refine zP 1 43 (bz 13 3) HT_ ?_;refine zP 3 45 (bz 13 11) HT_ ?_;refine zP 6 48 (bz 13 75) HT_ ?_;refine zP 8 50 (bz 13 331) HT_ ?_;refine zQ 2 44 (bz 13 335) HT_ HW_ hHeld ?_;refine zQ 7 49 (bz 13 463) HT_ HW_ hHeld ?_;refine zP 9 51 (bz 13 975) HT_ ?_;refine zQ 10 52 (bz 13 1999) HT_ HW_ hHeld ?_;refine one_ (i:=4) (N:=some 46) (bz 13 2015) rfl rfl (one_of HT_.out zK) (by decide) (fun K hK=>?_);refine goes_ Tryz.func42 zK rfl #[.slice A1_0 l1_0.length c1_0,.int .i64 x5_1] (by rfl) rfl rfl zM ?_
        with_reducible refine (ancepsref42_Without.calls _ _ l1_0 x5_1 t52 _ ?side1 ?side2 A20.out).mono ?_
        (case side1=>exact zC (Kd.C_below HR1_0.out HB.out));(case side2=>exact HC1_0.out);rintro e w28 ⟨v60,rfl,ho0,hb⟩;refine ⟨_,rfl,?_⟩;have HO46:=zA (Kd.R_lower ho0 (below_size zB));replace BK43:=zw BK43 hb;replace HB:=zu hb;(try clear hb);(try clear hb2);(try clear hk);(try clear hi);(try clear ho0);obtain ⟨Ao29,co29,eo29⟩:=Kd.R_slice HO46.out
        (first|subst eo29|(injection eo29 with f1_ f2_ f3_;have f4_:=f1_.symm;have f5_:=f3_.symm;clear f1_ f2_ f3_;subst f4_;subst f5_))
        refine hK.out _ _ ⟨zc0 BK43,zc1 BK43,zc2 BK43,((HB.out.cell (World.block_lt_of_cell? w _ hw44_0)).trans hw44_0)⟩ (fun hHeld=>?_);clear hK K;refine norm_ (a':=?_) ?_ ?_;rotate_left
        ·show Act.put _ (some 46) _=_
         simp only [Act.put,zi,zs,zt,i64_w,i32_w];rfl
        refine one_ (i:=5) (N:=some 47) (bz 13 2047) rfl rfl (one_of HT_.out zK) (by decide) (fun K hK=>?_);refine goes_ Tryz.func40 zK rfl #[.slice A0 l0.length c0,.slice Ao29 t52.length co29] (by rfl) rfl rfl zM ?_
        with_reducible refine (ancepsref42_System.calls k1 (fun k_=>k_<w.heap.size) _ _ l0 _ _ t52 t53 _ ?side1 ?side2 ?side3 A21.out).mono ?_
        (case side1=>exact Kd.V_mk HC0.out (Kd.F_below (Kd.C_F k49_heap HR0.out) zB));(case side2=>exact zC (Kd.R_reads' HO46.out).2.2);(case side3=>exact (Kd.R_reads' HO46.out).2.1);rintro e w30 ⟨v61,rfl,ho0,hb⟩;refine ⟨_,rfl,?_⟩;have HO56:=zA (Kd.N_lower (Kd.N_mono (ok':=fun k_=>some k_≠(.slice Ao29 t52.length co29:Value).ownBlock∧k_≠gb43) ho0 (fun k_ hk_=>⟨Or.elim hk_ (fun hs_=>fun e_=>Nat.not_le.2 hs_ (Kd.R_base HO46.out k_ e_.symm)) (fun hn_=>(Kd.fresh' (Kd.R_lt (zR HO46)) k_ hn_)),Or.elim hk_ (fun hs_=>fun e_=>Nat.not_le.2 hs_ (by rw [e_];exact GW43.out)) (fun hn_=>(Kd.freshB (g:=gb43) (o:=.cells #[.slice A1_0 l1_0.length c1_0,.slice A1_1 l1_1.length c1_1,.slice (some ad44) l1_2.length c1_2] 28 (0,0)) (zk BK43) k_ hn_))⟩)) (below_size zB));replace HO46:=zA (Kd.R_below (zR HO46) hb);replace BK43:=zw BK43 hb;replace HB:=zu hb;(try clear hb);(try clear hb2);(try clear hk);(try clear hi);(try clear ho0);obtain ⟨Ao31,co31,eo31⟩:=Kd.N_slice HO56.out
        (first|subst eo31|(injection eo31 with f1_ f2_ f3_;have f4_:=f1_.symm;have f5_:=f3_.symm;clear f1_ f2_ f3_;subst f4_;subst f5_))
        refine hK.out _ _ ⟨zc0 BK43,zc1 BK43,zc2 BK43,((HB.out.cell (World.block_lt_of_cell? w _ hw44_0)).trans hw44_0)⟩ (fun hHeld=>?_);clear hK K;refine norm_ (a':=?_) ?_ ?_;rotate_left
        ·show Act.put _ (some 47) _=_
         simp only [Act.put,zi,zs,zt,i64_w,i32_w];rfl
        refine one_ (i:=11) (N:=some 53) (bz 13 4095) rfl rfl (one_of HT_.out zK) (by decide) (fun K hK=>?_);refine goes_ Tryz.func41 zK rfl #[.slice Ao31 t53.length co31,.int .i64 (rd l1_2 x5_1)] (by rfl) rfl rfl zM ?_
        with_reducible refine (ancepsref40_Holds.calls k1 _ _ t53 (rd l1_2 x5_1) t57 _ ?side1 ?side2 A24.out).mono ?_
        (case side1=>exact zC (Kd.N_reads' HO56.out).2.2);(case side2=>exact (Kd.N_reads' HO56.out).2.1);rintro e w32 ⟨rfl,hb⟩;refine ⟨_,rfl,?_⟩;replace HO46:=zA (Kd.R_below (zR HO46) hb);replace HO56:=zA (Kd.N_below (zN HO56) hb);replace BK43:=zw BK43 hb;replace HB:=zu hb;(try clear hb);(try clear hb2);(try clear hk);(try clear hi);refine hK.out _ _ ⟨zc0 BK43,zc1 BK43,zc2 BK43,((HB.out.cell (World.block_lt_of_cell? w _ hw44_0)).trans hw44_0)⟩ (fun hHeld=>?_);clear hK K;refine norm_ (a':=?_) ?_ ?_;rotate_left
        ·show Act.put _ (some 53) _=_
         simp only [Act.put,zi,zs,zt,i64_w,i32_w];rfl
        refine zP 12 54 (bz 13 8191) HT_ ?_;refine done_ (done_of HT_.out zK) ?_
        go_upto_if 54 with (fail)
        (try simp only [Act.put,zi,zs,zt]);have H:=HC25.out;clear HC25
        by_cases c33:t57=true
        ·subst c33
         have H1:(ancepsref42_Check.l0 k1 l0 (wrap64 (x5_1+1)) l1_0 l1_1 l1_2)=some r:=by rw [if_pos rfl] at H;exact H
         clear H;have H:=H1;clear H1;have H':=zA H;clear H
         go_wp2
         go_roundg k1
         case measure=>have:=HK1.out;omega
         case rel=>exact ⟨(wrap64 (x5_1+1)),zT,H',⟨by have:=HK1.out;omega⟩,⟨by refine zj ?_;exact BK43.out⟩,⟨zv1 HB GE43⟩⟩
        ·replace c33:=Bool.eq_false_iff.mpr c33;subst c33
         have H1:(some false)=some r:=by rw [if_neg (show ¬ (false=true) by decide)] at H;exact H
         clear H;have H:=H1;clear H1;obtain rfl:=Option.some.inj H
         go_wp2
         go_ret
         exact ⟨ze,zv1 HB GE43⟩
       ·(first|rw [c19b0]|(simp only [i64_w,i32_w];rw [c19b0])|skip)
        obtain rfl:=Option.some.inj H;have hcz34_0:=zc0 BK43;have hcz34_1:=zc1 BK43;have hcz34_2:=zc2 BK43;have hfz34_0:=zf BK43
        go_wp2
        go_ret
        exact ⟨ze,zv1 HB GE43⟩
    ·replace c18:=Bool.eq_false_iff.mpr c18;subst c18
     have H1:(some false)=some r:=by rw [if_neg (show ¬ (false=true) by decide)] at H;exact H
     clear H;have H:=H1;clear H1;obtain rfl:=Option.some.inj H
     go_wp2
     go_ret
     exact ⟨ze,zv1 HB GE43⟩
   ·have c9b0:((l1_2.length:Int) == (l1_0.length:Int))=false:=beq_eq_false_iff_ne.mpr c9;have c9b1:((l1_2.length:Int) != (l1_0.length:Int))=true:=bne_iff_ne.mpr c9
    have c9b2:(l1_2.length == l1_0.length)=false:=by first|simpa using c9|(simp at c9 ⊢;omega)
    obtain rfl:=Option.some.inj H
    try go_wp2
    replace BK43:=zA (blk_drew BK43.out);replace HB:=zA (below_drew1 HB.out);refine start_ (n:=29) (S:=fun w'=>w'.cell? ⟨gb43,0,none⟩=some (.slice A1_0 l1_0.length c1_0)∧w'.cell? ⟨gb43,1,none⟩=some (.slice A1_1 l1_1.length c1_1)∧w'.cell? ⟨gb43,2,none⟩=some (.slice A1_2 l1_2.length c1_2)) (ds:=[]) (bz 29 0) zK rfl rfl ⟨zc0 BK43,zc1 BK43,zc2 BK43⟩ (fun hHeld=>?_);refine with_tabW ancepsref42_Check.tab1 ancepsref42_Check.bits1 (fun HT_ HW_=>?_)
    generalize w4.drew=w35 at BK43 HB hHeld ⊢
    refine zP 0 6 (bz 29 1) HT_ ?_;refine one_ (i:=1) (N:=some 7) (bz 29 3) rfl rfl (one_of HT_.out zK) (by decide) (fun K hK=>?_);refine goes_ Tryz.func28 zK rfl #[.slice A0 l0.length c0] (by rfl) rfl rfl zM ?_
    with_reducible refine (ancepsref42_Valid.calls k _ _ l0 t47 _ ?side1 ?side2 A5.out).mono ?_
    (case side1=>exact zC (Kd.C_below HR0.out HB.out));(case side2=>exact HC0.out);rintro e w36 ⟨rfl,hb⟩;refine ⟨_,rfl,?_⟩;replace BK43:=zw BK43 hb;replace HB:=zu hb;(try clear hb);(try clear hb2);(try clear hk);(try clear hi);refine hK.out _ _ ⟨zc0 BK43,zc1 BK43,zc2 BK43⟩ (fun hHeld=>?_);clear hK K;refine norm_ (a':=?_) ?_ ?_;rotate_left
    ·show Act.put _ (some 7) _=_
     simp only [Act.put,zi,zs,zt,i64_w,i32_w];rfl
    refine zP 2 8 (bz 29 7) HT_ ?_;refine zP 3 9 (bz 29 15) HT_ ?_;refine zP 4 10 (bz 29 31) HT_ ?_;refine zP 5 11 (bz 29 63) HT_ ?_;refine zQ 6 12 (bz 29 127) HT_ HW_ hHeld ?_;refine one_ (i:=7) (N:=some 13) (bz 29 255) rfl rfl (one_of HT_.out zK) (by decide) (fun K hK=>?_);refine goes_ Tryz.func38 zK rfl #[.slice A0 l0.length c0,.slice A1_0 l1_0.length c1_0] (by rfl) rfl rfl zM ?_
    with_reducible refine (ancepsref42_Is.calls k _ _ l0 _ _ l1_0 true _ ?side1 ?side2 ?side3 ?side4 A7.out).mono ?_
    (case side1=>exact zC (Kd.C_below HR0.out HB.out));(case side2=>exact HC0.out);(case side3=>exact zC (Kd.C_below HR1_0.out HB.out));(case side4=>exact HC1_0.out);rintro e w' ⟨rfl,⟨nd,rfl⟩⟩;refine ⟨_,rfl,?_⟩;refine hK.out _ _ ⟨zc0 BK43,zc1 BK43,zc2 BK43⟩ (fun hHeld=>?_);clear hK K;refine norm_ (a':=?_) ?_ ?_;rotate_left
    ·show Act.put _ (some 13) _=_
     simp only [Act.put,zi,zs,zt,i64_w,i32_w];rfl
    refine zP 8 14 (bz 29 511) HT_ ?_;refine zP 9 15 (bz 29 1023) HT_ ?_;refine zP 10 16 (bz 29 2047) HT_ ?_;refine zP 11 17 (bz 29 4095) HT_ ?_;refine zP 14 20 (bz 29 20479) HT_ ?_;refine zQ 12 18 (bz 29 24575) HT_ HW_ hHeld ?_;refine zP 13 19 (bz 29 32767) HT_ ?_;refine zQ 15 21 (bz 29 65535) HT_ HW_ hHeld ?_;refine zP 16 22 (bz 29 131071) HT_ ?_;refine zP 17 23 (bz 29 262143) HT_ ?_;refine zP 18 24 (bz 29 524287) HT_ ?_;refine zP 19 25 (bz 29 1048575) HT_ ?_;refine zU 20 26 (bz 29 2097151) HT_ ?_;refine zU 21 27 (bz 29 4194303) HT_ ?_;refine zU 22 28 (bz 29 8388607) HT_ ?_;refine zU 23 29 (bz 29 16777215) HT_ ?_;refine zU 24 30 (bz 29 33554431) HT_ ?_;refine zU 25 31 (bz 29 67108863) HT_ ?_;refine zU 26 32 (bz 29 134217727) HT_ ?_;refine zU 27 33 (bz 29 268435455) HT_ ?_;refine zP 28 34 (bz 29 536870911) HT_ ?_;refine done_ (done_of HT_.out zK) ?_
    try go_wp2
    go_ret
    exact ⟨ze,zv1 HB GE43⟩
  ·replace c8:=Bool.eq_false_iff.mpr c8;subst c8
   have H1:(some false)=some r:=by rw [if_neg (show ¬ (false=true) by decide)] at H;exact H
   clear H;have H:=H1;clear H1;obtain rfl:=Option.some.inj H
   try go_wp2
   replace BK43:=zA (blk_drew BK43.out);replace HB:=zA (below_drew1 HB.out);refine start_ (n:=29) (S:=fun w'=>w'.cell? ⟨gb43,0,none⟩=some (.slice A1_0 l1_0.length c1_0)∧w'.cell? ⟨gb43,1,none⟩=some (.slice A1_1 l1_1.length c1_1)∧w'.cell? ⟨gb43,2,none⟩=some (.slice A1_2 l1_2.length c1_2)) (ds:=[]) (bz 29 0) zK rfl rfl ⟨zc0 BK43,zc1 BK43,zc2 BK43⟩ (fun hHeld=>?_);refine with_tabW ancepsref42_Check.tab1 ancepsref42_Check.bits1 (fun HT_ HW_=>?_)
   generalize w4.drew=w37 at BK43 HB hHeld ⊢
   refine zP 0 6 (bz 29 1) HT_ ?_;refine one_ (i:=1) (N:=some 7) (bz 29 3) rfl rfl (one_of HT_.out zK) (by decide) (fun K hK=>?_);refine goes_ Tryz.func28 zK rfl #[.slice A0 l0.length c0] (by rfl) rfl rfl zM ?_
   with_reducible refine (ancepsref42_Valid.calls k _ _ l0 t47 _ ?side1 ?side2 A5.out).mono ?_
   (case side1=>exact zC (Kd.C_below HR0.out HB.out));(case side2=>exact HC0.out);rintro e w38 ⟨rfl,hb⟩;refine ⟨_,rfl,?_⟩;replace BK43:=zw BK43 hb;replace HB:=zu hb;(try clear hb);(try clear hb2);(try clear hk);(try clear hi);refine hK.out _ _ ⟨zc0 BK43,zc1 BK43,zc2 BK43⟩ (fun hHeld=>?_);clear hK K;refine norm_ (a':=?_) ?_ ?_;rotate_left
   ·show Act.put _ (some 7) _=_
    simp only [Act.put,zi,zs,zt,i64_w,i32_w];rfl
   refine zP 2 8 (bz 29 7) HT_ ?_;refine zP 3 9 (bz 29 15) HT_ ?_;refine zP 4 10 (bz 29 31) HT_ ?_;refine zP 5 11 (bz 29 63) HT_ ?_;refine zQ 6 12 (bz 29 127) HT_ HW_ hHeld ?_;refine one_ (i:=7) (N:=some 13) (bz 29 255) rfl rfl (one_of HT_.out zK) (by decide) (fun K hK=>?_);refine goes_ Tryz.func38 zK rfl #[.slice A0 l0.length c0,.slice A1_0 l1_0.length c1_0] (by rfl) rfl rfl zM ?_
   with_reducible refine (ancepsref42_Is.calls k _ _ l0 _ _ l1_0 false _ ?side1 ?side2 ?side3 ?side4 A7.out).mono ?_
   (case side1=>exact zC (Kd.C_below HR0.out HB.out));(case side2=>exact HC0.out);(case side3=>exact zC (Kd.C_below HR1_0.out HB.out));(case side4=>exact HC1_0.out);rintro e w' ⟨rfl,⟨nd,rfl⟩⟩;refine ⟨_,rfl,?_⟩;refine hK.out _ _ ⟨zc0 BK43,zc1 BK43,zc2 BK43⟩ (fun hHeld=>?_);clear hK K;refine norm_ (a':=?_) ?_ ?_;rotate_left
   ·show Act.put _ (some 13) _=_
    simp only [Act.put,zi,zs,zt,i64_w,i32_w];rfl
   refine zP 8 14 (bz 29 511) HT_ ?_;refine zP 9 15 (bz 29 1023) HT_ ?_;refine zP 10 16 (bz 29 2047) HT_ ?_;refine zU 11 17 (bz 29 4095) HT_ ?_;refine zU 12 18 (bz 29 8191) HT_ ?_;refine zU 13 19 (bz 29 16383) HT_ ?_;refine zU 14 20 (bz 29 32767) HT_ ?_;refine zU 15 21 (bz 29 65535) HT_ ?_;refine zU 16 22 (bz 29 131071) HT_ ?_;refine zU 17 23 (bz 29 262143) HT_ ?_;refine zP 18 24 (bz 29 524287) HT_ ?_;refine zP 19 25 (bz 29 1048575) HT_ ?_;refine zU 20 26 (bz 29 2097151) HT_ ?_;refine zU 21 27 (bz 29 4194303) HT_ ?_;refine zU 22 28 (bz 29 8388607) HT_ ?_;refine zU 23 29 (bz 29 16777215) HT_ ?_;refine zU 24 30 (bz 29 33554431) HT_ ?_;refine zU 25 31 (bz 29 67108863) HT_ ?_;refine zU 26 32 (bz 29 134217727) HT_ ?_;refine zU 27 33 (bz 29 268435455) HT_ ?_;refine zP 28 34 (bz 29 536870911) HT_ ?_;refine done_ (done_of HT_.out zK) ?_
   try go_wp2
   go_ret
   exact ⟨ze,zv1 HB GE43⟩
 ·(first|rw [c6b0]|(simp only [i64_w,i32_w];rw [c6b0])|skip)
  (try rw [c6b1]);obtain rfl:=Option.some.inj H
  try go_wp2
  replace BK43:=zA (blk_drew BK43.out);replace HB:=zA (below_drew1 HB.out);refine start_ (n:=29) (S:=fun w'=>True) (ds:=[]) (bz 29 0) zK rfl rfl trivial (fun hHeld=>?_);refine with_tabW ancepsref42_Check.tab1 ancepsref42_Check.bits1 (fun HT_ HW_=>?_)
  generalize w4.drew=w39 at BK43 HB hHeld ⊢
  refine zP 0 6 (bz 29 1) HT_ ?_;refine one_ (i:=1) (N:=some 7) (bz 29 3) rfl rfl (one_of HT_.out zK) (by decide) (fun K hK=>?_);refine goes_ Tryz.func28 zK rfl #[.slice A0 l0.length c0] (by rfl) rfl rfl zM ?_
  with_reducible refine (ancepsref42_Valid.calls k _ _ l0 t47 _ ?side1 ?side2 A5.out).mono ?_
  (case side1=>exact zC (Kd.C_below HR0.out HB.out));(case side2=>exact HC0.out);rintro e w40 ⟨rfl,hb⟩;refine ⟨_,rfl,?_⟩;replace BK43:=zw BK43 hb;replace HB:=zu hb;(try clear hb);(try clear hb2);(try clear hk);(try clear hi);refine hK.out _ _ trivial (fun hHeld=>?_);clear hK K;refine norm_ (a':=?_) ?_ ?_;rotate_left
  ·show Act.put _ (some 7) _=_
   simp only [Act.put,zi,zs,zt,i64_w,i32_w];rfl
  refine zP 2 8 (bz 29 7) HT_ ?_;refine zP 3 9 (bz 29 15) HT_ ?_;refine zU 4 10 (bz 29 31) HT_ ?_;refine zU 5 11 (bz 29 63) HT_ ?_;refine zU 6 12 (bz 29 127) HT_ ?_;refine zU 7 13 (bz 29 255) HT_ ?_;refine zU 8 14 (bz 29 511) HT_ ?_;refine zP 9 15 (bz 29 1023) HT_ ?_;refine zP 10 16 (bz 29 2047) HT_ ?_;refine zU 11 17 (bz 29 4095) HT_ ?_;refine zU 12 18 (bz 29 8191) HT_ ?_;refine zU 13 19 (bz 29 16383) HT_ ?_;refine zU 14 20 (bz 29 32767) HT_ ?_;refine zU 15 21 (bz 29 65535) HT_ ?_;refine zU 16 22 (bz 29 131071) HT_ ?_;refine zU 17 23 (bz 29 262143) HT_ ?_;refine zP 18 24 (bz 29 524287) HT_ ?_;refine zP 19 25 (bz 29 1048575) HT_ ?_;refine zU 20 26 (bz 29 2097151) HT_ ?_;refine zU 21 27 (bz 29 4194303) HT_ ?_;refine zU 22 28 (bz 29 8388607) HT_ ?_;refine zU 23 29 (bz 29 16777215) HT_ ?_;refine zU 24 30 (bz 29 33554431) HT_ ?_;refine zU 25 31 (bz 29 67108863) HT_ ?_;refine zU 26 32 (bz 29 134217727) HT_ ?_;refine zU 27 33 (bz 29 268435455) HT_ ?_;refine zP 28 34 (bz 29 536870911) HT_ ?_;refine done_ (done_of HT_.out zK) ?_
  try go_wp2
  go_ret
  exact ⟨ze,zv1 HB GE43⟩
end Go.Proofs.YtkjghablbeaioaaGreat.B
