import Derived.Test.YtkjghablbeaioaaGreatB0
import Derived.Test.YtkjghablbeaioaaGreatB2
import Derived.Test.YtkjghablbeaioaaGreatB9
import Derived.Test.YtkjghablbeaioaaGreatB11
import Derived.Test.YtkjghablbeaioaaGreatB13
import Derived.Test.YtkjghablbeaioaaGreatB15
import Derived.Test.YtkjghablbeaioaaGreatB19
import Derived.Test.YtkjghablbeaioaaGreatB22
import Derived.Test.YtkjghablbeaioaaGreatB23
namespace Go.Proofs.YtkjghablbeaioaaGreat.B
open Go.RowKit Go.Proofs.YtkjghablbeaioaaGreatW.PrintWords Go.Proofs.YtkjghablbeaioaaGreatW.PrintLast Go.Proofs.YtkjghablbeaioaaGreatW.PrintMore
attribute [local go_sem] max2_int min2_int max_two min_two max_three min_three max_four min_four Tryz.underlying23 Tryz.underlying28
set_option linter.unusedVariables false
set_option linter.unusedSimpArgs false
def ancepslaw42_ConflictChecks.f (k:Nat) (l0:List (S49)) (l1_0:List Int) (l1_1:List (S96)) (l1_2:List Int) (l2:List Int):Option (Bool):=(ancepslaw42_awake.f k).bind fun t92=>(if t92=true then ((ancepsref42_Few.f k l0).bind fun t90=>(if t90=true then ((ancepsref42_FewCore.f l1_0 l1_1 l1_2).bind fun t88=>(if t88=true then (if (l2.length:Int)>40 then ((ancepslaw42_awake.f k).bind fun t86=>(some t86)) else ((ancepslaw42_copied.f k l0).bind fun t80=>((conflict_Check.f k t80 l1_0 l1_1 l1_2).bind fun t78=>((ancepslaw42_copied.f k l0).bind fun t81=>((slices_Clone_int_int.f l2).bind fun t82=>((conflict_CheckSmallest.f k t81 l1_0 l1_1 l1_2 t82).bind fun t75=>((ancepsref42_Check.f k l0 l1_0 l1_1 l1_2).bind fun t83=>(if (t78 != t83)=true then (none) else ((ancepsref42_CheckSmallest.f k l0 l1_0 l1_1 l1_2 l2).bind fun t84=>(if (t75 != t84)=true then (none) else ((ancepsref42_Cores.f k l0).bind fun bt73=>((slices_ContainsFunc_int_int_ancepslaw42_ConflictChecks_1.f k bt73.1 l1_0 l1_1 l1_2).bind fun t85=>(if t78=true then (if t85=true then (if t75=true then (if (bt73.1.length:Int)>0 then (if 0<(bt73.1.length:Int) then (some (((rd_L1 bt73.1 0).length:Int) == (l1_0.length:Int))) else (none)) else (none)) else (some true)) else (none)) else (if t75=true then (none) else (some true))))))))))))))) else ((ancepslaw42_awake.f k).bind fun t87=>(some t87)))) else ((ancepslaw42_awake.f k).bind fun t89=>(some t89)))) else ((ancepslaw42_awake.f k).bind fun t91=>(some t91)))
def ancepslaw42_ConflictChecks.T3:Bool×List (List Nat×List Nat):=(true,[([],[]),([0],[0]),([],[]),([1,2,1],[1,2]),([],[]),([4,3],[4]),([],[]),([],[]),([7,5],[7]),([5,6,8,8],[5,6,8]),([3,9,0,1,2,3],[3]),([9,10,0,1,2,3,4,5,6,7,8,9,10],[9])])
def ancepslaw42_ConflictChecks.B3:List Nat:=[0,1,0,7,0,31,0,0,191,511,1023,2047]
theorem ancepslaw42_ConflictChecks.tab3:rtab .any (opsOf Tryz.f3 3)=ancepslaw42_ConflictChecks.T3:=by kernel_rfl
theorem ancepslaw42_ConflictChecks.bits3:waitsOk ancepslaw42_ConflictChecks.T3.2 ancepslaw42_ConflictChecks.B3=true:=by kernel_rfl
def ancepslaw42_ConflictChecks.T8:Bool×List (List Nat×List Nat):=(true,[([],[]),([0],[0]),([1],[1]),([2],[2]),([2,3],[2,3]),([4,2],[4]),([5],[5]),([6,5],[5,6]),([7,5,5],[5,7]),([8],[8]),([9,8,8],[8,9]),([10],[10]),([11,10],[10,11]),([12,10],[10,12]),([10,13,8],[8,10,13]),([14,10,8],[8,14]),([15],[15]),([16,15],[15,16]),([17,15],[15,17]),([18,15],[15,18]),([15],[15]),([20,15],[15,20]),([21,15],[15,21]),([19,22,15],[15,19,22]),([15,23,8],[8,15,23]),([8,24,5],[5,8,24]),([5,25],[5,25]),([26,15,0,1,2,3,4,5,6,7,8,9,10,11,12,13,14,15,16,17,18,19,20,21,22,23,24,25,26],[26])])
def ancepslaw42_ConflictChecks.B8:List Nat:=[0,1,3,7,15,31,63,127,255,511,1023,2047,4095,8191,16383,32767,65535,131071,262143,524287,65535,1114111,3211263,8388607,16777215,33554431,67108863,134217727]
theorem ancepslaw42_ConflictChecks.tab8:rtab .any (opsOf Tryz.f3 8)=ancepslaw42_ConflictChecks.T8:=by kernel_rfl
theorem ancepslaw42_ConflictChecks.bits8:waitsOk ancepslaw42_ConflictChecks.T8.2 ancepslaw42_ConflictChecks.B8=true:=by kernel_rfl
set_option maxHeartbeats 8000000 in
set_option maxRecDepth 100000 in
theorem ancepslaw42_ConflictChecks.calls (k:Nat) (A0:Option Addr) (c0:Nat) (l0:List (S49)) (A1_0:Option Addr) (c1_0:Nat) (l1_0:List Int) (A1_1:Option Addr) (c1_1:Nat) (l1_1:List (S96)) (A1_2:Option Addr) (c1_2:Nat) (l1_2:List Int) (A2:Option Addr) (c2:Nat) (l2:List Int) (r:Bool) (w:World) (hr0:Kd.C k49 w A0 l0.length l0) (hc0:l0.length≤c0) (hr1_0:Kd.C (Kd.int .i64) w A1_0 l1_0.length l1_0) (hc1_0:l1_0.length≤c1_0) (hr1_1:Kd.C k96 w A1_1 l1_1.length l1_1) (hc1_1:l1_1.length≤c1_1) (hr1_2:Kd.C (Kd.int .i64) w A1_2 l1_2.length l1_2) (hc1_2:l1_2.length≤c1_2) (hr2:Kd.C (Kd.int .i64) w A2 l2.length l2) (hc2:l2.length≤c2) (h:ancepslaw42_ConflictChecks.f k l0 l1_0 l1_1 l1_2 l2=some r) :
  Calls Tryz.prog 3 #[.slice A0 l0.length c0,.agg #[.slice A1_0 l1_0.length c1_0,.slice A1_1 l1_1.length c1_1,.slice A1_2 l1_2.length c1_2],.slice A2 l2.length c2] w fun e w'=>e=.returned (.bool r)∧Below w.heap.size w w':=by
 have HR0:=zA hr0;have HC0:=zA hc0;clear hr0 hc0;have HR1_0:=zA hr1_0;have HC1_0:=zA hc1_0;clear hr1_0 hc1_0;have HR1_1:=zA hr1_1;have HC1_1:=zA hc1_1;clear hr1_1 hc1_1;have HR1_2:=zA hr1_2;have HC1_2:=zA hc1_2;clear hr1_2 hc1_2;have HR2:=zA hr2;have HC2:=zA hc2;clear hr2 hc2;have HB:=zA (Below.refl w.heap.size w);have H:((ancepslaw42_awake.f k).bind fun t92=>(if t92=true then ((ancepsref42_Few.f k l0).bind fun t90=>(if t90=true then ((ancepsref42_FewCore.f l1_0 l1_1 l1_2).bind fun t88=>(if t88=true then (if (l2.length:Int)>40 then ((ancepslaw42_awake.f k).bind fun t86=>(some t86)) else ((ancepslaw42_copied.f k l0).bind fun t80=>((conflict_Check.f k t80 l1_0 l1_1 l1_2).bind fun t78=>((ancepslaw42_copied.f k l0).bind fun t81=>((slices_Clone_int_int.f l2).bind fun t82=>((conflict_CheckSmallest.f k t81 l1_0 l1_1 l1_2 t82).bind fun t75=>((ancepsref42_Check.f k l0 l1_0 l1_1 l1_2).bind fun t83=>(if (t78 != t83)=true then (none) else ((ancepsref42_CheckSmallest.f k l0 l1_0 l1_1 l1_2 l2).bind fun t84=>(if (t75 != t84)=true then (none) else ((ancepsref42_Cores.f k l0).bind fun bt73=>((slices_ContainsFunc_int_int_ancepslaw42_ConflictChecks_1.f k bt73.1 l1_0 l1_1 l1_2).bind fun t85=>(if t78=true then (if t85=true then (if t75=true then (if (bt73.1.length:Int)>0 then (if 0<(bt73.1.length:Int) then (some (((rd_L1 bt73.1 0).length:Int) == (l1_0.length:Int))) else (none)) else (none)) else (some true)) else (none)) else (if t75=true then (none) else (some true))))))))))))))) else ((ancepslaw42_awake.f k).bind fun t87=>(some t87)))) else ((ancepslaw42_awake.f k).bind fun t89=>(some t89)))) else ((ancepslaw42_awake.f k).bind fun t91=>(some t91))))=some r:=h;clear h;have HC4:=zA H;clear H
 go_enter Tryz.func3,Tryz.ntmps3
 go_upto_region 1 with (first|((with_reducible refine gd 4 rfl ?_);(try (refine gate_guard (by rfl) ?_;dsimp only));refine zx #[.slice A1_0 l1_0.length c1_0,.slice A1_1 l1_1.length c1_1,.slice A1_2 l1_2.length c1_2] 28 ?_;intro gb71 hg w5 BK71 hb GW71 HB1;have GE71:=GW71;clear HB hb hg;have HB:=HB1;clear HB1))
 (try simp only [Act.put,zi,zs,zt]);have H:=HC4.out;clear HC4;obtain ⟨t92,A6,H⟩:=zo H
 by_cases c7:t92=true
 ·subst c7
  have H1:((ancepsref42_Few.f k l0).bind fun t90=>(if t90=true then ((ancepsref42_FewCore.f l1_0 l1_1 l1_2).bind fun t88=>(if t88=true then (if (l2.length:Int)>40 then ((ancepslaw42_awake.f k).bind fun t86=>(some t86)) else ((ancepslaw42_copied.f k l0).bind fun t80=>((conflict_Check.f k t80 l1_0 l1_1 l1_2).bind fun t78=>((ancepslaw42_copied.f k l0).bind fun t81=>((slices_Clone_int_int.f l2).bind fun t82=>((conflict_CheckSmallest.f k t81 l1_0 l1_1 l1_2 t82).bind fun t75=>((ancepsref42_Check.f k l0 l1_0 l1_1 l1_2).bind fun t83=>(if (t78 != t83)=true then (none) else ((ancepsref42_CheckSmallest.f k l0 l1_0 l1_1 l1_2 l2).bind fun t84=>(if (t75 != t84)=true then (none) else ((ancepsref42_Cores.f k l0).bind fun bt73=>((slices_ContainsFunc_int_int_ancepslaw42_ConflictChecks_1.f k bt73.1 l1_0 l1_1 l1_2).bind fun t85=>(if t78=true then (if t85=true then (if t75=true then (if (bt73.1.length:Int)>0 then (if 0<(bt73.1.length:Int) then (some (((rd_L1 bt73.1 0).length:Int) == (l1_0.length:Int))) else (none)) else (none)) else (some true)) else (none)) else (if t75=true then (none) else (some true))))))))))))))) else ((ancepslaw42_awake.f k).bind fun t87=>(some t87)))) else ((ancepslaw42_awake.f k).bind fun t89=>(some t89))))=some r:=by rw [if_pos rfl] at H;exact H
  clear H;have H:=H1;clear H1;obtain ⟨t90,A8,H⟩:=zo H
  by_cases c9:t90=true
  ·subst c9
   have H1:((ancepsref42_FewCore.f l1_0 l1_1 l1_2).bind fun t88=>(if t88=true then (if (l2.length:Int)>40 then ((ancepslaw42_awake.f k).bind fun t86=>(some t86)) else ((ancepslaw42_copied.f k l0).bind fun t80=>((conflict_Check.f k t80 l1_0 l1_1 l1_2).bind fun t78=>((ancepslaw42_copied.f k l0).bind fun t81=>((slices_Clone_int_int.f l2).bind fun t82=>((conflict_CheckSmallest.f k t81 l1_0 l1_1 l1_2 t82).bind fun t75=>((ancepsref42_Check.f k l0 l1_0 l1_1 l1_2).bind fun t83=>(if (t78 != t83)=true then (none) else ((ancepsref42_CheckSmallest.f k l0 l1_0 l1_1 l1_2 l2).bind fun t84=>(if (t75 != t84)=true then (none) else ((ancepsref42_Cores.f k l0).bind fun bt73=>((slices_ContainsFunc_int_int_ancepslaw42_ConflictChecks_1.f k bt73.1 l1_0 l1_1 l1_2).bind fun t85=>(if t78=true then (if t85=true then (if t75=true then (if (bt73.1.length:Int)>0 then (if 0<(bt73.1.length:Int) then (some (((rd_L1 bt73.1 0).length:Int) == (l1_0.length:Int))) else (none)) else (none)) else (some true)) else (none)) else (if t75=true then (none) else (some true))))))))))))))) else ((ancepslaw42_awake.f k).bind fun t87=>(some t87))))=some r:=by rw [if_pos rfl] at H;exact H
   clear H;have H:=H1;clear H1;obtain ⟨t88,A10,H⟩:=zo H
   by_cases c11:t88=true
   ·subst c11
    have H1:(if (l2.length:Int)>40 then ((ancepslaw42_awake.f k).bind fun t86=>(some t86)) else ((ancepslaw42_copied.f k l0).bind fun t80=>((conflict_Check.f k t80 l1_0 l1_1 l1_2).bind fun t78=>((ancepslaw42_copied.f k l0).bind fun t81=>((slices_Clone_int_int.f l2).bind fun t82=>((conflict_CheckSmallest.f k t81 l1_0 l1_1 l1_2 t82).bind fun t75=>((ancepsref42_Check.f k l0 l1_0 l1_1 l1_2).bind fun t83=>(if (t78 != t83)=true then (none) else ((ancepsref42_CheckSmallest.f k l0 l1_0 l1_1 l1_2 l2).bind fun t84=>(if (t75 != t84)=true then (none) else ((ancepsref42_Cores.f k l0).bind fun bt73=>((slices_ContainsFunc_int_int_ancepslaw42_ConflictChecks_1.f k bt73.1 l1_0 l1_1 l1_2).bind fun t85=>(if t78=true then (if t85=true then (if t75=true then (if (bt73.1.length:Int)>0 then (if 0<(bt73.1.length:Int) then (some (((rd_L1 bt73.1 0).length:Int) == (l1_0.length:Int))) else (none)) else (none)) else (some true)) else (none)) else (if t75=true then (none) else (some true)))))))))))))))=some r:=by rw [if_pos rfl] at H;exact H
    clear H;have H:=H1;clear H1;have HC12:=zA H;clear H
    go_upto_if 28 with (first|((with_reducible refine gate_callee (f:=5) rfl ?_);refine zgo 12 Tryz.func5 #[] ?_;(with_reducible refine (ancepslaw42_awake.calls k  true _ A6.out).mono ?_);rintro e w13 ⟨rfl,hb⟩;refine ⟨_,rfl,?_⟩;replace BK71:=zw BK71 hb;replace HB:=zu hb;clear hb)|(go_at_call 6;(with_reducible refine (ancepsref42_Few.calls k _ _ l0 true _ (zD HR0 HB) HC0.out A8.out).mono ?_);rintro e w14 ⟨rfl,hb⟩;replace BK71:=zw BK71 hb;replace HB:=zu hb;clear hb;have hcz15_0:=zc0 BK71;have hcz15_1:=zc1 BK71;have hcz15_2:=zc2 BK71;have hfz15_0:=zf BK71)|(go_at_call 7;(with_reducible refine (ancepsref42_FewCore.calls _ _ l1_0 _ _ l1_1 _ _ l1_2 true _ (zD HR1_0 HB) HC1_0.out (zD HR1_1 HB) HC1_1.out (zD HR1_2 HB) HC1_2.out A10.out).mono ?_);rintro e w16 ⟨rfl,hb⟩;replace BK71:=zw BK71 hb;replace HB:=zu hb;clear hb))
    (try simp only [Act.put,zi,zs,zt]);have H:=HC12.out;clear HC12
    rcases if0 H with ⟨c17,H⟩|⟨c17,H⟩
    ·have c17b0:decide (40<(l2.length:Int))=true:=decide_eq_true c17;have c17b1:decide (40<l2.length)=true:=decide_eq_true (by omega);clear c17
     (first|rw [c17b0]|(simp only [i64_w,i32_w];rw [c17b0])|skip)
     (try rw [c17b1]);obtain ⟨t86,A18,H⟩:=zo H;obtain rfl:=Option.some.inj H
     go_wp2_with (first|((with_reducible refine gate_callee (f:=5) rfl ?_);refine zgo 29 Tryz.func5 #[] ?_;(with_reducible refine (ancepslaw42_awake.calls k  t86 _ A18.out).mono ?_);rintro e w19 ⟨rfl,hb⟩;refine ⟨_,rfl,?_⟩;replace BK71:=zw BK71 hb;replace HB:=zu hb;clear hb))
     go_ret
     exact ⟨ze,zv1 HB GE71⟩
    ·have c17b0:decide (40<(l2.length:Int))=false:=decide_eq_false c17;have c17b1:decide (40<l2.length)=false:=decide_eq_false (by omega);clear c17
     (first|rw [c17b0]|(simp only [i64_w,i32_w];rw [c17b0])|skip)
     (try rw [c17b1]);obtain ⟨t80,A20,H⟩:=zo H;obtain ⟨t78,A21,H⟩:=zo H;obtain ⟨t81,A22,H⟩:=zo H;obtain ⟨t82,A23,H⟩:=zo H;obtain ⟨t75,A24,H⟩:=zo H;obtain ⟨t83,A25,H⟩:=zo H;obtain ⟨c26,H⟩:=if2 H
     have c26b0:(t78 != t83)=false:=by simpa using c26
     (try (have c26b1:decide (t78=t83)=true:=by simpa using c26));(try (have c26b2:(t78 == t83)=true:=by simpa using c26));clear c26;obtain ⟨t84,A27,H⟩:=zo H;have HC28:=zA H;clear H
     try go_wp2
     replace BK71:=zA (blk_drew BK71.out);replace HB:=zA (below_drew1 HB.out);refine start_ (n:=12) (S:=fun w'=>w'.cell? ⟨gb71,0,none⟩=some (.slice A1_0 l1_0.length c1_0)∧w'.cell? ⟨gb71,1,none⟩=some (.slice A1_1 l1_1.length c1_1)∧w'.cell? ⟨gb71,2,none⟩=some (.slice A1_2 l1_2.length c1_2)) (ds:=[]) (bz 12 0) zK rfl rfl ⟨zc0 BK71,zc1 BK71,zc2 BK71⟩ (fun hHeld=>?_);refine with_tabW ancepslaw42_ConflictChecks.tab3 ancepslaw42_ConflictChecks.bits3 (fun HT_ HW_=>?_)
     generalize w16.drew=w29 at BK71 HB hHeld ⊢
     refine zP 0 30 (bz 12 1) HT_ ?_;refine zP 4 34 (bz 12 17) HT_ ?_;refine zP 7 37 (bz 12 145) HT_ ?_;refine zQ 2 32 (bz 12 149) HT_ HW_ hHeld ?_;refine zQ 6 36 (bz 12 213) HT_ HW_ hHeld ?_;refine one_ (i:=1) (N:=some 31) (bz 12 215) rfl rfl (one_of HT_.out zK) (by decide) (fun K hK=>?_);refine goes_ Tryz.func9 zK rfl #[.slice A0 l0.length c0] (by rfl) rfl rfl zM ?_
     with_reducible refine (ancepslaw42_copied.calls k _ _ l0 t80 _ ?side1 ?side2 A20.out).mono ?_
     (case side1=>exact zC (Kd.C_below HR0.out HB.out));(case side2=>exact HC0.out);rintro e w30 ⟨v94,rfl,ho0,hb⟩;refine ⟨_,rfl,?_⟩;have HO74:=zA (Kd.N_lower (Kd.N_mono (ok':=fun k_=>k_≠gb71) (Kd.S_N (Kd.S_bound ho0)) (fun k_ hk_=>(Kd.freshB (g:=gb71) (o:=.cells #[.slice A1_0 l1_0.length c1_0,.slice A1_1 l1_1.length c1_1,.slice A1_2 l1_2.length c1_2] 28 (0,0)) (zk BK71) k_ hk_.2.1))) (below_size zB));replace BK71:=zw BK71 hb;replace HB:=zu hb;(try clear hb);(try clear hb2);(try clear hk);(try clear hi);(try clear ho0);obtain ⟨Ao31,co31,eo31⟩:=Kd.N_slice HO74.out
     (first|subst eo31|(injection eo31 with f1_ f2_ f3_;have f4_:=f1_.symm;have f5_:=f3_.symm;clear f1_ f2_ f3_;subst f4_;subst f5_))
     refine hK.out _ _ ⟨zc0 BK71,zc1 BK71,zc2 BK71⟩ (fun hHeld=>?_);clear hK K;refine norm_ (a':=?_) ?_ ?_;rotate_left
     ·show Act.put _ (some 31) _=_
      simp only [Act.put,zi,zs,zt,i64_w,i32_w];rfl
     refine one_ (i:=3) (N:=some 33) (bz 12 223) rfl rfl (one_of HT_.out zK) (by decide) (fun K hK=>?_);refine goes_ Tryz.func8 zK rfl #[.slice Ao31 t80.length co31,.agg #[.slice A1_0 l1_0.length c1_0,.slice A1_1 l1_1.length c1_1,.slice A1_2 l1_2.length c1_2]] (by rfl) rfl rfl zM ?_
     with_reducible refine (conflict_Check.calls k _ _ t80 _ _ l1_0 _ _ l1_1 _ _ l1_2 t78 _ ?side1 ?side2 ?side3 ?side4 ?side5 ?side6 ?side7 ?side8 A21.out).mono ?_
     (case side1=>exact zC (Kd.N_reads' HO74.out).2.2);(case side2=>exact (Kd.N_reads' HO74.out).2.1);(case side3=>exact zC (Kd.C_below HR1_0.out HB.out));(case side4=>exact HC1_0.out);(case side5=>exact zC (Kd.C_below HR1_1.out HB.out));(case side6=>exact HC1_1.out);(case side7=>exact zC (Kd.C_below HR1_2.out HB.out));(case side8=>exact HC1_2.out);rintro e w32 ⟨rfl,hb⟩;refine ⟨_,rfl,?_⟩;replace HO74:=zA (Kd.N_below (zN HO74) hb);replace BK71:=zw BK71 hb;replace HB:=zu hb;(try clear hb);(try clear hb2);(try clear hk);(try clear hi);refine hK.out _ _ ⟨zc0 BK71,zc1 BK71,zc2 BK71⟩ (fun hHeld=>?_);clear hK K;refine norm_ (a':=?_) ?_ ?_;rotate_left
     ·show Act.put _ (some 33) _=_
      simp only [Act.put,zi,zs,zt,i64_w,i32_w];rfl
     refine one_ (i:=5) (N:=some 35) (bz 12 255) rfl rfl (one_of HT_.out zK) (by decide) (fun K hK=>?_);refine goes_ Tryz.func9 zK rfl #[.slice A0 l0.length c0] (by rfl) rfl rfl zM ?_
     with_reducible refine (ancepslaw42_copied.calls k _ _ l0 t81 _ ?side1 ?side2 A22.out).mono ?_
     (case side1=>exact zC (Kd.C_below HR0.out HB.out));(case side2=>exact HC0.out);rintro e w33 ⟨v95,rfl,ho0,hb⟩;refine ⟨_,rfl,?_⟩;have HO76:=zA (Kd.N_lower (Kd.N_mono (ok':=fun k_=>some k_≠(.slice Ao31 t80.length co31:Value).ownBlock∧k_≠gb71) (Kd.S_N (Kd.S_bound ho0)) (fun k_ hk_=>⟨(Kd.fresh' (Kd.N_lt (zN HO74)) k_ hk_.2.1),(Kd.freshB (g:=gb71) (o:=.cells #[.slice A1_0 l1_0.length c1_0,.slice A1_1 l1_1.length c1_1,.slice A1_2 l1_2.length c1_2] 28 (0,0)) (zk BK71) k_ hk_.2.1)⟩)) (below_size zB));replace HO74:=zA (Kd.N_elder' (zN HO74) (Kd.N_base (Kd.S_N ho0)) hb);replace BK71:=zw BK71 hb;replace HB:=zu hb;(try clear hb);(try clear hb2);(try clear hk);(try clear hi);(try clear ho0);refine hK.out _ _ ⟨zc0 BK71,zc1 BK71,zc2 BK71⟩ (fun hHeld=>?_);clear hK K;refine norm_ (a':=?_) ?_ ?_;rotate_left
     ·show Act.put _ (some 35) _=_
      simp only [Act.put,zi,zs,zt,i64_w,i32_w];rfl
     refine one_ (i:=8) (N:=some 38) (bz 12 511) rfl rfl (one_of HT_.out zK) (by decide) (fun K hK=>?_);refine goes_ Tryz.func11 zK rfl #[.slice A2 l2.length c2] (by rfl) rfl rfl zM ?_
     with_reducible refine (slices_Clone_int_int.calls _ _ l2 t82 _ ?side1 ?side2 A23.out).mono ?_
     (case side1=>exact zC (Kd.C_below HR2.out HB.out));(case side2=>exact HC2.out);rintro e w34 ⟨v97,rfl,ho0,hb⟩;refine ⟨_,rfl,?_⟩;have HO77:=zA (Kd.R_lower ho0 (below_size zB));replace HO74:=zA (Kd.N_elder' (zN HO74) (Kd.R_base ho0) hb);replace HO76:=zA (Kd.N_elder' (zN HO76) (Kd.R_base ho0) hb);replace BK71:=zw BK71 hb;replace HB:=zu hb;(try clear hb);(try clear hb2);(try clear hk);(try clear hi);(try clear ho0);obtain ⟨Ao35,co35,eo35⟩:=Kd.N_slice HO76.out
     (first|subst eo35|(injection eo35 with f1_ f2_ f3_;have f4_:=f1_.symm;have f5_:=f3_.symm;clear f1_ f2_ f3_;subst f4_;subst f5_))
     obtain ⟨Ao36,co36,eo36⟩:=Kd.R_slice HO77.out
     (first|subst eo36|(injection eo36 with f1_ f2_ f3_;have f4_:=f1_.symm;have f5_:=f3_.symm;clear f1_ f2_ f3_;subst f4_;subst f5_))
     refine hK.out _ _ ⟨zc0 BK71,zc1 BK71,zc2 BK71⟩ (fun hHeld=>?_);clear hK K;refine norm_ (a':=?_) ?_ ?_;rotate_left
     ·show Act.put _ (some 38) _=_
      simp only [Act.put,zi,zs,zt,i64_w,i32_w];rfl
     refine one_ (i:=9) (N:=some 39) (bz 12 1023) rfl rfl (one_of HT_.out zK) (by decide) (fun K hK=>?_);refine goes_ Tryz.func10 zK rfl #[.slice Ao35 t81.length co35,.agg #[.slice A1_0 l1_0.length c1_0,.slice A1_1 l1_1.length c1_1,.slice A1_2 l1_2.length c1_2],.slice Ao36 t82.length co36] (by rfl) rfl rfl zM ?_
     with_reducible refine (conflict_CheckSmallest.calls k _ _ t81 _ _ l1_0 _ _ l1_1 _ _ l1_2 _ _ t82 t75 _ ?side1 ?side2 ?side3 ?side4 ?side5 ?side6 ?side7 ?side8 ?side9 ?side10 A24.out).mono ?_
     (case side1=>exact zC (Kd.N_reads' HO76.out).2.2);(case side2=>exact (Kd.N_reads' HO76.out).2.1);(case side3=>exact zC (Kd.C_below HR1_0.out HB.out));(case side4=>exact HC1_0.out);(case side5=>exact zC (Kd.C_below HR1_1.out HB.out));(case side6=>exact HC1_1.out);(case side7=>exact zC (Kd.C_below HR1_2.out HB.out));(case side8=>exact HC1_2.out);(case side9=>exact zC (Kd.R_reads' HO77.out).2.2);(case side10=>exact (Kd.R_reads' HO77.out).2.1);rintro e w37 ⟨rfl,hb⟩;refine ⟨_,rfl,?_⟩;replace HO74:=zA (Kd.N_below (zN HO74) hb);replace HO76:=zA (Kd.N_below (zN HO76) hb);replace HO77:=zA (Kd.R_below (zR HO77) hb);replace BK71:=zw BK71 hb;replace HB:=zu hb;(try clear hb);(try clear hb2);(try clear hk);(try clear hi);refine hK.out _ _ ⟨zc0 BK71,zc1 BK71,zc2 BK71⟩ (fun hHeld=>?_);clear hK K;refine norm_ (a':=?_) ?_ ?_;rotate_left
     ·show Act.put _ (some 39) _=_
      simp only [Act.put,zi,zs,zt,i64_w,i32_w];rfl
     refine zP 10 7 (bz 12 2047) HT_ ?_;refine zP 11 8 (bz 12 4095) HT_ ?_;refine done_ (done_of HT_.out zK) ?_;have hcz38_0:=zc0 BK71;have hcz38_1:=zc1 BK71;have hcz38_2:=zc2 BK71;have hfz38_0:=zf BK71
     go_upto_if 52 with (first|((with_reducible refine gate_callee (f:=12) rfl ?_);refine zgo 43 Tryz.func12 #[.slice A0 l0.length c0,.agg #[.slice A1_0 l1_0.length c1_0,.slice A1_1 l1_1.length c1_1,.slice A1_2 l1_2.length c1_2]] ?_;(with_reducible refine (ancepsref42_Check.calls k _ _ l0 _ _ l1_0 _ _ l1_1 _ _ l1_2 t83 _ (zD HR0 HB) HC0.out (zD HR1_0 HB) HC1_0.out (zD HR1_1 HB) HC1_1.out (zD HR1_2 HB) HC1_2.out A25.out).mono ?_);rintro e w39 ⟨rfl,hb⟩;refine ⟨_,rfl,?_⟩;replace HO74:=zA (Kd.N_below (zN HO74) hb);replace HO76:=zA (Kd.N_below (zN HO76) hb);replace HO77:=zA (Kd.R_below (zR HO77) hb);replace BK71:=zw BK71 hb;replace HB:=zu hb;clear hb;have hcz40_0:=zc0 BK71;have hcz40_1:=zc1 BK71;have hcz40_2:=zc2 BK71;have hfz40_0:=zf BK71)|(go_at_call 13;(with_reducible refine (ancepsref42_CheckSmallest.calls k _ _ l0 _ _ l1_0 _ _ l1_1 _ _ l1_2 _ _ l2 t84 _ (zD HR0 HB) HC0.out (zD HR1_0 HB) HC1_0.out (zD HR1_1 HB) HC1_1.out (zD HR1_2 HB) HC1_2.out (zD HR2 HB) HC2.out A27.out).mono ?_);rintro e w41 ⟨rfl,hb⟩;replace HO74:=zA (Kd.N_below (zN HO74) hb);replace HO76:=zA (Kd.N_below (zN HO76) hb);replace HO77:=zA (Kd.R_below (zR HO77) hb);replace BK71:=zw BK71 hb;replace HB:=zu hb;clear hb))
     (try simp only [Act.put,zi,zs,zt]);have H:=HC28.out;clear HC28;obtain ⟨c42,H⟩:=if2 H
     have c42b0:(t75 != t84)=false:=by simpa using c42
     (try (have c42b1:decide (t75=t84)=true:=by simpa using c42));(try (have c42b2:(t75 == t84)=true:=by simpa using c42));clear c42
     (first|rw [c42b0]|(simp only [i64_w,i32_w];rw [c42b0])|skip)
     (try rw [c42b1]);(try rw [c42b2]);obtain ⟨t73,t93,A43,H⟩:=zO H
     dsimp only at H
     obtain ⟨t85,A44,H⟩:=zo H;have HC45:=zA H;clear H
     go_upto_region 8 with (first|((with_reducible refine gate_callee (f:=14) rfl ?_);refine zgo 55 Tryz.func14 #[.slice A0 l0.length c0] ?_;(with_reducible refine (ancepsref42_Cores.calls k _ _ l0 t73 t93 _ (zD HR0 HB) HC0.out A43.out).mono ?_);rintro e w46 ⟨v98,rfl,ho0,hb⟩;refine ⟨_,rfl,?_⟩;have HO79:=zA (Kd.N_lower (Kd.N_mono (ok':=fun k_=>some k_≠(.slice Ao31 t80.length co31:Value).ownBlock∧some k_≠(.slice Ao35 t81.length co35:Value).ownBlock∧some k_≠(.slice Ao36 t82.length co36:Value).ownBlock∧k_≠gb71) ho0 (fun k_ hk_=>⟨(Kd.fresh' (Kd.N_lt (zN HO74)) k_ hk_),(Kd.fresh' (Kd.N_lt (zN HO76)) k_ hk_),(Kd.fresh' (Kd.R_lt (zR HO77)) k_ hk_),(Kd.freshB (g:=gb71) (o:=.cells #[.slice A1_0 l1_0.length c1_0,.slice A1_1 l1_1.length c1_1,.slice A1_2 l1_2.length c1_2] 28 (0,0)) (zk BK71) k_ hk_)⟩)) (below_size zB));replace HO74:=zA (Kd.N_elder' (zN HO74) (Kd.N_base ho0) hb);replace HO76:=zA (Kd.N_elder' (zN HO76) (Kd.N_base ho0) hb);replace HO77:=zA (Kd.R_below (zR HO77) hb);replace BK71:=zw BK71 hb;replace HB:=zu hb;clear hb;(try clear ho0);obtain ⟨Ao47,co47,eo47⟩:=Kd.N_slice HO79.out;subst eo47)|((with_reducible refine gate_callee (f:=15) rfl ?_);refine zgo 60 Tryz.func15 #[.slice Ao47 t73.length co47,.func (.func 16) #[] #[.pointer (some ⟨gb71,0,none⟩)]] ?_;(with_reducible refine (slices_ContainsFunc_int_int_ancepslaw42_ConflictChecks_1.calls k _ _ t73 gb71 A1_0 c1_0 l1_0 A1_1 c1_1 l1_1 A1_2 c1_2 l1_2 t85 _ ?side1 ?side2 (zD HR1_0 HB) HC1_0.out (zD HR1_1 HB) HC1_1.out (zD HR1_2 HB) HC1_2.out ?side9 A44.out).mono ?_);(case side1=>exact zC (Kd.N_reads' HO79.out).2.2);(case side2=>exact (Kd.N_reads' HO79.out).2.1);(case side9=>refine zj ?_;exact BK71.out);rintro e w48 ⟨rfl,hb⟩;refine ⟨_,rfl,?_⟩;replace HO74:=zA (Kd.N_below (zN HO74) hb);replace HO76:=zA (Kd.N_below (zN HO76) hb);replace HO77:=zA (Kd.R_below (zR HO77) hb);replace HO79:=zA (Kd.N_below (zN HO79) hb);replace BK71:=zw BK71 hb;replace HB:=zu hb;clear hb))
     (try simp only [Act.put,zi,zs,zt]);have H:=HC45.out;clear HC45
     by_cases c49:t78=true
     ·subst c49
      have H1:(if t85=true then (if t75=true then (if (t73.length:Int)>0 then (if 0<(t73.length:Int) then (some (((rd_L1 t73 0).length:Int) == (l1_0.length:Int))) else (none)) else (none)) else (some true)) else (none))=some r:=by rw [if_pos rfl] at H;exact H
      clear H;have H:=H1;clear H1
      by_cases c50:t85=true
      ·subst c50
       have H1:(if t75=true then (if (t73.length:Int)>0 then (if 0<(t73.length:Int) then (some (((rd_L1 t73 0).length:Int) == (l1_0.length:Int))) else (none)) else (none)) else (some true))=some r:=by rw [if_pos rfl] at H;exact H
       clear H;have H:=H1;clear H1
       by_cases c51:t75=true
       ·subst c51
        have H1:(if (t73.length:Int)>0 then (if 0<(t73.length:Int) then (some (((rd_L1 t73 0).length:Int) == (l1_0.length:Int))) else (none)) else (none))=some r:=by rw [if_pos rfl] at H;exact H
        clear H;have H:=H1;clear H1
        rcases if0 H with ⟨c52,H⟩|⟨c52,H⟩
        ·have c52b0:decide (0<(t73.length:Int))=true:=decide_eq_true c52;have c52b1:decide (0<t73.length)=true:=decide_eq_true (by omega);clear c52
         (first|rw [c52b0]|(simp only [i64_w,i32_w];rw [c52b0])|skip)
         (try rw [c52b1]);obtain ⟨c53,H⟩:=if1 H;have c53b0:decide (0<(t73.length:Int))=true:=decide_eq_true c53;have c53b1:decide (0<t73.length)=true:=decide_eq_true (by omega);clear c53;obtain rfl:=Option.some.inj H
         try go_wp2
         replace HO74:=zA (Kd.N_drew HO74.out);replace HO76:=zA (Kd.N_drew HO76.out);replace HO77:=zA (Kd.R_drew HO77.out);replace HO79:=zA (Kd.N_drew HO79.out);replace BK71:=zA (blk_drew BK71.out);replace HB:=zA (below_drew1 HB.out)
         have p72:0≤(0:Int):=(by omega)
         have q72:0<(t73.length:Int):=of_decide_eq_true zh;obtain ⟨ad72,A72_0,c72_0,e72,hx72_0,hl72_0,hi72_0⟩:=at_L1 (Kd.N_reads' HO79.out).2.2 0 p72 q72
         cases e72
         obtain ⟨ce72,hce72,hMe72,hcc72⟩:=Kd.N_get HO79.out [] 0 p72 (by first|exact q72|exact of_decide_eq_true zh|(have e_:=(Kd.N_reads' HO79.out).1;omega));obtain ⟨ua72_0,uc72_0,rfl,ul72_0,ge72_0⟩:=Kd.FK_slice_open hMe72;have hv72_0:=hcc72 0 _ rfl;rw [Nat.add_zero,show ((Kd.slice 3 (Kd.int .i64))).sz=1 from rfl,Nat.mul_one] at hv72_0;replace hv72_0:=Option.some.inj (hv72_0.symm.trans hx72_0)
         injection hv72_0 with hva_ hvn_ hvc_
         rw [hva_] at ge72_0;rw [hvc_] at ul72_0;have HL72_0:=zA (show Kd.V (Kd.int .i64) 3 _ w.heap.size _ _ (rd_L1 t73 0) from Kd.V_mk ul72_0 ge72_0);clear hva_ hvn_ hvc_ ge72_0 ul72_0;clear hcc72 hce72;have qi72:(0<t73.length)=True:=eq_true (by omega);(try rw [show ((0:Int)).toNat=0 from rfl] at hx72_0);(try rw [Addr.add_zero'] at hx72_0);have HR72_0:=zA hi72_0;have HC72_0:=zA hl72_0;clear hi72_0 hl72_0;replace p72:=eq_true p72;replace q72:=eq_true q72;refine start_ (n:=28) (S:=fun w'=>w'.cell? ⟨gb71,0,none⟩=some (.slice A1_0 l1_0.length c1_0)∧w'.cell? ⟨gb71,1,none⟩=some (.slice A1_1 l1_1.length c1_1)∧w'.cell? ⟨gb71,2,none⟩=some (.slice A1_2 l1_2.length c1_2)∧w'.cell? ad72=some (.slice A72_0 (rd_L1 t73 0).length c72_0)) (ds:=[]) (bz 28 0) zK rfl rfl ⟨zc0 BK71,zc1 BK71,zc2 BK71,hx72_0⟩ (fun hHeld=>?_);refine with_tabW ancepslaw42_ConflictChecks.tab8 ancepslaw42_ConflictChecks.bits8 (fun HT_ HW_=>?_)
         generalize w48.drew=w54 at HO74 HO76 HO77 HO79 BK71 HB HL72_0 HR72_0 hx72_0 hHeld ⊢
         refine zP 0 61 (bz 28 1) HT_ ?_;refine zP 1 62 (bz 28 3) HT_ ?_;refine zP 2 63 (bz 28 7) HT_ ?_;refine zP 3 64 (bz 28 15) HT_ ?_;refine zP 4 65 (bz 28 31) HT_ ?_;refine zP 5 66 (bz 28 63) HT_ ?_;refine zP 6 67 (bz 28 127) HT_ ?_;refine zP 7 68 (bz 28 255) HT_ ?_;refine zP 8 69 (bz 28 511) HT_ ?_;refine zP 9 70 (bz 28 1023) HT_ ?_;refine zP 10 71 (bz 28 2047) HT_ ?_;refine zP 11 72 (bz 28 4095) HT_ ?_;refine zP 12 73 (bz 28 8191) HT_ ?_;refine zP 13 74 (bz 28 16383) HT_ ?_;refine zP 14 75 (bz 28 32767) HT_ ?_;refine zP 15 76 (bz 28 65535) HT_ ?_;refine zP 16 77 (bz 28 131071) HT_ ?_;refine zP 17 78 (bz 28 262143) HT_ ?_;refine zP 20 81 (bz 28 1310719) HT_ ?_;refine zQ 18 79 (bz 28 1572863) HT_ HW_ hHeld ?_;refine zP 19 80 (bz 28 2097151) HT_ ?_;refine zQ 21 82 (bz 28 4194303) HT_ HW_ hHeld ?_;refine zP 22 83 (bz 28 8388607) HT_ ?_;refine zP 23 84 (bz 28 16777215) HT_ ?_;refine zP 24 85 (bz 28 33554431) HT_ ?_;refine zP 25 86 (bz 28 67108863) HT_ ?_;refine zP 26 87 (bz 28 134217727) HT_ ?_;refine zP 27 6 (bz 28 268435455) HT_ ?_;refine done_ (done_of HT_.out zK) ?_
         try go_wp2
         go_ret
         exact ⟨ze,zv1 HB GE71⟩
        ·have c52b0:decide (0<(t73.length:Int))=false:=decide_eq_false c52;have c52b1:decide (0<t73.length)=false:=decide_eq_false (by omega);clear c52
         (first|rw [c52b0]|(simp only [i64_w,i32_w];rw [c52b0])|skip)
         (try rw [c52b1]);exact absurd H (by simp)
       ·replace c51:=Bool.eq_false_iff.mpr c51;subst c51
        have H1:(some true)=some r:=by rw [if_neg (show ¬ (false=true) by decide)] at H;exact H
        clear H;have H:=H1;clear H1;obtain rfl:=Option.some.inj H
        try go_wp2
        replace HO74:=zA (Kd.N_drew HO74.out);replace HO76:=zA (Kd.N_drew HO76.out);replace HO77:=zA (Kd.R_drew HO77.out);replace HO79:=zA (Kd.N_drew HO79.out);replace BK71:=zA (blk_drew BK71.out);replace HB:=zA (below_drew1 HB.out);refine start_ (n:=28) (S:=fun w'=>True) (ds:=[]) (bz 28 0) zK rfl rfl trivial (fun hHeld=>?_);refine with_tabW ancepslaw42_ConflictChecks.tab8 ancepslaw42_ConflictChecks.bits8 (fun HT_ HW_=>?_)
        generalize w48.drew=w55 at HO74 HO76 HO77 HO79 BK71 HB hHeld ⊢
        refine zP 0 61 (bz 28 1) HT_ ?_;refine zP 1 62 (bz 28 3) HT_ ?_;refine zP 2 63 (bz 28 7) HT_ ?_;refine zP 3 64 (bz 28 15) HT_ ?_;refine zP 4 65 (bz 28 31) HT_ ?_;refine zP 5 66 (bz 28 63) HT_ ?_;refine zP 6 67 (bz 28 127) HT_ ?_;refine zP 7 68 (bz 28 255) HT_ ?_;refine zP 8 69 (bz 28 511) HT_ ?_;refine zU 9 70 (bz 28 1023) HT_ ?_;refine zU 10 71 (bz 28 2047) HT_ ?_;refine zU 11 72 (bz 28 4095) HT_ ?_;refine zU 12 73 (bz 28 8191) HT_ ?_;refine zU 13 74 (bz 28 16383) HT_ ?_;refine zU 14 75 (bz 28 32767) HT_ ?_;refine zU 15 76 (bz 28 65535) HT_ ?_;refine zU 16 77 (bz 28 131071) HT_ ?_;refine zU 17 78 (bz 28 262143) HT_ ?_;refine zU 18 79 (bz 28 524287) HT_ ?_;refine zU 19 80 (bz 28 1048575) HT_ ?_;refine zU 20 81 (bz 28 2097151) HT_ ?_;refine zU 21 82 (bz 28 4194303) HT_ ?_;refine zU 22 83 (bz 28 8388607) HT_ ?_;refine zU 23 84 (bz 28 16777215) HT_ ?_;refine zU 24 85 (bz 28 33554431) HT_ ?_;refine zP 25 86 (bz 28 67108863) HT_ ?_;refine zP 26 87 (bz 28 134217727) HT_ ?_;refine zP 27 6 (bz 28 268435455) HT_ ?_;refine done_ (done_of HT_.out zK) ?_
        try go_wp2
        go_ret
        exact ⟨ze,zv1 HB GE71⟩
      ·replace c50:=Bool.eq_false_iff.mpr c50;subst c50
       have H1:(none)=some r:=by rw [if_neg (show ¬ (false=true) by decide)] at H;exact H
       clear H;have H:=H1;clear H1;exact absurd H (by simp)
     ·replace c49:=Bool.eq_false_iff.mpr c49;subst c49
      have H1:(if t75=true then (none) else (some true))=some r:=by rw [if_neg (show ¬ (false=true) by decide)] at H;exact H
      clear H;have H:=H1;clear H1
      by_cases c56:t75=true
      ·subst c56
       have H1:(none)=some r:=by rw [if_pos rfl] at H;exact H
       clear H;have H:=H1;clear H1;exact absurd H (by simp)
      ·replace c56:=Bool.eq_false_iff.mpr c56;subst c56
       have H1:(some true)=some r:=by rw [if_neg (show ¬ (false=true) by decide)] at H;exact H
       clear H;have H:=H1;clear H1;obtain rfl:=Option.some.inj H
       try go_wp2
       replace HO74:=zA (Kd.N_drew HO74.out);replace HO76:=zA (Kd.N_drew HO76.out);replace HO77:=zA (Kd.R_drew HO77.out);replace HO79:=zA (Kd.N_drew HO79.out);replace BK71:=zA (blk_drew BK71.out);replace HB:=zA (below_drew1 HB.out);refine start_ (n:=28) (S:=fun w'=>True) (ds:=[]) (bz 28 0) zK rfl rfl trivial (fun hHeld=>?_);refine with_tabW ancepslaw42_ConflictChecks.tab8 ancepslaw42_ConflictChecks.bits8 (fun HT_ HW_=>?_)
       generalize w48.drew=w57 at HO74 HO76 HO77 HO79 BK71 HB hHeld ⊢
       refine zP 0 61 (bz 28 1) HT_ ?_;refine zP 1 62 (bz 28 3) HT_ ?_;refine zP 2 63 (bz 28 7) HT_ ?_;refine zU 3 64 (bz 28 15) HT_ ?_;refine zP 4 65 (bz 28 31) HT_ ?_;refine zP 5 66 (bz 28 63) HT_ ?_;refine zP 6 67 (bz 28 127) HT_ ?_;refine zP 7 68 (bz 28 255) HT_ ?_;refine zP 8 69 (bz 28 511) HT_ ?_;refine zU 9 70 (bz 28 1023) HT_ ?_;refine zU 10 71 (bz 28 2047) HT_ ?_;refine zU 11 72 (bz 28 4095) HT_ ?_;refine zU 12 73 (bz 28 8191) HT_ ?_;refine zU 13 74 (bz 28 16383) HT_ ?_;refine zU 14 75 (bz 28 32767) HT_ ?_;refine zU 15 76 (bz 28 65535) HT_ ?_;refine zU 16 77 (bz 28 131071) HT_ ?_;refine zU 17 78 (bz 28 262143) HT_ ?_;refine zU 18 79 (bz 28 524287) HT_ ?_;refine zU 19 80 (bz 28 1048575) HT_ ?_;refine zU 20 81 (bz 28 2097151) HT_ ?_;refine zU 21 82 (bz 28 4194303) HT_ ?_;refine zU 22 83 (bz 28 8388607) HT_ ?_;refine zU 23 84 (bz 28 16777215) HT_ ?_;refine zU 24 85 (bz 28 33554431) HT_ ?_;refine zP 25 86 (bz 28 67108863) HT_ ?_;refine zP 26 87 (bz 28 134217727) HT_ ?_;refine zP 27 6 (bz 28 268435455) HT_ ?_;refine done_ (done_of HT_.out zK) ?_
       try go_wp2
       go_ret
       exact ⟨ze,zv1 HB GE71⟩
   ·replace c11:=Bool.eq_false_iff.mpr c11;subst c11
    have H1:((ancepslaw42_awake.f k).bind fun t87=>(some t87))=some r:=by rw [if_neg (show ¬ (false=true) by decide)] at H;exact H
    clear H;have H:=H1;clear H1;obtain ⟨t87,A58,H⟩:=zo H;obtain rfl:=Option.some.inj H
    go_wp2_with (first|((with_reducible refine gate_callee (f:=5) rfl ?_);refine zgo 12 Tryz.func5 #[] ?_;(with_reducible refine (ancepslaw42_awake.calls k  true _ A6.out).mono ?_);rintro e w59 ⟨rfl,hb⟩;refine ⟨_,rfl,?_⟩;replace BK71:=zw BK71 hb;replace HB:=zu hb;clear hb)|(go_at_call 6;(with_reducible refine (ancepsref42_Few.calls k _ _ l0 true _ (zD HR0 HB) HC0.out A8.out).mono ?_);rintro e w60 ⟨rfl,hb⟩;replace BK71:=zw BK71 hb;replace HB:=zu hb;clear hb;have hcz61_0:=zc0 BK71;have hcz61_1:=zc1 BK71;have hcz61_2:=zc2 BK71;have hfz61_0:=zf BK71)|(go_at_call 7;(with_reducible refine (ancepsref42_FewCore.calls _ _ l1_0 _ _ l1_1 _ _ l1_2 false _ (zD HR1_0 HB) HC1_0.out (zD HR1_1 HB) HC1_1.out (zD HR1_2 HB) HC1_2.out A10.out).mono ?_);rintro e w62 ⟨rfl,hb⟩;replace BK71:=zw BK71 hb;replace HB:=zu hb;clear hb)|((with_reducible refine gate_callee (f:=5) rfl ?_);refine zgo 29 Tryz.func5 #[] ?_;(with_reducible refine (ancepslaw42_awake.calls k  t87 _ A58.out).mono ?_);rintro e w63 ⟨rfl,hb⟩;refine ⟨_,rfl,?_⟩;replace BK71:=zw BK71 hb;replace HB:=zu hb;clear hb))
    go_ret
    exact ⟨ze,zv1 HB GE71⟩
  ·replace c9:=Bool.eq_false_iff.mpr c9;subst c9
   have H1:((ancepslaw42_awake.f k).bind fun t89=>(some t89))=some r:=by rw [if_neg (show ¬ (false=true) by decide)] at H;exact H
   clear H;have H:=H1;clear H1;obtain ⟨t89,A64,H⟩:=zo H;obtain rfl:=Option.some.inj H
   go_wp2_with (first|((with_reducible refine gate_callee (f:=5) rfl ?_);refine zgo 12 Tryz.func5 #[] ?_;(with_reducible refine (ancepslaw42_awake.calls k  true _ A6.out).mono ?_);rintro e w65 ⟨rfl,hb⟩;refine ⟨_,rfl,?_⟩;replace BK71:=zw BK71 hb;replace HB:=zu hb;clear hb)|(go_at_call 6;(with_reducible refine (ancepsref42_Few.calls k _ _ l0 false _ (zD HR0 HB) HC0.out A8.out).mono ?_);rintro e w66 ⟨rfl,hb⟩;replace BK71:=zw BK71 hb;replace HB:=zu hb;clear hb)|((with_reducible refine gate_callee (f:=5) rfl ?_);refine zgo 29 Tryz.func5 #[] ?_;(with_reducible refine (ancepslaw42_awake.calls k  t89 _ A64.out).mono ?_);rintro e w67 ⟨rfl,hb⟩;refine ⟨_,rfl,?_⟩;replace BK71:=zw BK71 hb;replace HB:=zu hb;clear hb))
   go_ret
   exact ⟨ze,zv1 HB GE71⟩
 ·replace c7:=Bool.eq_false_iff.mpr c7;subst c7
  have H1:((ancepslaw42_awake.f k).bind fun t91=>(some t91))=some r:=by rw [if_neg (show ¬ (false=true) by decide)] at H;exact H
  clear H;have H:=H1;clear H1;obtain ⟨t91,A68,H⟩:=zo H;obtain rfl:=Option.some.inj H
  go_wp2_with (first|((with_reducible refine gate_callee (f:=5) rfl ?_);refine zgo 12 Tryz.func5 #[] ?_;(with_reducible refine (ancepslaw42_awake.calls k  false _ A6.out).mono ?_);rintro e w69 ⟨rfl,hb⟩;refine ⟨_,rfl,?_⟩;replace BK71:=zw BK71 hb;replace HB:=zu hb;clear hb)|((with_reducible refine gate_callee (f:=5) rfl ?_);refine zgo 29 Tryz.func5 #[] ?_;(with_reducible refine (ancepslaw42_awake.calls k  t91 _ A68.out).mono ?_);rintro e w70 ⟨rfl,hb⟩;refine ⟨_,rfl,?_⟩;replace BK71:=zw BK71 hb;replace HB:=zu hb;clear hb))
  go_ret
  exact ⟨ze,zv1 HB GE71⟩
end Go.Proofs.YtkjghablbeaioaaGreat.B
