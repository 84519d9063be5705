import Derived.Test.YtkjghablbeaioaaS0
import Derived.Test.YtkjghablbeaioaaS1
import Derived.Test.YtkjghablbeaioaaS4
import Derived.Test.YtkjghablbeaioaaS6
import Derived.Test.YtkjghablbeaioaaS8
import Derived.Test.YtkjghablbeaioaaS9
import Derived.Test.YtkjghablbeaioaaS10
import Derived.Test.YtkjghablbeaioaaS13
import Derived.Test.YtkjghablbeaioaaS14
namespace Go.Proofs.Ytkjghablbeaioaa.S
open Go.RowKit Go.Proofs.YtkjghablbeaioaaW.PrintWords Go.Proofs.YtkjghablbeaioaaW.PrintLast Go.Proofs.YtkjghablbeaioaaW.PrintMore
attribute [local go_sem] max2_int min2_int max_two min_two max_three min_three max_four min_four
set_option linter.unusedVariables false
set_option linter.unusedSimpArgs false
def conflict_Others.l0:Nat→List (S50)→List Int→List (List Int)→Int→Int→Option (List Int×Int)
 | 0,_,_,_,_,_=>none
 | k+1,x0,x7,x28,x29,x30=>if x30<x29 then (if 0≤x30 then (if x30<(x28.length:Int) then ((conflict_system.f k x0 (rd_L1 x28 x30)).bind fun t862=>((solve_First.f k t862).bind fun bt865=>(if bt865.2=0 then (if x7.length<17592186044416 then (conflict_Others.l0 k x0 (x7++[bt865.1]) x28 x29 (wrap64 (x30+1))) else (none)) else (some (([]:List Int),12))))) else (none)) else (none)) else (some (x7,0))
def conflict_Others.f (k:Nat) (l0:List (S50)) (a1:Int):Option (List Int×Int):=(conflict_valid.f k l0).bind fun t857=>(if t857=0 then (if a1<0 then (some (([]:List Int),6)) else (if a1>(l0.length:Int) then (some (([]:List Int),6)) else ((conflict_sets.f k (l0.length:Int) a1).bind fun t858=>(conflict_Others.l0 k l0 ([]:List Int) t858 (t858.length:Int) 0)))) else (some (([]:List Int),t857)))
theorem conflict_Others.mono_l:∀ k,(∀ y0 y1 y2 y3 y4,LeO (conflict_Others.l0 k y0 y1 y2 y3 y4) (conflict_Others.l0 (k+1) y0 y1 y2 y3 y4))
 | 0=>fun _ _ _ _ _ r h=>by simp [conflict_Others.l0] at h
 | k+1=>by
  have ih0:=conflict_Others.mono_l k
  ·intro y0 y1 y2 y3 y4
   unfold conflict_Others.l0
   repeat' first
   | (with_reducible exact ih0 _ _ _ _ _)
   | (with_reducible exact conflict_sets.mono _ _ _)
   | (with_reducible exact conflict_system.mono _ _ _)
   | (with_reducible exact conflict_valid.mono _ _)
   | (with_reducible exact solve_First.mono _ _)
   | (with_reducible exact LeO.refl _)
   | (with_reducible exact LeO.none _)
   | (with_reducible refine LeO.ite ?_ ?_)
   | (with_reducible refine LeO.bind ?_ (fun _=>?_))
   | exact LeO.none _
   | refine LeO.ite ?_ ?_
   | refine LeO.bind ?_ (fun _=>?_)
theorem conflict_Others.mono:∀ a0 a1 k,LeO (conflict_Others.f k a0 a1) (conflict_Others.f (k+1) a0 a1):=by
 intro a0 a1 k
 have ih0:=conflict_Others.mono_l k
 unfold conflict_Others.f
 repeat' first
   | (with_reducible exact ih0 _ _ _ _ _)
   | (with_reducible exact conflict_sets.mono _ _ _)
   | (with_reducible exact conflict_system.mono _ _ _)
   | (with_reducible exact conflict_valid.mono _ _)
   | (with_reducible exact solve_First.mono _ _)
   | (with_reducible exact LeO.refl _)
   | (with_reducible exact LeO.none _)
   | (with_reducible refine LeO.ite ?_ ?_)
   | (with_reducible refine LeO.bind ?_ (fun _=>?_))
   | exact LeO.none _
   | refine LeO.ite ?_ ?_
   | refine LeO.bind ?_ (fun _=>?_)
set_option maxHeartbeats 8000000 in
set_option maxRecDepth 100000 in
theorem conflict_Others.calls (k:Nat) (A0:Option Addr) (c0:Nat) (l0:List (S50)) (a1:Int) (r1:List Int) (r2:Int) (w:World) (hr0:Kd.C k50 w A0 l0.length l0) (hc0:l0.length≤c0) (h:conflict_Others.f k l0 a1=some (r1,r2)) :
  Calls Try.prog 35 #[.slice A0 l0.length c0,.int .i64 a1] w fun e w'=>∃ v0_:Value,e=.returned (.tuple #[v0_,.int .i64 r2])∧Kd.R (Kd.int .i64) 3 w' w.heap.size (fun _=>True) v0_ r1∧Below w.heap.size w w':=by
 have hu30:=Try.underlying30
 have HR0:=zA hr0
 have HC0:=zA hc0
 clear hr0 hc0
 have HB:=zA (Below.refl w.heap.size w)
 have H:((conflict_valid.f k l0).bind fun t857=>(if t857=0 then (if a1<0 then (some (([]:List Int),6)) else (if a1>(l0.length:Int) then (some (([]:List Int),6)) else ((conflict_sets.f k (l0.length:Int) a1).bind fun t858=>(conflict_Others.l0 k l0 ([]:List Int) t858 (t858.length:Int) 0)))) else (some (([]:List Int),t857))))=some (r1,r2):=h
 clear h
 replace H:=Option.bind_eq_some_iff.mp H
 obtain ⟨t857,A30,H⟩:=H
 replace H:(if t857=0 then (if a1<0 then (some (([]:List Int),6)) else (if a1>(l0.length:Int) then (some (([]:List Int),6)) else ((conflict_sets.f k (l0.length:Int) a1).bind fun t858=>(conflict_Others.l0 k l0 ([]:List Int) t858 (t858.length:Int) 0)))) else (some (([]:List Int),t857)))=some (r1,r2):=H
 have A3:=zA A30
 clear A30
 have HC4:=zA H
 clear H
 go_enter Try.func35,Try.ntmps35
 go_upto_if 15 with (first|((with_reducible refine gate_callee (f:=40) rfl ?_);refine goesL_ (some 13) rfl rfl Try.func40 zK rfl #[.slice A0 l0.length c0] rfl zM ?_;(with_reducible refine (conflict_valid.calls k _ _ l0 t857 _ ?side1 ?side2 A3.out).mono ?_);(case side1=>repeat (first|exact HR0.out|(with_reducible refine Kd.C_alloc ?_ _)|(with_reducible refine Kd.C_drewN ?_ _)|(with_reducible refine Kd.C_drew ?_)));(case side2=>exact HC0.out);rintro e w5 ⟨rfl,hb⟩;refine ⟨_,rfl,?_⟩;replace HB:=zA (below_step zB hb);(try clear hb);(try clear hb2);(try clear hk);(try clear hi)))
 (try simp only [Act.put,zi,zs,zt])
 have H:=HC4.out
 clear HC4
 by_cases c6:t857=0
 ·rw [if_pos c6] at H
  have c6b0:(t857 == 0)=true:=beq_iff_eq.mpr c6
  have c6b1:(t857 != 0)=false:=bne_eq_false_iff_eq.mpr c6
  clear c6
  (first|rw [c6b0]|(simp only [i64_w,i32_w];rw [c6b0])|skip)
  (try rw [c6b1])
  by_cases c7:a1<0
  ·rw [if_pos c7] at H
   have c7b0:decide (a1<0)=true:=decide_eq_true c7
   clear c7
   simp only [Option.some.injEq,Prod.mk.injEq] at H
   obtain ⟨rfl,rfl⟩:=H
   go_wp2
   go_ret2
   exact ⟨_,ze,by first|exact Kd.R_nil _ _ _ _ _|exact Kd.N_nil _ _ _ _ _|exact Kd.V_nil _ _ _ _ _|exact Kd.Q_nil _ _ _ _ _|exact Kd.S_nil _ _ _ _ _,by repeat (first|(with_reducible first|exact HB.out|apply below_alloc|apply pw_below_drewN|apply below_drew1)|exact HB.out)⟩
  ·rw [if_neg c7] at H
   have c7b0:decide (a1<0)=false:=decide_eq_false c7
   clear c7
   by_cases c8:a1>(l0.length:Int)
   ·rw [if_pos c8] at H
    have c8b0:decide ((l0.length:Int)<a1)=true:=decide_eq_true c8
    clear c8
    simp only [Option.some.injEq,Prod.mk.injEq] at H
    obtain ⟨rfl,rfl⟩:=H
    go_wp2
    go_ret2
    exact ⟨_,ze,by first|exact Kd.R_nil _ _ _ _ _|exact Kd.N_nil _ _ _ _ _|exact Kd.V_nil _ _ _ _ _|exact Kd.Q_nil _ _ _ _ _|exact Kd.S_nil _ _ _ _ _,by repeat (first|(with_reducible first|exact HB.out|apply below_alloc|apply pw_below_drewN|apply below_drew1)|exact HB.out)⟩
   ·rw [if_neg c8] at H
    have c8b0:decide ((l0.length:Int)<a1)=false:=decide_eq_false c8
    clear c8
    replace H:=Option.bind_eq_some_iff.mp H
    obtain ⟨t858,A90,H⟩:=H
    replace H:(conflict_Others.l0 k l0 ([]:List Int) t858 (t858.length:Int) 0)=some (r1,r2):=H
    have A9:=zA A90
    clear A90
    have H':=zA H
    clear H
    go_wp2_with (first|((with_reducible refine gate_callee (f:=66) rfl ?_);refine goesL_ (some 28) rfl rfl Try.func66 zK rfl #[.int .i64 (l0.length:Int),.int .i64 a1] rfl zM ?_;(with_reducible refine (conflict_sets.calls k (l0.length:Int) a1 t858 _ A9.out).mono ?_);rintro e w10 ⟨v859,rfl,ho0,hb⟩;refine ⟨_,rfl,?_⟩;have HO860:=zA (Kd.N_lower (Kd.N_mono (ok':=fun k_=>True) (Kd.S_N (Kd.S_bound ho0)) (fun k_ hk_=>trivial)) (below_size zB));replace HB:=zA (below_step zB hb);(try clear hb);(try clear hb2);(try clear hk);(try clear hi);(try clear ho0);obtain ⟨Ao11,co11,eo11⟩:=Kd.N_slice HO860.out;subst eo11))
    go_loopg [7,30] k (fun kq v7 v30 w'=>∃ (x7_1:List Int) (x30_1:Int),v30=.int .i64 x30_1∧Aside0 (conflict_Others.l0 kq l0 x7_1 t858 (t858.length:Int) x30_1=some (r1,r2))∧Aside0 (kq≤k)∧Aside0 (Kd.R (Kd.int .i64) 3 w' w.heap.size (fun _=>True) v7 x7_1)∧Aside0 (Kd.N (Kd.slice 3 (Kd.int .i64)) 30 w' w.heap.size (fun k_=>some k_≠(v7:Value).ownBlock) (.slice Ao11 t858.length co11) t858)∧Aside0 (Below w.heap.size w w'))
    case atStart=>exact ⟨(([]:List Int)),(0),zT,H',⟨Nat.le_refl _⟩,⟨by first|exact Kd.R_nil _ _ _ _ _|exact Kd.N_nil _ _ _ _ _|exact Kd.V_nil _ _ _ _ _|exact Kd.Q_nil _ _ _ _ _|exact Kd.S_nil _ _ _ _ _⟩,⟨by (with_reducible repeat (first|apply Kd.N_alloc|apply Kd.N_drewN|apply Kd.N_drew));exact Kd.N_mono HO860.out (fun _ hk=>(by simp [Value.ownBlock]))⟩,⟨by repeat (first|(with_reducible first|exact HB.out|apply below_alloc|apply pw_below_drewN|apply below_drew1)|exact HB.out)⟩⟩
    case round=>
     clear H'
     try clear c6
     try clear c6b0
     try clear c6b1
     try clear c7
     try clear c7b0
     try clear c8
     try clear c8b0
     obtain ⟨x7_1,x30_1,rfl,HA,HK1,HO_7,HO_28,HB⟩:=hrel
     cases gk with
     | zero=>exact absurd HA.out (by simp [conflict_Others.l0])
     | succ k1=>
      have H:=HA.out
      clear HA
      simp only [conflict_Others.l0] at H
      by_cases c12:x30_1<(t858.length:Int)
      ·rw [if_pos c12] at H
       have c12b0:decide (x30_1<(t858.length:Int))=true:=decide_eq_true c12
       clear c12
       by_cases c13:0≤x30_1
       ·rw [if_pos c13] at H
        have c13b0:decide (0≤x30_1)=true:=decide_eq_true c13
        clear c13
        by_cases c14:x30_1<(t858.length:Int)
        ·rw [if_pos c14] at H
         have c14b0:decide (x30_1<(t858.length:Int))=true:=decide_eq_true c14
         clear c14
         replace H:=Option.bind_eq_some_iff.mp H
         obtain ⟨t862,A150,H⟩:=H
         replace H:((solve_First.f k1 t862).bind fun bt865=>(if bt865.2=0 then (if x7_1.length<17592186044416 then (conflict_Others.l0 k1 l0 (x7_1++[bt865.1]) t858 (t858.length:Int) (wrap64 (x30_1+1))) else (none)) else (some (([]:List Int),12))))=some (r1,r2):=H
         have A15:=zA A150
         clear A150
         replace H:=Option.bind_eq_some_iff.mp H
         obtain ⟨⟨t865,t866⟩,A160,H⟩:=H
         replace H:(if t866=0 then (if x7_1.length<17592186044416 then (conflict_Others.l0 k1 l0 (x7_1++[t865]) t858 (t858.length:Int) (wrap64 (x30_1+1))) else (none)) else (some (([]:List Int),12)))=some (r1,r2):=H
         have A16:=zA A160
         clear A160
         have HC17:=zA H
         clear H
         have p861:0≤(x30_1:Int):=of_decide_eq_true zh
         have q861:x30_1<(t858.length:Int):=of_decide_eq_true zh
         obtain ⟨ad861,A861_0,c861_0,e861,hx861_0,hl861_0,hi861_0⟩:=at_L1 (Kd.N_reads' HO_28.out).2.2 x30_1 p861 q861
         cases e861
         obtain ⟨ce861,hce861,hMe861,hcc861⟩:=Kd.N_get HO_28.out [] x30_1 p861 (by first|exact q861|exact of_decide_eq_true zh|(have e_:=(Kd.N_reads' HO_28.out).1;omega))
         obtain ⟨ua861_0,uc861_0,rfl,ul861_0,ge861_0⟩:=Kd.FK_slice_open hMe861
         have hv861_0:=hcc861 0 _ rfl
         rw [Nat.add_zero,show ((Kd.slice 3 (Kd.int .i64))).sz=1 from rfl,Nat.mul_one] at hv861_0
         replace hv861_0:=Option.some.inj (hv861_0.symm.trans hx861_0)
         injection hv861_0 with hva_ hvn_ hvc_
         rw [hva_] at ge861_0
         rw [hvc_] at ul861_0
         have HL861_0:=zA (show Kd.V (Kd.int .i64) 3 _ w.heap.size _ _ (rd_L1 t858 x30_1) from Kd.V_mk ul861_0 ge861_0)
         clear hva_ hvn_ hvc_ ge861_0 ul861_0
         clear hcc861 hce861
         have HR861_0:=zA hi861_0
         have HC861_0:=zA hl861_0
         clear hi861_0 hl861_0
         replace p861:=eq_true p861
         replace q861:=eq_true q861
         go_upto_if 42 with (first|((with_reducible refine gate_callee (f:=67) rfl ?_);refine goesL_ (some 37) rfl rfl Try.func67 zK rfl #[.slice A0 l0.length c0,.slice A861_0 (rd_L1 t858 x30_1).length c861_0] rfl zM ?_;(with_reducible refine (conflict_system.calls k1 (fun k_=>k_<w.heap.size) _ _ l0 _ _ (rd_L1 t858 x30_1) t862 _ ?side1 ?side2 ?side3 A15.out).mono ?_);(case side1=>exact Kd.V_mk HC0.out (Kd.F_below (Kd.C_F k50_heap HR0.out) zB));(case side2=>exact zC ((Kd.V_reads' HL861_0.out).2.2));(case side3=>exact HC861_0.out);rintro e w18 ⟨v863,rfl,ho0,hb⟩;refine ⟨_,rfl,?_⟩;have HO864:=zA (Kd.N_lower (Kd.N_mono (ok':=fun k_=>some k_≠(u7:Value).ownBlock∧some k_≠(.slice (some ad861) t858.length co11:Value).ownBlock) ho0 (fun k_ hk_=>⟨Or.elim hk_ (fun hs_=>fun e_=>Nat.not_le.2 hs_ (Kd.R_base HO_7.out k_ e_.symm)) (fun hn_=>(Kd.fresh' (Kd.R_lt (zR HO_7)) k_ hn_)),Or.elim hk_ (fun hs_=>fun e_=>Nat.not_le.2 hs_ (Kd.N_base HO_28.out k_ e_.symm)) (fun hn_=>(Kd.fresh' (Kd.N_lt (zN HO_28)) k_ hn_))⟩)) (below_size zB));replace HO_7:=zA (Kd.R_below (zR HO_7) hb);replace HO_28:=zA (Kd.N_elder' (zN HO_28) (Kd.N_base ho0) hb);replace HR861_0:=zA (Kd.C_below ((Kd.V_reads' HL861_0.out).2.2) hb);replace HL861_0:=zA (Kd.V_elder' (by (with_reducible repeat (first|apply Kd.V_alloc|apply Kd.V_drewN|apply Kd.V_drew));exact HL861_0.out) (Kd.N_base ho0) hb);replace HB:=zA (below_step zB hb);(try clear hb);(try clear hb2);(try clear hk);(try clear hi);(try clear ho0);obtain ⟨Ao19,co19,eo19⟩:=Kd.N_slice HO864.out;subst eo19)|((with_reducible refine gate_callee (f:=29) rfl ?_);refine goesL_ (some 38) rfl rfl Try.func29 zK rfl #[.slice Ao19 t862.length co19] rfl zM ?_;(with_reducible refine (solve_First.calls k1 _ _ t862 t865 t866 _ ?side1 ?side2 A16.out).mono ?_);(case side1=>exact zC (Kd.N_reads' HO864.out).2.2);(case side2=>exact (Kd.N_reads' HO864.out).2.1);rintro e w20 ⟨rfl,hb⟩;refine ⟨_,rfl,?_⟩;replace HO_7:=zA (Kd.R_below (zR HO_7) hb);replace HO_28:=zA (Kd.N_below (zN HO_28) hb);replace HO864:=zA (Kd.N_below (zN HO864) hb);replace HR861_0:=zA (Kd.C_below ((Kd.V_reads' HL861_0.out).2.2) hb);replace HL861_0:=zA (Kd.V_below (by (with_reducible repeat (first|apply Kd.V_alloc|apply Kd.V_drewN|apply Kd.V_drew));exact HL861_0.out) hb);replace HB:=zA (below_step zB hb);(try clear hb);(try clear hb2);(try clear hk);(try clear hi)))
         (try simp only [Act.put,zi,zs,zt])
         have H:=HC17.out
         clear HC17
         by_cases c21:t866=0
         ·rw [if_pos c21] at H
          have c21b0:(t866 == 0)=true:=beq_iff_eq.mpr c21
          have c21b1:(t866 != 0)=false:=bne_eq_false_iff_eq.mpr c21
          clear c21
          (first|rw [c21b0]|(simp only [i64_w,i32_w];rw [c21b0])|skip)
          (try rw [c21b1])
          by_cases c22:x7_1.length<17592186044416
          ·rw [if_pos c22] at H
           have LMc22:=zA c22
           clear c22
           obtain ⟨y867,hy867⟩:∃ y_:List Int,y_=(x7_1++[t865]):=⟨_,rfl⟩
           replace H:(conflict_Others.l0 k1 l0 y867 t858 (t858.length:Int) (wrap64 (x30_1+1)))=some (r1,r2):=by first|(rw [hy867];with_reducible exact H)|(have H2_:=(Option.bind_some _ _).symm.trans H;rw [hy867];with_reducible exact H2_)|(have H2_:=(Option.bind_some _ _).symm.trans H;with_reducible exact H2_)|with_reducible exact H|(rw [hy867];exact H)|exact H
           have Ny867:=zA hy867
           clear hy867
           have H':=zA H
           clear H
           go_wp2_with (first|((with_reducible refine gate_builtin (b:=.append) (xs:=#[.tmp 43,.tmp 45]) rfl ?_);(try (refine gate_guard (by rfl) ?_;dsimp only));at_builtin;refine Kd.R_append (Kd.int .i64) (w0:=w) w.heap.size rfl (.tmp 43) (.tmp 45) 30 3 (.int .i64 0) 8 rfl Try.underlying30 info3 rfl (by decide) (by omega) u7 x7_1 t865 [.int .i64 t865] (fun _=>True) (fun _=>False) rfl rfl ?aP (fun _ hk=>hk.elim) ?aF ?aO ?aB ?aS ?aL ?_;(case aP=>exact rfl);(case aB=>exact zB);(case aF=>exact (fun _ _=>trivial));(case aO=>exact (zR HO_7));(case aS=>exact (below_size zB));(case aL=>have:=LMc22.out;omega);intro v868 w23 ho hb hg hat;rw [← Ny867.out] at ho;have HO869:=zA (ho);replace HO_28:=zA (Kd.N_afterv (ok:=(fun k_=>some k_≠(.slice Ao19 t862.length co19:Value).ownBlock)) (by (with_reducible repeat (first|apply Kd.N_alloc|apply Kd.N_drewN|apply Kd.N_drew));exact Kd.N_mono HO_28.out (fun _ hk=>⟨hk.2,hk.1⟩)) hg hat);replace HL861_0:=zA (Kd.V_afterv (ok:=(fun k_=>some k_≠(.slice (some ad861) t858.length co11:Value).ownBlock∧some k_≠(.slice Ao19 t862.length co19:Value).ownBlock)) (by (with_reducible repeat (first|apply Kd.V_alloc|apply Kd.V_drewN|apply Kd.V_drew));exact Kd.V_mono HL861_0.out (fun _ hk=>⟨⟨hk.1.2,hk.2⟩,hk.1.1⟩)) hg hat);replace HO864:=zA (Kd.N_afterv (ok:=(fun k_=>some k_≠(.slice (some ad861) t858.length co11:Value).ownBlock)) (by (with_reducible repeat (first|apply Kd.N_alloc|apply Kd.N_drewN|apply Kd.N_drew));exact Kd.N_mono HO864.out (fun _ hk=>⟨hk.2,hk.1⟩)) hg hat);replace HB:=zA (hb);clear HO_7;clear ho hb hg hat))
           go_roundg k1
           case measure=>have:=HK1.out;omega
           case rel=>exact ⟨(y867),(wrap64 (x30_1+1)),zT,H',⟨by have:=HK1.out;omega⟩,⟨by refine zr ?_;exact HO869.out⟩,⟨by (with_reducible repeat (first|apply Kd.N_alloc|apply Kd.N_drewN|apply Kd.N_drew));exact Kd.N_mono HO_28.out (fun _ hk=>hk.2)⟩,⟨by repeat (first|(with_reducible first|exact HB.out|apply below_alloc|apply pw_below_drewN|apply below_drew1)|exact HB.out)⟩⟩
          ·rw [if_neg c22] at H
           exact absurd H (by simp)
         ·rw [if_neg c21] at H
          have c21b0:(t866 == 0)=false:=beq_eq_false_iff_ne.mpr c21
          have c21b1:(t866 != 0)=true:=bne_iff_ne.mpr c21
          (first|rw [c21b0]|(simp only [i64_w,i32_w];rw [c21b0])|skip)
          (try rw [c21b1])
          simp only [Option.some.injEq,Prod.mk.injEq] at H
          obtain ⟨rfl,rfl⟩:=H
          go_wp2
          go_ret2
          exact ⟨_,ze,by first|exact Kd.R_nil _ _ _ _ _|exact Kd.N_nil _ _ _ _ _|exact Kd.V_nil _ _ _ _ _|exact Kd.Q_nil _ _ _ _ _|exact Kd.S_nil _ _ _ _ _,by repeat (first|(with_reducible first|exact HB.out|apply below_alloc|apply pw_below_drewN|apply below_drew1)|exact HB.out)⟩
        ·rw [if_neg c14] at H
         exact absurd H (by simp)
       ·rw [if_neg c13] at H
        exact absurd H (by simp)
      ·rw [if_neg c12] at H
       have c12b0:decide (x30_1<(t858.length:Int))=false:=decide_eq_false c12
       clear c12
       simp only [Option.some.injEq,Prod.mk.injEq] at H
       obtain ⟨rfl,rfl⟩:=H
       go_wp2
       go_ret2
       exact ⟨_,ze,by refine zr ?_;exact HO_7.out,by repeat (first|(with_reducible first|exact HB.out|apply below_alloc|apply pw_below_drewN|apply below_drew1)|exact HB.out)⟩
 ·rw [if_neg c6] at H
  have c6b0:(t857 == 0)=false:=beq_eq_false_iff_ne.mpr c6
  have c6b1:(t857 != 0)=true:=bne_iff_ne.mpr c6
  (first|rw [c6b0]|(simp only [i64_w,i32_w];rw [c6b0])|skip)
  (try rw [c6b1])
  simp only [Option.some.injEq,Prod.mk.injEq] at H
  obtain ⟨rfl,rfl⟩:=H
  go_wp2
  go_ret2
  exact ⟨_,ze,by first|exact Kd.R_nil _ _ _ _ _|exact Kd.N_nil _ _ _ _ _|exact Kd.V_nil _ _ _ _ _|exact Kd.Q_nil _ _ _ _ _|exact Kd.S_nil _ _ _ _ _,by repeat (first|(with_reducible first|exact HB.out|apply below_alloc|apply pw_below_drewN|apply below_drew1)|exact HB.out)⟩
def ancepsref42_Others.l0:Nat→List (S50)→List Int→List (List Int)→Int→Option (List Int×Int)
 | 0,_,_,_,_=>none
 | k+1,x0,x7,x8,x9=>if x9<(x8.length:Int) then (if 0≤x9 then ((ancepsref42_System.f k x0 (rd_L1 x8 x9)).bind fun t875=>((ancepsref40_First.f k t875).bind fun bt878=>(if bt878.2=0 then (if x7.length<17592186044416 then (ancepsref42_Others.l0 k x0 (x7++[bt878.1]) x8 (wrap64 (x9+1))) else (none)) else (some (([]:List Int),12))))) else (none)) else (some (x7,0))
def ancepsref42_Others.f (k:Nat) (l0:List (S50)) (a1:Int):Option (List Int×Int):=(ancepsref42_Valid.f k l0).bind fun t870=>(if t870=0 then (if a1<0 then (some (([]:List Int),6)) else (if a1>(l0.length:Int) then (some (([]:List Int),6)) else ((ancepsref42_Sets.f k (l0.length:Int) a1).bind fun t871=>(ancepsref42_Others.l0 k l0 ([]:List Int) t871 0)))) else (some (([]:List Int),t870)))
theorem ancepsref42_Others.mono_l:∀ k,(∀ y0 y1 y2 y3,LeO (ancepsref42_Others.l0 k y0 y1 y2 y3) (ancepsref42_Others.l0 (k+1) y0 y1 y2 y3))
 | 0=>fun _ _ _ _ r h=>by simp [ancepsref42_Others.l0] at h
 | k+1=>by
  have ih0:=ancepsref42_Others.mono_l k
  ·intro y0 y1 y2 y3
   unfold ancepsref42_Others.l0
   repeat' first
   | (with_reducible exact ih0 _ _ _ _)
   | (with_reducible exact ancepsref40_First.mono _ _)
   | (with_reducible exact ancepsref42_Sets.mono _ _ _)
   | (with_reducible exact ancepsref42_System.mono _ _ _)
   | (with_reducible exact ancepsref42_Valid.mono _ _)
   | (with_reducible exact LeO.refl _)
   | (with_reducible exact LeO.none _)
   | (with_reducible refine LeO.ite ?_ ?_)
   | (with_reducible refine LeO.bind ?_ (fun _=>?_))
   | exact LeO.none _
   | refine LeO.ite ?_ ?_
   | refine LeO.bind ?_ (fun _=>?_)
theorem ancepsref42_Others.mono:∀ a0 a1 k,LeO (ancepsref42_Others.f k a0 a1) (ancepsref42_Others.f (k+1) a0 a1):=by
 intro a0 a1 k
 have ih0:=ancepsref42_Others.mono_l k
 unfold ancepsref42_Others.f
 repeat' first
   | (with_reducible exact ih0 _ _ _ _)
   | (with_reducible exact ancepsref40_First.mono _ _)
   | (with_reducible exact ancepsref42_Sets.mono _ _ _)
   | (with_reducible exact ancepsref42_System.mono _ _ _)
   | (with_reducible exact ancepsref42_Valid.mono _ _)
   | (with_reducible exact LeO.refl _)
   | (with_reducible exact LeO.none _)
   | (with_reducible refine LeO.ite ?_ ?_)
   | (with_reducible refine LeO.bind ?_ (fun _=>?_))
   | exact LeO.none _
   | refine LeO.ite ?_ ?_
   | refine LeO.bind ?_ (fun _=>?_)
set_option maxHeartbeats 8000000 in
set_option maxRecDepth 100000 in
theorem ancepsref42_Others.calls (k:Nat) (A0:Option Addr) (c0:Nat) (l0:List (S50)) (a1:Int) (r1:List Int) (r2:Int) (w:World) (hr0:Kd.C k50 w A0 l0.length l0) (hc0:l0.length≤c0) (h:ancepsref42_Others.f k l0 a1=some (r1,r2)) :
  Calls Try.prog 36 #[.slice A0 l0.length c0,.int .i64 a1] w fun e w'=>∃ v0_:Value,e=.returned (.tuple #[v0_,.int .i64 r2])∧Kd.R (Kd.int .i64) 3 w' w.heap.size (fun _=>True) v0_ r1∧Below w.heap.size w w':=by
 have hu30:=Try.underlying30
 have HR0:=zA hr0
 have HC0:=zA hc0
 clear hr0 hc0
 have HB:=zA (Below.refl w.heap.size w)
 have H:((ancepsref42_Valid.f k l0).bind fun t870=>(if t870=0 then (if a1<0 then (some (([]:List Int),6)) else (if a1>(l0.length:Int) then (some (([]:List Int),6)) else ((ancepsref42_Sets.f k (l0.length:Int) a1).bind fun t871=>(ancepsref42_Others.l0 k l0 ([]:List Int) t871 0)))) else (some (([]:List Int),t870))))=some (r1,r2):=h
 clear h
 replace H:=Option.bind_eq_some_iff.mp H
 obtain ⟨t870,A30,H⟩:=H
 replace H:(if t870=0 then (if a1<0 then (some (([]:List Int),6)) else (if a1>(l0.length:Int) then (some (([]:List Int),6)) else ((ancepsref42_Sets.f k (l0.length:Int) a1).bind fun t871=>(ancepsref42_Others.l0 k l0 ([]:List Int) t871 0)))) else (some (([]:List Int),t870)))=some (r1,r2):=H
 have A3:=zA A30
 clear A30
 have HC4:=zA H
 clear H
 go_enter Try.func36,Try.ntmps36
 go_upto_if 15 with (first|((with_reducible refine gate_callee (f:=26) rfl ?_);refine goesL_ (some 13) rfl rfl Try.func26 zK rfl #[.slice A0 l0.length c0] rfl zM ?_;(with_reducible refine (ancepsref42_Valid.calls k _ _ l0 t870 _ ?side1 ?side2 A3.out).mono ?_);(case side1=>repeat (first|exact HR0.out|(with_reducible refine Kd.C_alloc ?_ _)|(with_reducible refine Kd.C_drewN ?_ _)|(with_reducible refine Kd.C_drew ?_)));(case side2=>exact HC0.out);rintro e w5 ⟨rfl,hb⟩;refine ⟨_,rfl,?_⟩;replace HB:=zA (below_step zB hb);(try clear hb);(try clear hb2);(try clear hk);(try clear hi)))
 (try simp only [Act.put,zi,zs,zt])
 have H:=HC4.out
 clear HC4
 by_cases c6:t870=0
 ·rw [if_pos c6] at H
  have c6b0:(t870 == 0)=true:=beq_iff_eq.mpr c6
  have c6b1:(t870 != 0)=false:=bne_eq_false_iff_eq.mpr c6
  clear c6
  (first|rw [c6b0]|(simp only [i64_w,i32_w];rw [c6b0])|skip)
  (try rw [c6b1])
  by_cases c7:a1<0
  ·rw [if_pos c7] at H
   have c7b0:decide (a1<0)=true:=decide_eq_true c7
   clear c7
   simp only [Option.some.injEq,Prod.mk.injEq] at H
   obtain ⟨rfl,rfl⟩:=H
   go_wp2
   go_ret2
   exact ⟨_,ze,by first|exact Kd.R_nil _ _ _ _ _|exact Kd.N_nil _ _ _ _ _|exact Kd.V_nil _ _ _ _ _|exact Kd.Q_nil _ _ _ _ _|exact Kd.S_nil _ _ _ _ _,by repeat (first|(with_reducible first|exact HB.out|apply below_alloc|apply pw_below_drewN|apply below_drew1)|exact HB.out)⟩
  ·rw [if_neg c7] at H
   have c7b0:decide (a1<0)=false:=decide_eq_false c7
   clear c7
   by_cases c8:a1>(l0.length:Int)
   ·rw [if_pos c8] at H
    have c8b0:decide ((l0.length:Int)<a1)=true:=decide_eq_true c8
    clear c8
    simp only [Option.some.injEq,Prod.mk.injEq] at H
    obtain ⟨rfl,rfl⟩:=H
    go_wp2
    go_ret2
    exact ⟨_,ze,by first|exact Kd.R_nil _ _ _ _ _|exact Kd.N_nil _ _ _ _ _|exact Kd.V_nil _ _ _ _ _|exact Kd.Q_nil _ _ _ _ _|exact Kd.S_nil _ _ _ _ _,by repeat (first|(with_reducible first|exact HB.out|apply below_alloc|apply pw_below_drewN|apply below_drew1)|exact HB.out)⟩
   ·rw [if_neg c8] at H
    have c8b0:decide ((l0.length:Int)<a1)=false:=decide_eq_false c8
    clear c8
    replace H:=Option.bind_eq_some_iff.mp H
    obtain ⟨t871,A90,H⟩:=H
    replace H:(ancepsref42_Others.l0 k l0 ([]:List Int) t871 0)=some (r1,r2):=H
    have A9:=zA A90
    clear A90
    have H':=zA H
    clear H
    go_wp2_with (first|((with_reducible refine gate_callee (f:=44) rfl ?_);refine goesL_ (some 28) rfl rfl Try.func44 zK rfl #[.int .i64 (l0.length:Int),.int .i64 a1] rfl zM ?_;(with_reducible refine (ancepsref42_Sets.calls k (l0.length:Int) a1 t871 _ A9.out).mono ?_);rintro e w10 ⟨v872,rfl,ho0,hb⟩;refine ⟨_,rfl,?_⟩;have HO873:=zA (Kd.N_lower (Kd.N_mono (ok':=fun k_=>True) (Kd.S_N (Kd.S_bound ho0)) (fun k_ hk_=>trivial)) (below_size zB));replace HB:=zA (below_step zB hb);(try clear hb);(try clear hb2);(try clear hk);(try clear hi);(try clear ho0)))
    go_loopg [7,9] k (fun kq v7 v9 w'=>∃ (x7_1:List Int) (x9_1:Int),v9=.int .i64 x9_1∧Aside0 (ancepsref42_Others.l0 kq l0 x7_1 t871 x9_1=some (r1,r2))∧Aside0 (kq≤k)∧Aside0 (Kd.R (Kd.int .i64) 3 w' w.heap.size (fun _=>True) v7 x7_1)∧Aside0 (Kd.N (Kd.slice 3 (Kd.int .i64)) 30 w' w.heap.size (fun k_=>some k_≠(v7:Value).ownBlock) v872 t871)∧Aside0 (Below w.heap.size w w'))
    case atStart=>exact ⟨(([]:List Int)),(0),zT,H',⟨Nat.le_refl _⟩,⟨by first|exact Kd.R_nil _ _ _ _ _|exact Kd.N_nil _ _ _ _ _|exact Kd.V_nil _ _ _ _ _|exact Kd.Q_nil _ _ _ _ _|exact Kd.S_nil _ _ _ _ _⟩,⟨by (with_reducible repeat (first|apply Kd.N_alloc|apply Kd.N_drewN|apply Kd.N_drew));exact Kd.N_mono HO873.out (fun _ hk=>(by simp [Value.ownBlock]))⟩,⟨by repeat (first|(with_reducible first|exact HB.out|apply below_alloc|apply pw_below_drewN|apply below_drew1)|exact HB.out)⟩⟩
    case round=>
     clear H'
     try clear c6
     try clear c6b0
     try clear c6b1
     try clear c7
     try clear c7b0
     try clear c8
     try clear c8b0
     obtain ⟨x7_1,x9_1,rfl,HA,HK1,HO_7,HO_8,HB⟩:=hrel
     cases gk with
     | zero=>exact absurd HA.out (by simp [ancepsref42_Others.l0])
     | succ k1=>
      have H:=HA.out
      clear HA
      simp only [ancepsref42_Others.l0] at H
      by_cases c11:x9_1<(t871.length:Int)
      ·rw [if_pos c11] at H
       have c11b0:decide (x9_1<(t871.length:Int))=true:=decide_eq_true c11
       clear c11
       by_cases c12:0≤x9_1
       ·rw [if_pos c12] at H
        have c12b0:decide (0≤x9_1)=true:=decide_eq_true c12
        clear c12
        replace H:=Option.bind_eq_some_iff.mp H
        obtain ⟨t875,A130,H⟩:=H
        replace H:((ancepsref40_First.f k1 t875).bind fun bt878=>(if bt878.2=0 then (if x7_1.length<17592186044416 then (ancepsref42_Others.l0 k1 l0 (x7_1++[bt878.1]) t871 (wrap64 (x9_1+1))) else (none)) else (some (([]:List Int),12))))=some (r1,r2):=H
        have A13:=zA A130
        clear A130
        replace H:=Option.bind_eq_some_iff.mp H
        obtain ⟨⟨t878,t879⟩,A140,H⟩:=H
        replace H:(if t879=0 then (if x7_1.length<17592186044416 then (ancepsref42_Others.l0 k1 l0 (x7_1++[t878]) t871 (wrap64 (x9_1+1))) else (none)) else (some (([]:List Int),12)))=some (r1,r2):=H
        have A14:=zA A140
        clear A140
        have HC15:=zA H
        clear H
        obtain ⟨Ao16,co16,eo16⟩:=Kd.N_slice HO_8.out
        subst eo16
        have p874:0≤(x9_1:Int):=of_decide_eq_true zh
        have q874:x9_1<(t871.length:Int):=of_decide_eq_true zh
        obtain ⟨ad874,A874_0,c874_0,e874,hx874_0,hl874_0,hi874_0⟩:=at_L1 (Kd.N_reads' HO_8.out).2.2 x9_1 p874 q874
        cases e874
        obtain ⟨ce874,hce874,hMe874,hcc874⟩:=Kd.N_get HO_8.out [] x9_1 p874 (by first|exact q874|exact of_decide_eq_true zh|(have e_:=(Kd.N_reads' HO_8.out).1;omega))
        obtain ⟨ua874_0,uc874_0,rfl,ul874_0,ge874_0⟩:=Kd.FK_slice_open hMe874
        have hv874_0:=hcc874 0 _ rfl
        rw [Nat.add_zero,show ((Kd.slice 3 (Kd.int .i64))).sz=1 from rfl,Nat.mul_one] at hv874_0
        replace hv874_0:=Option.some.inj (hv874_0.symm.trans hx874_0)
        injection hv874_0 with hva_ hvn_ hvc_
        rw [hva_] at ge874_0
        rw [hvc_] at ul874_0
        have HL874_0:=zA (show Kd.V (Kd.int .i64) 3 _ w.heap.size _ _ (rd_L1 t871 x9_1) from Kd.V_mk ul874_0 ge874_0)
        clear hva_ hvn_ hvc_ ge874_0 ul874_0
        clear hcc874 hce874
        have HR874_0:=zA hi874_0
        have HC874_0:=zA hl874_0
        clear hi874_0 hl874_0
        replace p874:=eq_true p874
        replace q874:=eq_true q874
        go_upto_if 46 with (first|((with_reducible refine gate_callee (f:=69) rfl ?_);refine goesL_ (some 41) rfl rfl Try.func69 zK rfl #[.slice A0 l0.length c0,.slice A874_0 (rd_L1 t871 x9_1).length c874_0] rfl zM ?_;(with_reducible refine (ancepsref42_System.calls k1 (fun k_=>k_<w.heap.size) _ _ l0 _ _ (rd_L1 t871 x9_1) t875 _ ?side1 ?side2 ?side3 A13.out).mono ?_);(case side1=>exact Kd.V_mk HC0.out (Kd.F_below (Kd.C_F k50_heap HR0.out) zB));(case side2=>exact zC ((Kd.V_reads' HL874_0.out).2.2));(case side3=>exact HC874_0.out);rintro e w17 ⟨v876,rfl,ho0,hb⟩;refine ⟨_,rfl,?_⟩;have HO877:=zA (Kd.N_lower (Kd.N_mono (ok':=fun k_=>some k_≠(u7:Value).ownBlock∧some k_≠(.slice (some ad874) t871.length co16:Value).ownBlock) ho0 (fun k_ hk_=>⟨Or.elim hk_ (fun hs_=>fun e_=>Nat.not_le.2 hs_ (Kd.R_base HO_7.out k_ e_.symm)) (fun hn_=>(Kd.fresh' (Kd.R_lt (zR HO_7)) k_ hn_)),Or.elim hk_ (fun hs_=>fun e_=>Nat.not_le.2 hs_ (Kd.N_base HO_8.out k_ e_.symm)) (fun hn_=>(Kd.fresh' (Kd.N_lt (zN HO_8)) k_ hn_))⟩)) (below_size zB));replace HO_7:=zA (Kd.R_below (zR HO_7) hb);replace HO_8:=zA (Kd.N_elder' (zN HO_8) (Kd.N_base ho0) hb);replace HR874_0:=zA (Kd.C_below ((Kd.V_reads' HL874_0.out).2.2) hb);replace HL874_0:=zA (Kd.V_elder' (by (with_reducible repeat (first|apply Kd.V_alloc|apply Kd.V_drewN|apply Kd.V_drew));exact HL874_0.out) (Kd.N_base ho0) hb);replace HB:=zA (below_step zB hb);(try clear hb);(try clear hb2);(try clear hk);(try clear hi);(try clear ho0);obtain ⟨Ao18,co18,eo18⟩:=Kd.N_slice HO877.out;subst eo18)|((with_reducible refine gate_callee (f:=68) rfl ?_);refine goesL_ (some 42) rfl rfl Try.func68 zK rfl #[.slice Ao18 t875.length co18] rfl zM ?_;(with_reducible refine (ancepsref40_First.calls k1 _ _ t875 t878 t879 _ ?side1 ?side2 A14.out).mono ?_);(case side1=>exact zC (Kd.N_reads' HO877.out).2.2);(case side2=>exact (Kd.N_reads' HO877.out).2.1);rintro e w19 ⟨rfl,hb⟩;refine ⟨_,rfl,?_⟩;replace HO_7:=zA (Kd.R_below (zR HO_7) hb);replace HO_8:=zA (Kd.N_below (zN HO_8) hb);replace HO877:=zA (Kd.N_below (zN HO877) hb);replace HR874_0:=zA (Kd.C_below ((Kd.V_reads' HL874_0.out).2.2) hb);replace HL874_0:=zA (Kd.V_below (by (with_reducible repeat (first|apply Kd.V_alloc|apply Kd.V_drewN|apply Kd.V_drew));exact HL874_0.out) hb);replace HB:=zA (below_step zB hb);(try clear hb);(try clear hb2);(try clear hk);(try clear hi)))
        (try simp only [Act.put,zi,zs,zt])
        have H:=HC15.out
        clear HC15
        by_cases c20:t879=0
        ·rw [if_pos c20] at H
         have c20b0:(t879 == 0)=true:=beq_iff_eq.mpr c20
         have c20b1:(t879 != 0)=false:=bne_eq_false_iff_eq.mpr c20
         clear c20
         (first|rw [c20b0]|(simp only [i64_w,i32_w];rw [c20b0])|skip)
         (try rw [c20b1])
         by_cases c21:x7_1.length<17592186044416
         ·rw [if_pos c21] at H
          have LMc21:=zA c21
          clear c21
          obtain ⟨y880,hy880⟩:∃ y_:List Int,y_=(x7_1++[t878]):=⟨_,rfl⟩
          replace H:(ancepsref42_Others.l0 k1 l0 y880 t871 (wrap64 (x9_1+1)))=some (r1,r2):=by first|(rw [hy880];with_reducible exact H)|(have H2_:=(Option.bind_some _ _).symm.trans H;rw [hy880];with_reducible exact H2_)|(have H2_:=(Option.bind_some _ _).symm.trans H;with_reducible exact H2_)|with_reducible exact H|(rw [hy880];exact H)|exact H
          have Ny880:=zA hy880
          clear hy880
          have H':=zA H
          clear H
          go_wp2_with (first|((with_reducible refine gate_builtin (b:=.append) (xs:=#[.tmp 47,.tmp 49]) rfl ?_);(try (refine gate_guard (by rfl) ?_;dsimp only));at_builtin;refine Kd.R_append (Kd.int .i64) (w0:=w) w.heap.size rfl (.tmp 47) (.tmp 49) 30 3 (.int .i64 0) 8 rfl Try.underlying30 info3 rfl (by decide) (by omega) u7 x7_1 t878 [.int .i64 t878] (fun _=>True) (fun _=>False) rfl rfl ?aP (fun _ hk=>hk.elim) ?aF ?aO ?aB ?aS ?aL ?_;(case aP=>exact rfl);(case aB=>exact zB);(case aF=>exact (fun _ _=>trivial));(case aO=>exact (zR HO_7));(case aS=>exact (below_size zB));(case aL=>have:=LMc21.out;omega);intro v881 w22 ho hb hg hat;rw [← Ny880.out] at ho;have HO882:=zA (ho);replace HO_8:=zA (Kd.N_afterv (ok:=(fun k_=>some k_≠(.slice Ao18 t875.length co18:Value).ownBlock)) (by (with_reducible repeat (first|apply Kd.N_alloc|apply Kd.N_drewN|apply Kd.N_drew));exact Kd.N_mono HO_8.out (fun _ hk=>⟨hk.2,hk.1⟩)) hg hat);replace HL874_0:=zA (Kd.V_afterv (ok:=(fun k_=>some k_≠(.slice (some ad874) t871.length co16:Value).ownBlock∧some k_≠(.slice Ao18 t875.length co18:Value).ownBlock)) (by (with_reducible repeat (first|apply Kd.V_alloc|apply Kd.V_drewN|apply Kd.V_drew));exact Kd.V_mono HL874_0.out (fun _ hk=>⟨⟨hk.1.2,hk.2⟩,hk.1.1⟩)) hg hat);replace HO877:=zA (Kd.N_afterv (ok:=(fun k_=>some k_≠(.slice (some ad874) t871.length co16:Value).ownBlock)) (by (with_reducible repeat (first|apply Kd.N_alloc|apply Kd.N_drewN|apply Kd.N_drew));exact Kd.N_mono HO877.out (fun _ hk=>⟨hk.2,hk.1⟩)) hg hat);replace HB:=zA (hb);clear HO_7;clear ho hb hg hat))
          go_roundg k1
          case measure=>have:=HK1.out;omega
          case rel=>exact ⟨(y880),(wrap64 (x9_1+1)),zT,H',⟨by have:=HK1.out;omega⟩,⟨by refine zr ?_;exact HO882.out⟩,⟨by (with_reducible repeat (first|apply Kd.N_alloc|apply Kd.N_drewN|apply Kd.N_drew));exact Kd.N_mono HO_8.out (fun _ hk=>hk.2)⟩,⟨by repeat (first|(with_reducible first|exact HB.out|apply below_alloc|apply pw_below_drewN|apply below_drew1)|exact HB.out)⟩⟩
         ·rw [if_neg c21] at H
          exact absurd H (by simp)
        ·rw [if_neg c20] at H
         have c20b0:(t879 == 0)=false:=beq_eq_false_iff_ne.mpr c20
         have c20b1:(t879 != 0)=true:=bne_iff_ne.mpr c20
         (first|rw [c20b0]|(simp only [i64_w,i32_w];rw [c20b0])|skip)
         (try rw [c20b1])
         simp only [Option.some.injEq,Prod.mk.injEq] at H
         obtain ⟨rfl,rfl⟩:=H
         go_wp2
         go_ret2
         exact ⟨_,ze,by first|exact Kd.R_nil _ _ _ _ _|exact Kd.N_nil _ _ _ _ _|exact Kd.V_nil _ _ _ _ _|exact Kd.Q_nil _ _ _ _ _|exact Kd.S_nil _ _ _ _ _,by repeat (first|(with_reducible first|exact HB.out|apply below_alloc|apply pw_below_drewN|apply below_drew1)|exact HB.out)⟩
       ·rw [if_neg c12] at H
        exact absurd H (by simp)
      ·rw [if_neg c11] at H
       have c11b0:decide (x9_1<(t871.length:Int))=false:=decide_eq_false c11
       clear c11
       simp only [Option.some.injEq,Prod.mk.injEq] at H
       obtain ⟨rfl,rfl⟩:=H
       obtain ⟨Ao23,co23,eo23⟩:=Kd.N_slice HO_8.out
       subst eo23
       go_wp2
       go_ret2
       exact ⟨_,ze,by refine zr ?_;exact HO_7.out,by repeat (first|(with_reducible first|exact HB.out|apply below_alloc|apply pw_below_drewN|apply below_drew1)|exact HB.out)⟩
 ·rw [if_neg c6] at H
  have c6b0:(t870 == 0)=false:=beq_eq_false_iff_ne.mpr c6
  have c6b1:(t870 != 0)=true:=bne_iff_ne.mpr c6
  (first|rw [c6b0]|(simp only [i64_w,i32_w];rw [c6b0])|skip)
  (try rw [c6b1])
  simp only [Option.some.injEq,Prod.mk.injEq] at H
  obtain ⟨rfl,rfl⟩:=H
  go_wp2
  go_ret2
  exact ⟨_,ze,by first|exact Kd.R_nil _ _ _ _ _|exact Kd.N_nil _ _ _ _ _|exact Kd.V_nil _ _ _ _ _|exact Kd.Q_nil _ _ _ _ _|exact Kd.S_nil _ _ _ _ _,by repeat (first|(with_reducible first|exact HB.out|apply below_alloc|apply pw_below_drewN|apply below_drew1)|exact HB.out)⟩
def ancepslaw42_ConflictOthers.f (k:Nat) (l0:List (S50)) (a1:Int):Option (Bool):=(ancepslaw42_awake.f k).bind fun t883=>(if t883=true then ((ancepsref42_Few.f k l0).bind fun t884=>(if t884=true then ((ancepslaw42_copied.f k l0).bind fun t885=>((conflict_Others.f k t885 a1).bind fun bt888=>((ancepsref42_Others.f k l0 a1).bind fun bt892=>(if bt888.2=bt892.2 then ((slices_Equal_int_int.f k bt888.1 bt892.1).bind fun t896=>(some t896)) else (none))))) else ((ancepslaw42_awake.f k).bind fun t897=>(some t897)))) else ((ancepslaw42_awake.f k).bind fun t898=>(some t898)))
theorem ancepslaw42_ConflictOthers.mono:∀ a0 a1 k,LeO (ancepslaw42_ConflictOthers.f k a0 a1) (ancepslaw42_ConflictOthers.f (k+1) a0 a1):=by
 intro a0 a1 k
 unfold ancepslaw42_ConflictOthers.f
 repeat' first
   | (with_reducible exact ancepslaw42_awake.mono _)
   | (with_reducible exact ancepslaw42_copied.mono _ _)
   | (with_reducible exact ancepsref42_Few.mono _ _)
   | (with_reducible exact ancepsref42_Others.mono _ _ _)
   | (with_reducible exact conflict_Others.mono _ _ _)
   | (with_reducible exact slices_Equal_int_int.mono _ _ _)
   | (with_reducible exact LeO.refl _)
   | (with_reducible exact LeO.none _)
   | (with_reducible refine LeO.ite ?_ ?_)
   | (with_reducible refine LeO.bind ?_ (fun _=>?_))
   | exact LeO.none _
   | refine LeO.ite ?_ ?_
   | refine LeO.bind ?_ (fun _=>?_)
set_option maxHeartbeats 8000000 in
set_option maxRecDepth 100000 in
theorem ancepslaw42_ConflictOthers.calls (k:Nat) (A0:Option Addr) (c0:Nat) (l0:List (S50)) (a1:Int) (r:Bool) (w:World) (hr0:Kd.C k50 w A0 l0.length l0) (hc0:l0.length≤c0) (h:ancepslaw42_ConflictOthers.f k l0 a1=some r) :
  Calls Try.prog 8 #[.slice A0 l0.length c0,.int .i64 a1] w fun e w'=>e=.returned (.bool r)∧Below w.heap.size w w':=by
 have HR0:=zA hr0
 have HC0:=zA hc0
 clear hr0 hc0
 have HB:=zA (Below.refl w.heap.size w)
 have H:((ancepslaw42_awake.f k).bind fun t883=>(if t883=true then ((ancepsref42_Few.f k l0).bind fun t884=>(if t884=true then ((ancepslaw42_copied.f k l0).bind fun t885=>((conflict_Others.f k t885 a1).bind fun bt888=>((ancepsref42_Others.f k l0 a1).bind fun bt892=>(if bt888.2=bt892.2 then ((slices_Equal_int_int.f k bt888.1 bt892.1).bind fun t896=>(some t896)) else (none))))) else ((ancepslaw42_awake.f k).bind fun t897=>(some t897)))) else ((ancepslaw42_awake.f k).bind fun t898=>(some t898))))=some r:=h
 clear h
 replace H:=Option.bind_eq_some_iff.mp H
 obtain ⟨t883,A30,H⟩:=H
 replace H:(if t883=true then ((ancepsref42_Few.f k l0).bind fun t884=>(if t884=true then ((ancepslaw42_copied.f k l0).bind fun t885=>((conflict_Others.f k t885 a1).bind fun bt888=>((ancepsref42_Others.f k l0 a1).bind fun bt892=>(if bt888.2=bt892.2 then ((slices_Equal_int_int.f k bt888.1 bt892.1).bind fun t896=>(some t896)) else (none))))) else ((ancepslaw42_awake.f k).bind fun t897=>(some t897)))) else ((ancepslaw42_awake.f k).bind fun t898=>(some t898)))=some r:=H
 have A3:=zA A30
 clear A30
 by_cases c4:t883=true
 ·subst c4
  have H1:((ancepsref42_Few.f k l0).bind fun t884=>(if t884=true then ((ancepslaw42_copied.f k l0).bind fun t885=>((conflict_Others.f k t885 a1).bind fun bt888=>((ancepsref42_Others.f k l0 a1).bind fun bt892=>(if bt888.2=bt892.2 then ((slices_Equal_int_int.f k bt888.1 bt892.1).bind fun t896=>(some t896)) else (none))))) else ((ancepslaw42_awake.f k).bind fun t897=>(some t897))))=some r:=by rw [if_pos rfl] at H;exact H
  clear H
  have H:=H1
  clear H1
  replace H:=Option.bind_eq_some_iff.mp H
  obtain ⟨t884,A50,H⟩:=H
  replace H:(if t884=true then ((ancepslaw42_copied.f k l0).bind fun t885=>((conflict_Others.f k t885 a1).bind fun bt888=>((ancepsref42_Others.f k l0 a1).bind fun bt892=>(if bt888.2=bt892.2 then ((slices_Equal_int_int.f k bt888.1 bt892.1).bind fun t896=>(some t896)) else (none))))) else ((ancepslaw42_awake.f k).bind fun t897=>(some t897)))=some r:=H
  have A5:=zA A50
  clear A50
  have HC6:=zA H
  clear H
  go_enter Try.func8,Try.ntmps8
  go_upto_if 15 with (first|((with_reducible refine gate_callee (f:=9) rfl ?_);refine goesL_ (some 9) rfl rfl Try.func9 zK rfl #[] rfl zM ?_;(with_reducible refine (ancepslaw42_awake.calls k  true _ A3.out).mono ?_);rintro e w7 ⟨rfl,hb⟩;refine ⟨_,rfl,?_⟩;replace HB:=zA (below_step zB hb);(try clear hb);(try clear hb2);(try clear hk);(try clear hi))|(go_at_call 10;(with_reducible refine (ancepsref42_Few.calls k _ _ l0 t884 _ ?side1 ?side2 A5.out).mono ?_);(case side1=>exact zC (Kd.C_below HR0.out HB.out));(case side2=>exact HC0.out);rintro e w8 ⟨rfl,hb⟩;replace HB:=zA (below_step zB hb);(try clear hb);(try clear hb2);(try clear hk);(try clear hi)))
  (try simp only [Act.put,zi,zs,zt])
  have H:=HC6.out
  clear HC6
  by_cases c9:t884=true
  ·subst c9
   have H1:((ancepslaw42_copied.f k l0).bind fun t885=>((conflict_Others.f k t885 a1).bind fun bt888=>((ancepsref42_Others.f k l0 a1).bind fun bt892=>(if bt888.2=bt892.2 then ((slices_Equal_int_int.f k bt888.1 bt892.1).bind fun t896=>(some t896)) else (none)))))=some r:=by rw [if_pos rfl] at H;exact H
   clear H
   have H:=H1
   clear H1
   replace H:=Option.bind_eq_some_iff.mp H
   obtain ⟨t885,A100,H⟩:=H
   replace H:((conflict_Others.f k t885 a1).bind fun bt888=>((ancepsref42_Others.f k l0 a1).bind fun bt892=>(if bt888.2=bt892.2 then ((slices_Equal_int_int.f k bt888.1 bt892.1).bind fun t896=>(some t896)) else (none))))=some r:=H
   have A10:=zA A100
   clear A100
   replace H:=Option.bind_eq_some_iff.mp H
   obtain ⟨⟨t888,t889⟩,A110,H⟩:=H
   replace H:((ancepsref42_Others.f k l0 a1).bind fun bt892=>(if t889=bt892.2 then ((slices_Equal_int_int.f k t888 bt892.1).bind fun t896=>(some t896)) else (none)))=some r:=H
   have A11:=zA A110
   clear A110
   replace H:=Option.bind_eq_some_iff.mp H
   obtain ⟨⟨t892,t893⟩,A120,H⟩:=H
   replace H:(if t889=t893 then ((slices_Equal_int_int.f k t888 t892).bind fun t896=>(some t896)) else (none))=some r:=H
   have A12:=zA A120
   clear A120
   by_cases c13:t889=t893
   ·rw [if_pos c13] at H
    have c13b0:(t889 == t893)=true:=beq_iff_eq.mpr c13
    have c13b1:(t889 != t893)=false:=bne_eq_false_iff_eq.mpr c13
    clear c13
    (first|rw [c13b0]|(simp only [i64_w,i32_w];rw [c13b0])|skip)
    (try rw [c13b1])
    replace H:=Option.bind_eq_some_iff.mp H
    obtain ⟨t896,A140,H⟩:=H
    replace H:(some t896)=some r:=H
    have A14:=zA A140
    clear A140
    obtain rfl:=Option.some.inj H
    go_wp2_with (first|((with_reducible refine gate_callee (f:=12) rfl ?_);refine goesL_ (some 19) rfl rfl Try.func12 zK rfl #[.slice A0 l0.length c0] rfl zM ?_;(with_reducible refine (ancepslaw42_copied.calls k _ _ l0 t885 _ ?side1 ?side2 A10.out).mono ?_);(case side1=>exact zC (Kd.C_below HR0.out HB.out));(case side2=>exact HC0.out);rintro e w15 ⟨v886,rfl,ho0,hb⟩;refine ⟨_,rfl,?_⟩;have HO887:=zA (Kd.S_lower ho0 (below_size zB));replace HB:=zA (below_step zB hb);(try clear hb);(try clear hb2);(try clear hk);(try clear hi);(try clear ho0);obtain ⟨Ao16,co16,eo16⟩:=Kd.S_slice HO887.out;subst eo16)|((with_reducible refine gate_callee (f:=35) rfl ?_);refine goesL_ (some 21) rfl rfl Try.func35 zK rfl #[.slice Ao16 t885.length co16,.int .i64 a1] rfl zM ?_;(with_reducible refine (conflict_Others.calls k _ _ t885 a1 t888 t889 _ ?side1 ?side2 A11.out).mono ?_);(case side1=>exact zC (Kd.S_reads' HO887.out).2.2);(case side2=>exact (Kd.S_reads' HO887.out).2.1);rintro e w17 ⟨v890,rfl,ho0,hb⟩;refine ⟨_,rfl,?_⟩;have HO891:=zA (Kd.R_lower ho0 (below_size zB));replace HO887:=zA (Kd.S_elder' (zS HO887) (Kd.R_base ho0) hb);replace HB:=zA (below_step zB hb);(try clear hb);(try clear hb2);(try clear hk);(try clear hi);(try clear ho0))|((with_reducible refine gate_callee (f:=36) rfl ?_);refine goesL_ (some 27) rfl rfl Try.func36 zK rfl #[.slice A0 l0.length c0,.int .i64 a1] rfl zM ?_;(with_reducible refine (ancepsref42_Others.calls k _ _ l0 a1 t892 t893 _ ?side1 ?side2 A12.out).mono ?_);(case side1=>exact zC (Kd.C_below HR0.out HB.out));(case side2=>exact HC0.out);rintro e w18 ⟨v894,rfl,ho0,hb⟩;refine ⟨_,rfl,?_⟩;have HO895:=zA (Kd.R_lower (Kd.R_new' ho0 (Kd.R_lt (zR HO891))) (below_size zB));replace HO887:=zA (Kd.S_elder' (zS HO887) (Kd.R_base ho0) hb);replace HO891:=zA (Kd.R_elder' (zR HO891) (Kd.R_base ho0) hb);replace HB:=zA (below_step zB hb);(try clear hb);(try clear hb2);(try clear hk);(try clear hi);(try clear ho0);obtain ⟨Ao19,co19,eo19⟩:=Kd.R_slice HO891.out;subst eo19;obtain ⟨Ao20,co20,eo20⟩:=Kd.R_slice HO895.out;subst eo20)|(go_at_call 19;(with_reducible refine (slices_Equal_int_int.calls k _ _ t888 _ _ t892 t896 _ ?side1 ?side2 ?side3 ?side4 A14.out).mono ?_);(case side1=>exact zC (Kd.R_reads' HO891.out).2.2);(case side2=>exact (Kd.R_reads' HO891.out).2.1);(case side3=>exact zC (Kd.R_reads' HO895.out).2.2);(case side4=>exact (Kd.R_reads' HO895.out).2.1);rintro e w' ⟨rfl,⟨nd,rfl⟩⟩))
    go_ret
    exact ⟨ze,by repeat (first|(with_reducible first|exact HB.out|apply below_alloc|apply pw_below_drewN|apply below_drew1)|exact HB.out)⟩
   ·rw [if_neg c13] at H
    exact absurd H (by simp)
  ·replace c9:=Bool.eq_false_iff.mpr c9
   subst c9
   have H1:((ancepslaw42_awake.f k).bind fun t897=>(some t897))=some r:=by rw [if_neg (show ¬ (false=true) by decide)] at H;exact H
   clear H
   have H:=H1
   clear H1
   replace H:=Option.bind_eq_some_iff.mp H
   obtain ⟨t897,A210,H⟩:=H
   replace H:(some t897)=some r:=H
   have A21:=zA A210
   clear A210
   obtain rfl:=Option.some.inj H
   go_wp2_with (first|((with_reducible refine gate_callee (f:=9) rfl ?_);refine goesL_ (some 16) rfl rfl Try.func9 zK rfl #[] rfl zM ?_;(with_reducible refine (ancepslaw42_awake.calls k  t897 _ A21.out).mono ?_);rintro e w22 ⟨rfl,hb⟩;refine ⟨_,rfl,?_⟩;replace HB:=zA (below_step zB hb);(try clear hb);(try clear hb2);(try clear hk);(try clear hi)))
   go_ret
   exact ⟨ze,by repeat (first|(with_reducible first|exact HB.out|apply below_alloc|apply pw_below_drewN|apply below_drew1)|exact HB.out)⟩
 ·replace c4:=Bool.eq_false_iff.mpr c4
  subst c4
  have H1:((ancepslaw42_awake.f k).bind fun t898=>(some t898))=some r:=by rw [if_neg (show ¬ (false=true) by decide)] at H;exact H
  clear H
  have H:=H1
  clear H1
  replace H:=Option.bind_eq_some_iff.mp H
  obtain ⟨t898,A230,H⟩:=H
  replace H:(some t898)=some r:=H
  have A23:=zA A230
  clear A230
  obtain rfl:=Option.some.inj H
  go_enter Try.func8,Try.ntmps8
  go_wp2_with (first|((with_reducible refine gate_callee (f:=9) rfl ?_);refine goesL_ (some 9) rfl rfl Try.func9 zK rfl #[] rfl zM ?_;(with_reducible refine (ancepslaw42_awake.calls k  false _ A3.out).mono ?_);rintro e w24 ⟨rfl,hb⟩;refine ⟨_,rfl,?_⟩;replace HB:=zA (below_step zB hb);(try clear hb);(try clear hb2);(try clear hk);(try clear hi))|((with_reducible refine gate_callee (f:=9) rfl ?_);refine goesL_ (some 16) rfl rfl Try.func9 zK rfl #[] rfl zM ?_;(with_reducible refine (ancepslaw42_awake.calls k  t898 _ A23.out).mono ?_);rintro e w25 ⟨rfl,hb⟩;refine ⟨_,rfl,?_⟩;replace HB:=zA (below_step zB hb);(try clear hb);(try clear hb2);(try clear hk);(try clear hi)))
  go_ret
  exact ⟨ze,by repeat (first|(with_reducible first|exact HB.out|apply below_alloc|apply pw_below_drewN|apply below_drew1)|exact HB.out)⟩
end Go.Proofs.Ytkjghablbeaioaa.S
