import Derived.Test.YtngpkbbljnbojaaI0
import Derived.Test.YtngpkbbljnbojaaI11
import Derived.Test.YtngpkbbljnbojaaI12
namespace Go.Proofs.Ytngpkbbljnbojaa.I
open Go.RowKit Go.Proofs.YtngpkbbljnbojaaW.PrintWords Go.Proofs.YtngpkbbljnbojaaW.PrintLast Go.Proofs.YtngpkbbljnbojaaW.PrintMore
attribute [local go_sem] max2_int min2_int max_two min_two max_three min_three max_four min_four
set_option linter.unusedVariables false
set_option linter.unusedSimpArgs false
mutual
def ancepsref40_solutions.l0:Nat→List (S34)→Int→List Int→List Int→Int→Option (List Int)
 | 0,_,_,_,_,_=>none
 | k+1,x0,x1,x5,x6,x7=>if x7<(shl .i64 1 (x5.length:Int)) then (if (x6.length:Int)<x1 then ((ancepsref38_Assignment.f k x5 x7).bind fun t62=>(ancepsref40_solutions.l1 k x0 x1 x5 x6 x7 t62 true 0)) else (some x6)) else (some x6)
def ancepsref40_solutions.l1:Nat→List (S34)→Int→List Int→List Int→Int→Int→Bool→Int→Option (List Int)
 | 0,_,_,_,_,_,_,_,_=>none
 | k+1,x0,x1,x5,x6,x7,x8,x9,x10=>if x10<(x0.length:Int) then (if x9=true then (if 0≤x10 then ((ancepsref38_Holds.f k ((rd_T34 x0 x10).f0) ((rd_T34 x0 x10).f1) x8).bind fun t76=>(ancepsref40_solutions.l1 k x0 x1 x5 x6 x7 x8 t76 (wrap64 (x10+1)))) else (none)) else (ancepsref40_solutions.l0 k x0 x1 x5 x6 (wrap64 (x7+1)))) else (if x9=true then (if x6.length<17592186044416 then (ancepsref40_solutions.l0 k x0 x1 x5 (x6++[x8]) (wrap64 (x7+1))) else (none)) else (ancepsref40_solutions.l0 k x0 x1 x5 x6 (wrap64 (x7+1))))
end
def ancepsref40_solutions.f (k:Nat) (l0:List (S34)) (a1:Int):Option (List Int):=(ancepsref40_Vars.f k l0).bind fun t46=>(ancepsref40_solutions.l0 k l0 a1 t46 ([]:List Int) 0)
theorem ancepsref40_solutions.mono_l:∀ k,(∀ y0 y1 y2 y3 y4,LeO (ancepsref40_solutions.l0 k y0 y1 y2 y3 y4) (ancepsref40_solutions.l0 (k+1) y0 y1 y2 y3 y4))∧(∀ y0 y1 y2 y3 y4 y5 y6 y7,LeO (ancepsref40_solutions.l1 k y0 y1 y2 y3 y4 y5 y6 y7) (ancepsref40_solutions.l1 (k+1) y0 y1 y2 y3 y4 y5 y6 y7))
 | 0=>⟨fun _ _ _ _ _ r h=>by simp [ancepsref40_solutions.l0] at h,fun _ _ _ _ _ _ _ _ r h=>by simp [ancepsref40_solutions.l1] at h⟩
 | k+1=>by
  obtain ⟨ih0,ih1⟩:=ancepsref40_solutions.mono_l k;refine ⟨?_,?_⟩
  ·intro y0 y1 y2 y3 y4
   unfold ancepsref40_solutions.l0
   repeat' first
   | (with_reducible exact ih0 _ _ _ _ _)
   | (with_reducible exact ih1 _ _ _ _ _ _ _ _)
   | (with_reducible exact ancepsref38_Assignment.mono _ _ _)
   | (with_reducible exact ancepsref38_Holds.mono _ _ _ _)
   | (with_reducible exact ancepsref40_Vars.mono _ _)
   | (with_reducible exact LeO.refl _)
   | (with_reducible exact LeO.none _)
   | (with_reducible refine LeO.ite ?_ ?_)
   | (with_reducible refine LeO.bind ?_ (fun _=>?_))
   | exact LeO.none _
   | refine LeO.ite ?_ ?_
   | refine LeO.bind ?_ (fun _=>?_)
  ·intro y0 y1 y2 y3 y4 y5 y6 y7
   unfold ancepsref40_solutions.l1
   repeat' first
   | (with_reducible exact ih0 _ _ _ _ _)
   | (with_reducible exact ih1 _ _ _ _ _ _ _ _)
   | (with_reducible exact ancepsref38_Assignment.mono _ _ _)
   | (with_reducible exact ancepsref38_Holds.mono _ _ _ _)
   | (with_reducible exact ancepsref40_Vars.mono _ _)
   | (with_reducible exact LeO.refl _)
   | (with_reducible exact LeO.none _)
   | (with_reducible refine LeO.ite ?_ ?_)
   | (with_reducible refine LeO.bind ?_ (fun _=>?_))
   | exact LeO.none _
   | refine LeO.ite ?_ ?_
   | refine LeO.bind ?_ (fun _=>?_)
theorem ancepsref40_solutions.mono:∀ a0 a1 k,LeO (ancepsref40_solutions.f k a0 a1) (ancepsref40_solutions.f (k+1) a0 a1):=by
 intro a0 a1 k;obtain ⟨ih0,ih1⟩:=ancepsref40_solutions.mono_l k
 unfold ancepsref40_solutions.f
 repeat' first
   | (with_reducible exact ih0 _ _ _ _ _)
   | (with_reducible exact ih1 _ _ _ _ _ _ _ _)
   | (with_reducible exact ancepsref38_Assignment.mono _ _ _)
   | (with_reducible exact ancepsref38_Holds.mono _ _ _ _)
   | (with_reducible exact ancepsref40_Vars.mono _ _)
   | (with_reducible exact LeO.refl _)
   | (with_reducible exact LeO.none _)
   | (with_reducible refine LeO.ite ?_ ?_)
   | (with_reducible refine LeO.bind ?_ (fun _=>?_))
   | exact LeO.none _
   | refine LeO.ite ?_ ?_
   | refine LeO.bind ?_ (fun _=>?_)
set_option maxHeartbeats 8000000 in
set_option maxRecDepth 100000 in
theorem ancepsref40_solutions.calls (k:Nat) (A0:Option Addr) (c0:Nat) (l0:List (S34)) (a1:Int) (r:List Int) (w:World) (hr0:Kd.C k34 w A0 l0.length l0) (hc0:l0.length≤c0) (h:ancepsref40_solutions.f k l0 a1=some r) :
  Calls Try.prog 36 #[.slice A0 l0.length c0,.int .i64 a1] w fun e w'=>∃ v0_:Value,e=.returned (v0_)∧Kd.R (Kd.int .i64) 3 w' w.heap.size (fun _=>True) v0_ r∧Below w.heap.size w w':=by
 have hu34:=Try.underlying34;have HR0:=zA hr0;have HC0:=zA hc0;clear hr0 hc0;have HB:=zA (Below.refl w.heap.size w);have H:((ancepsref40_Vars.f k l0).bind fun t46=>(ancepsref40_solutions.l0 k l0 a1 t46 ([]:List Int) 0))=some r:=h;clear h;replace H:=Option.bind_eq_some_iff.mp H;obtain ⟨t46,A30,H⟩:=H;replace H:(ancepsref40_solutions.l0 k l0 a1 t46 ([]:List Int) 0)=some r:=H;have A3:=zA A30;clear A30;have H':=zA H;clear H
 go_enter Try.func36,Try.ntmps36
 go_wp2_with (first|((with_reducible refine gate_callee (f:=16) rfl ?_);refine goesL_ (some 12) rfl rfl Try.func16 zK rfl #[.slice A0 l0.length c0] rfl zM ?_;(with_reducible refine (ancepsref40_Vars.calls k _ _ l0 t46 _ ?side1 ?side2 A3.out).mono ?_);(case side1=>repeat (first|exact HR0.out|(with_reducible refine Kd.C_alloc ?_ _)|(with_reducible refine Kd.C_drewN ?_ _)|(with_reducible refine Kd.C_drew ?_)));(case side2=>exact HC0.out);rintro e w4 ⟨v84,rfl,ho0,hb⟩;refine ⟨_,rfl,?_⟩;have HO93:=zA (Kd.R_lower ho0 (below_size zB));replace HB:=zA (below_step zB hb);(try clear hb);(try clear hb2);(try clear hk);(try clear hi);(try clear ho0)))
 go_loopg [6,7] k (fun kq v6 v7 w'=>∃ (x6_1:List Int) (x7_1:Int),v7=.int .i64 x7_1∧Aside0 (ancepsref40_solutions.l0 kq l0 a1 t46 x6_1 x7_1=some r)∧Aside0 (kq≤k)∧Aside0 (Kd.R (Kd.int .i64) 3 w' w.heap.size (fun k_=>some k_≠(v6:Value).ownBlock) v84 t46)∧Aside0 (Kd.R (Kd.int .i64) 3 w' w.heap.size (fun k_=>some k_≠(v84:Value).ownBlock) v6 x6_1)∧Aside0 (Below w.heap.size w w'))
 case atStart=>exact ⟨(([]:List Int)),(0),zT,H',⟨Nat.le_refl _⟩,⟨by refine zr ?_;exact Kd.R_mono HO93.out (fun _ hk=>(by simp [Value.ownBlock]))⟩,⟨by first|exact Kd.R_nil _ _ _ _ _|exact Kd.N_nil _ _ _ _ _|exact Kd.V_nil _ _ _ _ _|exact Kd.Q_nil _ _ _ _ _|exact Kd.S_nil _ _ _ _ _⟩,⟨zv0 HB⟩⟩
 case round=>
  clear H';obtain ⟨x6_1,x7_1,rfl,HA,HK1,HO_5,HO_6,HB⟩:=hrel
  cases gk with
  | zero=>exact absurd HA.out (by simp [ancepsref40_solutions.l0])
  | succ k1=>
   have H:=HA.out;clear HA;simp only [ancepsref40_solutions.l0] at H
   obtain ⟨ji5,hji5⟩:∃ j_:Int,(shl .i64 1 (t46.length:Int))=j_:=⟨_,rfl⟩
   replace H:(if x7_1<(ji5) then (if (x6_1.length:Int)<a1 then ((ancepsref38_Assignment.f k1 t46 x7_1).bind fun t62=>(ancepsref40_solutions.l1 k1 l0 a1 t46 x6_1 x7_1 t62 true 0)) else (some x6_1)) else (some x6_1))=some r:=by first|(rw [hji5] at H;exact H)|(simp only [hji5] at H ⊢;exact H)
   have hji5_:(IntKind.i64.wrap (1 * 2 ^ min (t46.length:Int).toNat 64))=ji5:=hji5;have hji5z:(t46.length:Int)≤64→(IntKind.i64.wrap (1 * 2 ^ (t46.length:Int).toNat))=ji5:=shl_small hji5;have hji5p:(IntKind.i64.wrap (1 * 2 ^ min t46.length 64))=ji5:=hji5_;have hji5q:(t46.length:Int)≤64→(IntKind.i64.wrap (1 * 2 ^ t46.length))=ji5:=hji5z
   have hji5r:(IntKind.i64.wrap (2 ^ min t46.length 64))=ji5:=by have h_:=hji5p;rw [Int.one_mul] at h_;exact h_
   have hji5s:(t46.length:Int)≤64→(IntKind.i64.wrap (2 ^ t46.length))=ji5:=fun hle_=>by have h_:=hji5q hle_;rw [Int.one_mul] at h_;exact h_
   have hji5u:(IntKind.i64.wrap (2 ^ min (t46.length:Int).toNat 64))=ji5:=by have h_:=hji5_;rw [Int.one_mul] at h_;exact h_
   have hji5v:(t46.length:Int)≤64→(IntKind.i64.wrap (2 ^ (t46.length:Int).toNat))=ji5:=fun hle_=>by have h_:=hji5z hle_;rw [Int.one_mul] at h_;exact h_
   have hji5y:(wrap64 (1 * 2 ^ min (t46.length:Int).toNat 64))=ji5:=(i64_w _).symm.trans hji5_
   have hji5x:(t46.length:Int)≤64→(wrap64 (1 * 2 ^ (t46.length:Int).toNat))=ji5:=fun h_=>(i64_w _).symm.trans (hji5z h_)
   by_cases c6:x7_1<(ji5)
   ·rw [if_pos c6] at H;have c6b0:decide (x7_1<(ji5))=true:=decide_eq_true c6;clear c6
    by_cases c7:(x6_1.length:Int)<a1
    ·rw [if_pos c7] at H;have c7b0:decide ((x6_1.length:Int)<a1)=true:=decide_eq_true c7;clear c7;replace H:=Option.bind_eq_some_iff.mp H;obtain ⟨t62,A80,H⟩:=H;replace H:(ancepsref40_solutions.l1 k1 l0 a1 t46 x6_1 x7_1 t62 true 0)=some r:=H;have A8:=zA A80;clear A80;have H':=zA H;clear H;obtain ⟨Ao9,co9,eo9⟩:=Kd.R_slice HO_5.out;subst eo9;obtain ⟨Ao10,co10,eo10⟩:=Kd.R_slice HO_6.out;subst eo10
     go_wp2_with (first|((with_reducible refine gate_callee (f:=55) rfl ?_);refine goesL_ (some 28) rfl rfl Try.func55 zK rfl #[.slice Ao9 t46.length co9,.int .i64 x7_1] rfl zM ?_;(with_reducible refine (ancepsref38_Assignment.calls k1 _ _ t46 x7_1 t62 _ ?side1 ?side2 A8.out).mono ?_);(case side1=>exact zC (Kd.R_reads' HO_5.out).2.2);(case side2=>exact (Kd.R_reads' HO_5.out).2.1);rintro e w' ⟨rfl,⟨nd,rfl⟩⟩;refine ⟨_,rfl,?_⟩))
     go_loopg [9,10] k1 (fun kq v9 v10 w'=>∃ (x9_2:Bool) (x10_2:Int),v9=.bool x9_2∧v10=.int .i64 x10_2∧Aside0 (ancepsref40_solutions.l1 kq l0 a1 t46 x6_1 x7_1 t62 x9_2 x10_2=some r)∧Aside0 (kq≤k1)∧Aside0 (Kd.R (Kd.int .i64) 3 w' w.heap.size (fun k_=>some k_≠((.slice Ao10 x6_1.length co10):Value).ownBlock) (.slice Ao9 t46.length co9) t46)∧Aside0 (Kd.R (Kd.int .i64) 3 w' w.heap.size (fun k_=>some k_≠((.slice Ao9 t46.length co9):Value).ownBlock) (.slice Ao10 x6_1.length co10) x6_1)∧Aside0 (Below w.heap.size w w'))
     case atStart=>exact ⟨(true),(0),zT,zT,H',⟨Nat.le_refl _⟩,⟨by refine zr ?_;exact HO_5.out⟩,⟨by refine zr ?_;exact HO_6.out⟩,⟨zv0 HB⟩⟩
     case round=>
      clear H'
      try clear c6
      try clear c6b0
      try clear c7
      try clear c7b0
      obtain ⟨x9_2,x10_2,rfl,rfl,HA,HK2,HO_5,HO_6,HB⟩:=hrel
      cases gk with
      | zero=>exact absurd HA.out (by simp [ancepsref40_solutions.l1])
      | succ k2=>
       have H:=HA.out;clear HA;simp only [ancepsref40_solutions.l1] at H
       by_cases c11:x10_2<(l0.length:Int)
       ·rw [if_pos c11] at H;have c11b0:decide (x10_2<(l0.length:Int))=true:=decide_eq_true c11;clear c11
        by_cases c12:x9_2=true
        ·subst c12
         have H1:(if 0≤x10_2 then ((ancepsref38_Holds.f k2 ((rd_T34 l0 x10_2).f0) ((rd_T34 l0 x10_2).f1) t62).bind fun t76=>(ancepsref40_solutions.l1 k2 l0 a1 t46 x6_1 x7_1 t62 t76 (wrap64 (x10_2+1)))) else (none))=some r:=by rw [if_pos rfl] at H;exact H
         clear H;have H:=H1;clear H1
         by_cases c13:0≤x10_2
         ·rw [if_pos c13] at H;have c13b0:decide (0≤x10_2)=true:=decide_eq_true c13;clear c13;replace H:=Option.bind_eq_some_iff.mp H;obtain ⟨t76,A85,H⟩:=H;replace H:(ancepsref40_solutions.l1 k2 l0 a1 t46 x6_1 x7_1 t62 t76 (wrap64 (x10_2+1)))=some r:=H;have A14:=zA A85;clear A85;have H':=zA H;clear H;have p45:0≤(x10_2:Int):=of_decide_eq_true zh;have q45:x10_2<(l0.length:Int):=of_decide_eq_true zh;obtain ⟨ad45,A45_0,c45_0,A45_1,c45_1,e45,hx45_0,hx45_1,hl45_0,hi45_0,hl45_1,hi45_1⟩:=at_T34 HR0.out x10_2 p45 q45
          cases e45
          replace hx45_0:=(HB.out.cell (World.block_lt_of_cell? w _ hx45_0)).trans hx45_0;replace hx45_1:=(HB.out.cell (World.block_lt_of_cell? w _ hx45_1)).trans hx45_1;have HR45_0:=zA hi45_0;have HC45_0:=zA hl45_0;clear hi45_0 hl45_0;have HR45_1:=zA hi45_1;have HC45_1:=zA hl45_1;clear hi45_1 hl45_1;replace p45:=eq_true p45;replace q45:=eq_true q45
          go_wp2_with (first|((with_reducible refine gate_callee (f:=56) rfl ?_);refine goesL_ (some 43) rfl rfl Try.func56 zK rfl #[.agg #[.slice A45_0 ((rd_T34 l0 x10_2).f0).length c45_0,.slice A45_1 ((rd_T34 l0 x10_2).f1).length c45_1],.int .i64 t62] rfl zM ?_;(with_reducible refine (ancepsref38_Holds.calls k2 _ _ ((rd_T34 l0 x10_2).f0) _ _ ((rd_T34 l0 x10_2).f1) t62 t76 _ ?side1 ?side2 ?side3 ?side4 A14.out).mono ?_);(case side1=>exact zC (Kd.C_below HR45_0.out HB.out));(case side2=>exact HC45_0.out);(case side3=>exact zC (Kd.C_below HR45_1.out HB.out));(case side4=>exact HC45_1.out);rintro e w15 ⟨rfl,hb⟩;refine ⟨_,rfl,?_⟩;replace HO_5:=zA (Kd.R_below (zR HO_5) hb);replace HO_6:=zA (Kd.R_below (zR HO_6) hb);replace HB:=zA (below_step zB hb);(try clear hb);(try clear hb2);(try clear hk);(try clear hi)))
          go_roundg k2
          case measure=>have:=HK1.out;have:=HK2.out;omega
          case rel=>exact ⟨(t76),(wrap64 (x10_2+1)),zT,zT,H',⟨by have:=HK1.out;have:=HK2.out;omega⟩,⟨by refine zr ?_;exact HO_5.out⟩,⟨by refine zr ?_;exact HO_6.out⟩,⟨zv0 HB⟩⟩
         ·rw [if_neg c13] at H;exact absurd H (by simp)
        ·replace c12:=Bool.eq_false_iff.mpr c12;subst c12
         have H1:(ancepsref40_solutions.l0 k2 l0 a1 t46 x6_1 (wrap64 (x7_1+1)))=some r:=by rw [if_neg (show ¬ (false=true) by decide)] at H;exact H
         clear H;have H:=H1;clear H1;have H':=zA H;clear H
         go_wp2
         go_roundg k2
         case measure=>have:=HK1.out;have:=HK2.out;omega
         case rel=>exact ⟨(x6_1),(wrap64 (x7_1+1)),zT,H',⟨by have:=HK1.out;have:=HK2.out;omega⟩,⟨by refine zr ?_;exact HO_5.out⟩,⟨by refine zr ?_;exact HO_6.out⟩,⟨zv0 HB⟩⟩
       ·rw [if_neg c11] at H;have c11b0:decide (x10_2<(l0.length:Int))=false:=decide_eq_false c11;clear c11
        by_cases c16:x9_2=true
        ·subst c16
         have H1:(if x6_1.length<17592186044416 then (ancepsref40_solutions.l0 k2 l0 a1 t46 (x6_1++[t62]) (wrap64 (x7_1+1))) else (none))=some r:=by rw [if_pos rfl] at H;exact H
         clear H;have H:=H1;clear H1
         by_cases c17:x6_1.length<17592186044416
         ·rw [if_pos c17] at H;have LMc17:=zA c17;clear c17
          obtain ⟨y72,hy72⟩:∃ y_:List Int,y_=(x6_1++[t62]):=⟨_,rfl⟩
          replace H:(ancepsref40_solutions.l0 k2 l0 a1 t46 y72 (wrap64 (x7_1+1)))=some r:=by first|(rw [hy72];with_reducible exact H)|(have H2_:=(Option.bind_some _ _).symm.trans H;rw [hy72];with_reducible exact H2_)|(have H2_:=(Option.bind_some _ _).symm.trans H;with_reducible exact H2_)|with_reducible exact H|(rw [hy72];exact H)|exact H
          have Ny72:=zA hy72;clear hy72;have H':=zA H;clear H
          go_wp2_with (first|((with_reducible refine gate_builtin (b:=.append) (xs:=#[.tmp 45,.tmp 47]) rfl ?_);(try (refine gate_guard (by rfl) ?_;dsimp only));at_builtin;refine Kd.R_append (Kd.int .i64) (w0:=w) w.heap.size rfl (.tmp 45) (.tmp 47) 29 3 (.int .i64 0) 8 rfl Try.underlying29 info3 rfl (by decide) (by omega) (.slice Ao10 x6_1.length co10) x6_1 t62 [.int .i64 t62] (fun k_=>some k_≠(.slice Ao9 t46.length co9:Value).ownBlock) (fun _=>False) rfl rfl ?aP (fun _ hk=>hk.elim) ?aF ?aO ?aB ?aS ?aL ?_;(case aP=>exact rfl);(case aB=>exact zB);(case aF=>exact (fun k_ hk=>Kd.fresh' (Kd.R_lt (zR HO_5)) k_ hk));(case aO=>exact (zR HO_6));(case aS=>exact (below_size zB));(case aL=>have:=LMc17.out;omega);intro v96 w18 ho hb hg hat;rw [← Ny72.out] at ho;have HO94:=zA (ho);replace HO_5:=zA (Kd.R_after (ok:=(fun _=>True)) (by refine zr ?_;exact Kd.R_mono HO_5.out (fun _ hk=>⟨trivial,hk⟩)) hg hat);replace HB:=zA (hb);clear HO_6;clear ho hb hg hat))
          go_roundg k2
          case measure=>have:=HK1.out;have:=HK2.out;omega
          case rel=>exact ⟨(y72),(wrap64 (x7_1+1)),zT,H',⟨by have:=HK1.out;have:=HK2.out;omega⟩,⟨by refine zr ?_;exact Kd.R_mono HO_5.out (fun _ hk=>hk.2)⟩,⟨by refine zr ?_;exact HO94.out⟩,⟨zv0 HB⟩⟩
         ·rw [if_neg c17] at H;exact absurd H (by simp)
        ·replace c16:=Bool.eq_false_iff.mpr c16;subst c16
         have H1:(ancepsref40_solutions.l0 k2 l0 a1 t46 x6_1 (wrap64 (x7_1+1)))=some r:=by rw [if_neg (show ¬ (false=true) by decide)] at H;exact H
         clear H;have H:=H1;clear H1;have H':=zA H;clear H
         go_wp2
         go_roundg k2
         case measure=>have:=HK1.out;have:=HK2.out;omega
         case rel=>exact ⟨(x6_1),(wrap64 (x7_1+1)),zT,H',⟨by have:=HK1.out;have:=HK2.out;omega⟩,⟨by refine zr ?_;exact HO_5.out⟩,⟨by refine zr ?_;exact HO_6.out⟩,⟨zv0 HB⟩⟩
    ·rw [if_neg c7] at H;have c7b0:decide ((x6_1.length:Int)<a1)=false:=decide_eq_false c7;clear c7;obtain rfl:=Option.some.inj H;obtain ⟨Ao19,co19,eo19⟩:=Kd.R_slice HO_5.out;subst eo19;obtain ⟨Ao20,co20,eo20⟩:=Kd.R_slice HO_6.out;subst eo20
     go_wp2
     go_ret
     exact ⟨_,by first|rfl|(simp [errW_none,errW_some] <;> rfl)|(simp only [← hji5];first|rfl|(simp [errW_none,errW_some] <;> rfl))|(simp [*,errW_none,errW_some] <;> rfl),by refine zr ?_;exact Kd.R_mono HO_6.out (fun _ hk=>trivial),zv0 HB⟩
   ·rw [if_neg c6] at H;have c6b0:decide (x7_1<(ji5))=false:=decide_eq_false c6;clear c6;obtain rfl:=Option.some.inj H;obtain ⟨Ao21,co21,eo21⟩:=Kd.R_slice HO_5.out;subst eo21
    go_wp2
    go_ret
    exact ⟨_,by first|rfl|(simp [errW_none,errW_some] <;> rfl)|(simp only [← hji5];first|rfl|(simp [errW_none,errW_some] <;> rfl))|(simp [*,errW_none,errW_some] <;> rfl),by refine zr ?_;exact Kd.R_mono HO_6.out (fun _ hk=>trivial),zv0 HB⟩
def ancepsref40_All.f (k:Nat) (l0:List (S34)):Option (List Int×Int):=(ancepsref40_Valid.f k l0).bind fun t63=>(if t63=0 then ((ancepsref40_solutions.f k l0 1001).bind fun t59=>(if (t59.length:Int)>1000 then (some (([]:List Int),3)) else (some (t59,0)))) else (some (([]:List Int),t63)))
theorem ancepsref40_All.mono:∀ a0 k,LeO (ancepsref40_All.f k a0) (ancepsref40_All.f (k+1) a0):=by
 intro a0 k
 unfold ancepsref40_All.f
 repeat' first
   | (with_reducible exact ancepsref40_Valid.mono _ _)
   | (with_reducible exact ancepsref40_solutions.mono _ _ _)
   | (with_reducible exact LeO.refl _)
   | (with_reducible exact LeO.none _)
   | (with_reducible refine LeO.ite ?_ ?_)
   | (with_reducible refine LeO.bind ?_ (fun _=>?_))
   | exact LeO.none _
   | refine LeO.ite ?_ ?_
   | refine LeO.bind ?_ (fun _=>?_)
set_option maxHeartbeats 8000000 in
set_option maxRecDepth 100000 in
theorem ancepsref40_All.calls (k:Nat) (A0:Option Addr) (c0:Nat) (l0:List (S34)) (r1:List Int) (r2:Int) (w:World) (hr0:Kd.C k34 w A0 l0.length l0) (hc0:l0.length≤c0) (h:ancepsref40_All.f k l0=some (r1,r2)) :
  Calls Try.prog 11 #[.slice A0 l0.length c0] w fun e w'=>∃ v0_:Value,e=.returned (.tuple #[v0_,.int .i64 r2])∧Kd.R (Kd.int .i64) 3 w' w.heap.size (fun _=>True) v0_ r1∧Below w.heap.size w w':=by
 have HR0:=zA hr0;have HC0:=zA hc0;clear hr0 hc0;have HB:=zA (Below.refl w.heap.size w);have H:((ancepsref40_Valid.f k l0).bind fun t63=>(if t63=0 then ((ancepsref40_solutions.f k l0 1001).bind fun t59=>(if (t59.length:Int)>1000 then (some (([]:List Int),3)) else (some (t59,0)))) else (some (([]:List Int),t63))))=some (r1,r2):=h;clear h;replace H:=Option.bind_eq_some_iff.mp H;obtain ⟨t63,A20,H⟩:=H;replace H:(if t63=0 then ((ancepsref40_solutions.f k l0 1001).bind fun t59=>(if (t59.length:Int)>1000 then (some (([]:List Int),3)) else (some (t59,0)))) else (some (([]:List Int),t63)))=some (r1,r2):=H;have A2:=zA A20;clear A20;have HC3:=zA H;clear H
 go_enter Try.func11,Try.ntmps11
 go_upto_if 9 with (first|((with_reducible refine gate_callee (f:=26) rfl ?_);refine goesL_ (some 7) rfl rfl Try.func26 zK rfl #[.slice A0 l0.length c0] rfl zM ?_;(with_reducible refine (ancepsref40_Valid.calls k _ _ l0 t63 _ ?side1 ?side2 A2.out).mono ?_);(case side1=>repeat (first|exact HR0.out|(with_reducible refine Kd.C_alloc ?_ _)|(with_reducible refine Kd.C_drewN ?_ _)|(with_reducible refine Kd.C_drew ?_)));(case side2=>exact HC0.out);rintro e w4 ⟨rfl,hb⟩;refine ⟨_,rfl,?_⟩;replace HB:=zA (below_step zB hb);(try clear hb);(try clear hb2);(try clear hk);(try clear hi)))
 (try simp only [Act.put,zi,zs,zt]);have H:=HC3.out;clear HC3
 by_cases c5:t63=0
 ·rw [if_pos c5] at H;have c5b0:(t63 == 0)=true:=beq_iff_eq.mpr c5;have c5b1:(t63 != 0)=false:=bne_eq_false_iff_eq.mpr c5;clear c5
  (first|rw [c5b0]|(simp only [i64_w,i32_w];rw [c5b0])|skip)
  (try rw [c5b1]);replace H:=Option.bind_eq_some_iff.mp H;obtain ⟨t59,A60,H⟩:=H;replace H:(if (t59.length:Int)>1000 then (some (([]:List Int),3)) else (some (t59,0)))=some (r1,r2):=H;have A6:=zA A60;clear A60;have HC7:=zA H;clear H
  go_upto_if 15 with (first|((with_reducible refine gate_callee (f:=36) rfl ?_);refine goesL_ (some 12) rfl rfl Try.func36 zK rfl #[.slice A0 l0.length c0,.int .i64 1001] rfl zM ?_;(with_reducible refine (ancepsref40_solutions.calls k _ _ l0 1001 t59 _ ?side1 ?side2 A6.out).mono ?_);(case side1=>exact zC (Kd.C_below HR0.out HB.out));(case side2=>exact HC0.out);rintro e w8 ⟨v97,rfl,ho0,hb⟩;refine ⟨_,rfl,?_⟩;have HO86:=zA (Kd.R_lower ho0 (below_size zB));replace HB:=zA (below_step zB hb);(try clear hb);(try clear hb2);(try clear hk);(try clear hi);(try clear ho0);obtain ⟨Ao9,co9,eo9⟩:=Kd.R_slice HO86.out;subst eo9))
  (try simp only [Act.put,zi,zs,zt]);have H:=HC7.out;clear HC7
  by_cases c10:(t59.length:Int)>1000
  ·rw [if_pos c10] at H;have c10b0:decide (1000<(t59.length:Int))=true:=decide_eq_true c10;have c10b1:decide (1000<t59.length)=true:=decide_eq_true (by omega);clear c10
   (first|rw [c10b0]|(simp only [i64_w,i32_w];rw [c10b0])|skip)
   (try rw [c10b1]);simp only [Option.some.injEq,Prod.mk.injEq] at H;obtain ⟨rfl,rfl⟩:=H
   go_wp2
   go_ret2
   exact ⟨_,ze,by first|exact Kd.R_nil _ _ _ _ _|exact Kd.N_nil _ _ _ _ _|exact Kd.V_nil _ _ _ _ _|exact Kd.Q_nil _ _ _ _ _|exact Kd.S_nil _ _ _ _ _,zv0 HB⟩
  ·rw [if_neg c10] at H;have c10b0:decide (1000<(t59.length:Int))=false:=decide_eq_false c10;have c10b1:decide (1000<t59.length)=false:=decide_eq_false (by omega);clear c10
   (first|rw [c10b0]|(simp only [i64_w,i32_w];rw [c10b0])|skip)
   (try rw [c10b1]);simp only [Option.some.injEq,Prod.mk.injEq] at H;obtain ⟨rfl,rfl⟩:=H
   go_wp2
   go_ret2
   exact ⟨_,ze,by refine zr ?_;exact HO86.out,zv0 HB⟩
 ·rw [if_neg c5] at H;have c5b0:(t63 == 0)=false:=beq_eq_false_iff_ne.mpr c5;have c5b1:(t63 != 0)=true:=bne_iff_ne.mpr c5
  (first|rw [c5b0]|(simp only [i64_w,i32_w];rw [c5b0])|skip)
  (try rw [c5b1]);simp only [Option.some.injEq,Prod.mk.injEq] at H;obtain ⟨rfl,rfl⟩:=H
  go_wp2
  go_ret2
  exact ⟨_,ze,by first|exact Kd.R_nil _ _ _ _ _|exact Kd.N_nil _ _ _ _ _|exact Kd.V_nil _ _ _ _ _|exact Kd.Q_nil _ _ _ _ _|exact Kd.S_nil _ _ _ _ _,zv0 HB⟩
def ancepsref41_given.f (k:Nat) (l0:List (S34)):Option (Int):=(ancepsref40_Valid.f k l0).bind fun t65=>(if t65=0 then (if (l0.length:Int)>15 then (some 3) else (some 0)) else (some t65))
theorem ancepsref41_given.mono:∀ a0 k,LeO (ancepsref41_given.f k a0) (ancepsref41_given.f (k+1) a0):=by
 intro a0 k
 unfold ancepsref41_given.f
 repeat' first
   | (with_reducible exact ancepsref40_Valid.mono _ _)
   | (with_reducible exact LeO.refl _)
   | (with_reducible exact LeO.none _)
   | (with_reducible refine LeO.ite ?_ ?_)
   | (with_reducible refine LeO.bind ?_ (fun _=>?_))
   | exact LeO.none _
   | refine LeO.ite ?_ ?_
   | refine LeO.bind ?_ (fun _=>?_)
set_option maxHeartbeats 8000000 in
set_option maxRecDepth 100000 in
theorem ancepsref41_given.calls (k:Nat) (A0:Option Addr) (c0:Nat) (l0:List (S34)) (r:Int) (w:World) (hr0:Kd.C k34 w A0 l0.length l0) (hc0:l0.length≤c0) (h:ancepsref41_given.f k l0=some r) :
  Calls Try.prog 32 #[.slice A0 l0.length c0] w fun e w'=>e=.returned (.int .i64 r)∧Below w.heap.size w w':=by
 have HR0:=zA hr0;have HC0:=zA hc0;clear hr0 hc0;have HB:=zA (Below.refl w.heap.size w);have H:((ancepsref40_Valid.f k l0).bind fun t65=>(if t65=0 then (if (l0.length:Int)>15 then (some 3) else (some 0)) else (some t65)))=some r:=h;clear h;replace H:=Option.bind_eq_some_iff.mp H;obtain ⟨t65,A20,H⟩:=H;replace H:(if t65=0 then (if (l0.length:Int)>15 then (some 3) else (some 0)) else (some t65))=some r:=H;have A2:=zA A20;clear A20;have HC3:=zA H;clear H
 go_enter Try.func32,Try.ntmps32
 go_upto_if 7 with (first|((with_reducible refine gate_callee (f:=26) rfl ?_);refine goesL_ (some 5) rfl rfl Try.func26 zK rfl #[.slice A0 l0.length c0] rfl zM ?_;(with_reducible refine (ancepsref40_Valid.calls k _ _ l0 t65 _ ?side1 ?side2 A2.out).mono ?_);(case side1=>repeat (first|exact HR0.out|(with_reducible refine Kd.C_alloc ?_ _)|(with_reducible refine Kd.C_drewN ?_ _)|(with_reducible refine Kd.C_drew ?_)));(case side2=>exact HC0.out);rintro e w4 ⟨rfl,hb⟩;refine ⟨_,rfl,?_⟩;replace HB:=zA (below_step zB hb);(try clear hb);(try clear hb2);(try clear hk);(try clear hi)))
 (try simp only [Act.put,zi,zs,zt]);have H:=HC3.out;clear HC3
 by_cases c5:t65=0
 ·rw [if_pos c5] at H;have c5b0:(t65 == 0)=true:=beq_iff_eq.mpr c5;have c5b1:(t65 != 0)=false:=bne_eq_false_iff_eq.mpr c5;clear c5
  (first|rw [c5b0]|(simp only [i64_w,i32_w];rw [c5b0])|skip)
  (try rw [c5b1])
  by_cases c6:(l0.length:Int)>15
  ·rw [if_pos c6] at H;have c6b0:decide (15<(l0.length:Int))=true:=decide_eq_true c6;have c6b1:decide (15<l0.length)=true:=decide_eq_true (by omega);clear c6;obtain rfl:=Option.some.inj H
   go_wp2
   go_ret
   exact ⟨ze,zv0 HB⟩
  ·rw [if_neg c6] at H;have c6b0:decide (15<(l0.length:Int))=false:=decide_eq_false c6;have c6b1:decide (15<l0.length)=false:=decide_eq_false (by omega);clear c6;obtain rfl:=Option.some.inj H
   go_wp2
   go_ret
   exact ⟨ze,zv0 HB⟩
 ·rw [if_neg c5] at H;have c5b0:(t65 == 0)=false:=beq_eq_false_iff_ne.mpr c5;have c5b1:(t65 != 0)=true:=bne_iff_ne.mpr c5
  (first|rw [c5b0]|(simp only [i64_w,i32_w];rw [c5b0])|skip)
  (try rw [c5b1]);obtain rfl:=Option.some.inj H
  go_wp2
  go_ret
  exact ⟨ze,zv0 HB⟩
def ancepsref40_First.f (k:Nat) (l0:List (S34)):Option (Int×Int):=(ancepsref40_Valid.f k l0).bind fun t66=>(if t66=0 then ((ancepsref40_solutions.f k l0 1).bind fun t49=>(if (t49.length:Int)=0 then (some (0,10)) else (if 0<(t49.length:Int) then (some (rd t49 0,0)) else (none)))) else (some (0,t66)))
theorem ancepsref40_First.mono:∀ a0 k,LeO (ancepsref40_First.f k a0) (ancepsref40_First.f (k+1) a0):=by
 intro a0 k
 unfold ancepsref40_First.f
 repeat' first
   | (with_reducible exact ancepsref40_Valid.mono _ _)
   | (with_reducible exact ancepsref40_solutions.mono _ _ _)
   | (with_reducible exact LeO.refl _)
   | (with_reducible exact LeO.none _)
   | (with_reducible refine LeO.ite ?_ ?_)
   | (with_reducible refine LeO.bind ?_ (fun _=>?_))
   | exact LeO.none _
   | refine LeO.ite ?_ ?_
   | refine LeO.bind ?_ (fun _=>?_)
set_option maxHeartbeats 8000000 in
set_option maxRecDepth 100000 in
theorem ancepsref40_First.calls (k:Nat) (A0:Option Addr) (c0:Nat) (l0:List (S34)) (r1:Int) (r2:Int) (w:World) (hr0:Kd.C k34 w A0 l0.length l0) (hc0:l0.length≤c0) (h:ancepsref40_First.f k l0=some (r1,r2)) :
  Calls Try.prog 53 #[.slice A0 l0.length c0] w fun e w'=>e=.returned (.tuple #[.int .i64 r1,.int .i64 r2])∧Below w.heap.size w w':=by
 have hu3:=Try.underlying3;have HR0:=zA hr0;have HC0:=zA hc0;clear hr0 hc0;have HB:=zA (Below.refl w.heap.size w);have H:((ancepsref40_Valid.f k l0).bind fun t66=>(if t66=0 then ((ancepsref40_solutions.f k l0 1).bind fun t49=>(if (t49.length:Int)=0 then (some (0,10)) else (if 0<(t49.length:Int) then (some (rd t49 0,0)) else (none)))) else (some (0,t66))))=some (r1,r2):=h;clear h;replace H:=Option.bind_eq_some_iff.mp H;obtain ⟨t66,A20,H⟩:=H;replace H:(if t66=0 then ((ancepsref40_solutions.f k l0 1).bind fun t49=>(if (t49.length:Int)=0 then (some (0,10)) else (if 0<(t49.length:Int) then (some (rd t49 0,0)) else (none)))) else (some (0,t66)))=some (r1,r2):=H;have A2:=zA A20;clear A20;have HC3:=zA H;clear H
 go_enter Try.func53,Try.ntmps53
 go_upto_if 9 with (first|((with_reducible refine gate_callee (f:=26) rfl ?_);refine goesL_ (some 7) rfl rfl Try.func26 zK rfl #[.slice A0 l0.length c0] rfl zM ?_;(with_reducible refine (ancepsref40_Valid.calls k _ _ l0 t66 _ ?side1 ?side2 A2.out).mono ?_);(case side1=>repeat (first|exact HR0.out|(with_reducible refine Kd.C_alloc ?_ _)|(with_reducible refine Kd.C_drewN ?_ _)|(with_reducible refine Kd.C_drew ?_)));(case side2=>exact HC0.out);rintro e w4 ⟨rfl,hb⟩;refine ⟨_,rfl,?_⟩;replace HB:=zA (below_step zB hb);(try clear hb);(try clear hb2);(try clear hk);(try clear hi)))
 (try simp only [Act.put,zi,zs,zt]);have H:=HC3.out;clear HC3
 by_cases c5:t66=0
 ·rw [if_pos c5] at H;have c5b0:(t66 == 0)=true:=beq_iff_eq.mpr c5;have c5b1:(t66 != 0)=false:=bne_eq_false_iff_eq.mpr c5;clear c5
  (first|rw [c5b0]|(simp only [i64_w,i32_w];rw [c5b0])|skip)
  (try rw [c5b1]);replace H:=Option.bind_eq_some_iff.mp H;obtain ⟨t49,A60,H⟩:=H;replace H:(if (t49.length:Int)=0 then (some (0,10)) else (if 0<(t49.length:Int) then (some (rd t49 0,0)) else (none)))=some (r1,r2):=H;have A6:=zA A60;clear A60;have HC7:=zA H;clear H
  go_upto_if 15 with (first|((with_reducible refine gate_callee (f:=36) rfl ?_);refine goesL_ (some 12) rfl rfl Try.func36 zK rfl #[.slice A0 l0.length c0,.int .i64 1] rfl zM ?_;(with_reducible refine (ancepsref40_solutions.calls k _ _ l0 1 t49 _ ?side1 ?side2 A6.out).mono ?_);(case side1=>exact zC (Kd.C_below HR0.out HB.out));(case side2=>exact HC0.out);rintro e w8 ⟨v98,rfl,ho0,hb⟩;refine ⟨_,rfl,?_⟩;have HO87:=zA (Kd.R_lower ho0 (below_size zB));replace HB:=zA (below_step zB hb);(try clear hb);(try clear hb2);(try clear hk);(try clear hi);(try clear ho0);obtain ⟨Ao9,co9,eo9⟩:=Kd.R_slice HO87.out;subst eo9))
  (try simp only [Act.put,zi,zs,zt]);have H:=HC7.out;clear HC7
  by_cases c10:(t49.length:Int)=0
  ·rw [if_pos c10] at H;have c10b0:((t49.length:Int) == 0)=true:=beq_iff_eq.mpr c10;have c10b1:((t49.length:Int) != 0)=false:=bne_eq_false_iff_eq.mpr c10;clear c10
   (first|rw [c10b0]|(simp only [i64_w,i32_w];rw [c10b0])|skip)
   (try rw [c10b1]);simp only [Option.some.injEq,Prod.mk.injEq] at H;obtain ⟨rfl,rfl⟩:=H
   go_wp2
   go_ret2
   exact ⟨ze,zv0 HB⟩
  ·rw [if_neg c10] at H;have c10b0:((t49.length:Int) == 0)=false:=beq_eq_false_iff_ne.mpr c10;have c10b1:((t49.length:Int) != 0)=true:=bne_iff_ne.mpr c10
   have c10b2:¬ (t49=[]):=fun h_=>c10 (by rw [h_];rfl)
   (first|rw [c10b0]|(simp only [i64_w,i32_w];rw [c10b0])|skip)
   (try rw [c10b1]);(try rw [c10b2])
   by_cases c11:0<(t49.length:Int)
   ·rw [if_pos c11] at H;have c11b0:decide (0<(t49.length:Int))=true:=decide_eq_true c11;have c11b1:decide (0<t49.length)=true:=decide_eq_true (by omega);clear c11;simp only [Option.some.injEq,Prod.mk.injEq] at H;obtain ⟨rfl,rfl⟩:=H
    have p67:0≤(0:Int):=(by omega)
    have q67:0<(t49.length:Int):=of_decide_eq_true zh;obtain ⟨ad67,e67,hx67_0⟩:=Kd.at_int (Kd.R_reads' HO87.out).2.2 0 p67 q67
    cases e67
    have qi67:(0<t49.length)=True:=eq_true (by omega);(try rw [show ((0:Int)).toNat=0 from rfl] at hx67_0);(try rw [Addr.add_zero'] at hx67_0);replace p67:=eq_true p67;replace q67:=eq_true q67
    go_wp2
    go_ret2
    exact ⟨ze,zv0 HB⟩
   ·rw [if_neg c11] at H;exact absurd H (by simp)
 ·rw [if_neg c5] at H;have c5b0:(t66 == 0)=false:=beq_eq_false_iff_ne.mpr c5;have c5b1:(t66 != 0)=true:=bne_iff_ne.mpr c5
  (first|rw [c5b0]|(simp only [i64_w,i32_w];rw [c5b0])|skip)
  (try rw [c5b1]);simp only [Option.some.injEq,Prod.mk.injEq] at H;obtain ⟨rfl,rfl⟩:=H
  go_wp2
  go_ret2
  exact ⟨ze,zv0 HB⟩
def ancepsref41_solvable.f (k:Nat) (l0:List (S34)):Option (Bool):=(ancepsref40_First.f k l0).bind fun bt82=>(some (bt82.2 == 0))
theorem ancepsref41_solvable.mono:∀ a0 k,LeO (ancepsref41_solvable.f k a0) (ancepsref41_solvable.f (k+1) a0):=by
 intro a0 k
 unfold ancepsref41_solvable.f
 repeat' first
   | (with_reducible exact ancepsref40_First.mono _ _)
   | (with_reducible exact LeO.refl _)
   | (with_reducible exact LeO.none _)
   | (with_reducible refine LeO.ite ?_ ?_)
   | (with_reducible refine LeO.bind ?_ (fun _=>?_))
   | exact LeO.none _
   | refine LeO.ite ?_ ?_
   | refine LeO.bind ?_ (fun _=>?_)
set_option maxHeartbeats 8000000 in
set_option maxRecDepth 100000 in
theorem ancepsref41_solvable.calls (k:Nat) (A0:Option Addr) (c0:Nat) (l0:List (S34)) (r:Bool) (w:World) (hr0:Kd.C k34 w A0 l0.length l0) (hc0:l0.length≤c0) (h:ancepsref41_solvable.f k l0=some r) :
  Calls Try.prog 33 #[.slice A0 l0.length c0] w fun e w'=>e=.returned (.bool r)∧Below w.heap.size w w':=by
 have HR0:=zA hr0;have HC0:=zA hc0;clear hr0 hc0;have HB:=zA (Below.refl w.heap.size w);have H:((ancepsref40_First.f k l0).bind fun bt82=>(some (bt82.2 == 0)))=some r:=h;clear h;replace H:=Option.bind_eq_some_iff.mp H;obtain ⟨⟨t82,t88⟩,A20,H⟩:=H;replace H:(some (t88 == 0))=some r:=H;have A2:=zA A20;clear A20;obtain rfl:=Option.some.inj H
 go_enter Try.func33,Try.ntmps33
 go_wp2_with (first|((with_reducible refine gate_callee (f:=53) rfl ?_);refine goesL_ (some 7) rfl rfl Try.func53 zK rfl #[.slice A0 l0.length c0] rfl zM ?_;(with_reducible refine (ancepsref40_First.calls k _ _ l0 t82 t88 _ ?side1 ?side2 A2.out).mono ?_);(case side1=>repeat (first|exact HR0.out|(with_reducible refine Kd.C_alloc ?_ _)|(with_reducible refine Kd.C_drewN ?_ _)|(with_reducible refine Kd.C_drew ?_)));(case side2=>exact HC0.out);rintro e w3 ⟨rfl,hb⟩;refine ⟨_,rfl,?_⟩;replace HB:=zA (below_step zB hb);(try clear hb);(try clear hb2);(try clear hk);(try clear hi)))
 go_ret
 exact ⟨ze,zv0 HB⟩
def ancepsref41_has.l0:Nat→List Int→Int→Int→Option (Bool)
 | 0,_,_,_=>none
 | k+1,x0,x1,x5=>if x5<(x0.length:Int) then (if 0≤x5 then (if (rd x0 x5)=x1 then (some true) else (ancepsref41_has.l0 k x0 x1 (wrap64 (x5+1)))) else (none)) else (some false)
def ancepsref41_has.f (k:Nat) (l0:List Int) (a1:Int):Option (Bool):=ancepsref41_has.l0 k l0 a1 0
theorem ancepsref41_has.mono_l:∀ k,(∀ y0 y1 y2,LeO (ancepsref41_has.l0 k y0 y1 y2) (ancepsref41_has.l0 (k+1) y0 y1 y2))
 | 0=>fun _ _ _ r h=>by simp [ancepsref41_has.l0] at h
 | k+1=>by
  have ih0:=ancepsref41_has.mono_l k
  ·intro y0 y1 y2
   unfold ancepsref41_has.l0
   repeat' first
   | (with_reducible exact ih0 _ _ _)
   | (with_reducible exact LeO.refl _)
   | (with_reducible exact LeO.none _)
   | (with_reducible refine LeO.ite ?_ ?_)
   | (with_reducible refine LeO.bind ?_ (fun _=>?_))
   | exact LeO.none _
   | refine LeO.ite ?_ ?_
   | refine LeO.bind ?_ (fun _=>?_)
theorem ancepsref41_has.mono:∀ a0 a1 k,LeO (ancepsref41_has.f k a0 a1) (ancepsref41_has.f (k+1) a0 a1):=by
 intro a0 a1 k;have ih0:=ancepsref41_has.mono_l k
 unfold ancepsref41_has.f
 repeat' first
   | (with_reducible exact ih0 _ _ _)
   | (with_reducible exact LeO.refl _)
   | (with_reducible exact LeO.none _)
   | (with_reducible refine LeO.ite ?_ ?_)
   | (with_reducible refine LeO.bind ?_ (fun _=>?_))
   | exact LeO.none _
   | refine LeO.ite ?_ ?_
   | refine LeO.bind ?_ (fun _=>?_)
set_option maxHeartbeats 8000000 in
set_option maxRecDepth 100000 in
theorem ancepsref41_has.calls (k:Nat) (A0:Option Addr) (c0:Nat) (l0:List Int) (a1:Int) (r:Bool) (w:World) (hr0:Kd.C (Kd.int .i64) w A0 l0.length l0) (hc0:l0.length≤c0) (h:ancepsref41_has.f k l0 a1=some r) :
  Calls Try.prog 34 #[.slice A0 l0.length c0,.int .i64 a1] w fun e w'=>e=.returned (.bool r)∧Drawn0 w w':=by
 have hu3:=Try.underlying3;have HR0:=zA hr0;have HC0:=zA hc0;clear hr0 hc0;have H:(ancepsref41_has.l0 k l0 a1 0)=some r:=h;clear h;have H':=zA H;clear H
 go_enter Try.func34,Try.ntmps34
 go_wp2
 go_loopg [5] k (fun kq v5 w'=>∃ (x5_1:Int),v5=.int .i64 x5_1∧Aside0 (ancepsref41_has.l0 kq l0 a1 x5_1=some r)∧Aside0 (kq≤k)∧Drawn0 w w')
 case atStart=>exact ⟨(0),zT,H',⟨Nat.le_refl _⟩,by repeat (first|exact Drawn0.refl _|apply Drawn0.step)⟩
 case round=>
  clear H';obtain ⟨x5_1,rfl,HA,HK1,⟨m1,rfl⟩⟩:=hrel
  cases gk with
  | zero=>exact absurd HA.out (by simp [ancepsref41_has.l0])
  | succ k1=>
   have H:=HA.out;clear HA;simp only [ancepsref41_has.l0] at H
   by_cases c3:x5_1<(l0.length:Int)
   ·rw [if_pos c3] at H;have c3b0:decide (x5_1<(l0.length:Int))=true:=decide_eq_true c3;clear c3
    by_cases c4:0≤x5_1
    ·rw [if_pos c4] at H;have c4b0:decide (0≤x5_1)=true:=decide_eq_true c4;clear c4
     by_cases c5:(rd l0 x5_1)=a1
     ·rw [if_pos c5] at H;have c5b0:((rd l0 x5_1) == a1)=true:=beq_iff_eq.mpr c5;have c5b1:((rd l0 x5_1) != a1)=false:=bne_eq_false_iff_eq.mpr c5;clear c5;obtain rfl:=Option.some.inj H;have p52:0≤(x5_1:Int):=of_decide_eq_true zh;have q52:x5_1<(l0.length:Int):=of_decide_eq_true zh;obtain ⟨ad52,e52,hx52_0⟩:=Kd.at_int HR0.out x5_1 p52 q52
      cases e52
      replace p52:=eq_true p52;replace q52:=eq_true q52
      go_wp2
      go_ret
      exact ⟨by first|rfl|(simp;done)|(simp [*];done),by repeat (first|exact Drawn0.refl _|apply Drawn0.step)⟩
     ·rw [if_neg c5] at H;have c5b0:((rd l0 x5_1) == a1)=false:=beq_eq_false_iff_ne.mpr c5;have c5b1:((rd l0 x5_1) != a1)=true:=bne_iff_ne.mpr c5;have H':=zA H;clear H;have p52:0≤(x5_1:Int):=of_decide_eq_true zh;have q52:x5_1<(l0.length:Int):=of_decide_eq_true zh;obtain ⟨ad52,e52,hx52_0⟩:=Kd.at_int HR0.out x5_1 p52 q52
      cases e52
      replace p52:=eq_true p52;replace q52:=eq_true q52
      go_wp2
      go_roundg k1
      case measure=>have:=HK1.out;omega
      case rel=>exact ⟨(wrap64 (x5_1+1)),zT,H',⟨by have:=HK1.out;omega⟩,by repeat (first|exact Drawn0.refl _|apply Drawn0.step)⟩
    ·rw [if_neg c4] at H;exact absurd H (by simp)
   ·rw [if_neg c3] at H;have c3b0:decide (x5_1<(l0.length:Int))=false:=decide_eq_false c3;clear c3;obtain rfl:=Option.some.inj H
    go_wp2
    go_ret
    exact ⟨by first|rfl|(simp;done)|(simp [*];done),by repeat (first|exact Drawn0.refl _|apply Drawn0.step)⟩
def ancepsref41_added.f (l0:List (S34)) (l1_0:List Int) (l1_1:List Int):Option ((List (S34))):=(some (([]:List (S34)):List (S34))).bind fun y51=>(if y51.length+l0.length<2932031007402 then ((some (y51++l0:List (S34))).bind fun y48=>((some (([(⟨l1_0,l1_1⟩:S34)]:List (S34)):List (S34))).bind fun y47=>(if y48.length+y47.length<2932031007402 then (some (y48++y47)) else (none)))) else (none))
set_option maxHeartbeats 8000000 in
set_option maxRecDepth 100000 in
theorem ancepsref41_added.calls (P0_:Nat→Prop) (A0:Option Addr) (c0:Nat) (l0:List (S34)) (P1_0_:Nat→Prop) (A1_0:Option Addr) (c1_0:Nat) (l1_0:List Int) (P1_1_:Nat→Prop) (A1_1:Option Addr) (c1_1:Nat) (l1_1:List Int) (r:List (S34)) (w:World) (hs0:Kd.V k34 34 w w.heap.size (fun k_=>P0_ k_) (.slice A0 l0.length c0) l0) (hs1_0:Kd.V (Kd.int .i64) 3 w w.heap.size (fun k_=>P1_0_ k_) (.slice A1_0 l1_0.length c1_0) l1_0) (hs1_1:Kd.V (Kd.int .i64) 3 w w.heap.size (fun k_=>P1_1_ k_) (.slice A1_1 l1_1.length c1_1) l1_1) (h:ancepsref41_added.f l0 l1_0 l1_1=some r) :
  Calls Try.prog 41 #[.slice A0 l0.length c0,.agg #[.slice A1_0 l1_0.length c1_0,.slice A1_1 l1_1.length c1_1]] w fun e w'=>∃ v0_:Value,e=.returned (v0_)∧Kd.N k34 34 w' w.heap.size (fun k_=>((P0_ k_∨P1_0_ k_∨P1_1_ k_)∨w.heap.size≤k_)) v0_ r∧Below w.heap.size w w':=by
 have hu34:=Try.underlying34;have HO0:=zA (show Kd.V k34 34 w w.heap.size (fun k_=>((P0_ k_∨P1_0_ k_∨P1_1_ k_)∨w.heap.size≤k_)) (.slice A0 l0.length c0) l0 from Kd.V_mono hs0 (fun k_ hk=>.inl (.inl hk)));have HO1_0:=zA (show Kd.V (Kd.int .i64) 3 w w.heap.size (fun k_=>((P0_ k_∨P1_0_ k_∨P1_1_ k_)∨w.heap.size≤k_)) (.slice A1_0 l1_0.length c1_0) l1_0 from Kd.V_mono hs1_0 (fun k_ hk=>.inl (.inr (.inl hk))));have HO1_1:=zA (show Kd.V (Kd.int .i64) 3 w w.heap.size (fun k_=>((P0_ k_∨P1_0_ k_∨P1_1_ k_)∨w.heap.size≤k_)) (.slice A1_1 l1_1.length c1_1) l1_1 from Kd.V_mono hs1_1 (fun k_ hk=>.inl (.inr (.inr hk))));have HB:=zA (Below.refl w.heap.size w);have H:((some (([]:List (S34)):List (S34))).bind fun y51=>(if y51.length+l0.length<2932031007402 then ((some (y51++l0:List (S34))).bind fun y48=>((some (([(⟨l1_0,l1_1⟩:S34)]:List (S34)):List (S34))).bind fun y47=>(if y48.length+y47.length<2932031007402 then (some (y48++y47)) else (none)))) else (none)))=some r:=h;clear h
 obtain ⟨y51,hy51⟩:∃ y_:List (S34),y_=(([]:List (S34))):=⟨_,rfl⟩
 replace H:(if y51.length+l0.length<2932031007402 then ((some (y51++l0:List (S34))).bind fun y48=>((some (([(⟨l1_0,l1_1⟩:S34)]:List (S34)):List (S34))).bind fun y47=>(if y48.length+y47.length<2932031007402 then (some (y48++y47)) else (none)))) else (none))=some r:=by first|(rw [hy51];with_reducible exact H)|(have H2_:=(Option.bind_some _ _).symm.trans H;rw [hy51];with_reducible exact H2_)|(have H2_:=(Option.bind_some _ _).symm.trans H;with_reducible exact H2_)|with_reducible exact H|(rw [hy51];exact H)|exact H
 have Ny51:=zA hy51;clear hy51
 by_cases c3:y51.length+l0.length<2932031007402
 ·rw [if_pos c3] at H;have LMc3:=zA c3;clear c3
  obtain ⟨y48,hy48⟩:∃ y_:List (S34),y_=(y51++l0):=⟨_,rfl⟩
  replace H:((some (([(⟨l1_0,l1_1⟩:S34)]:List (S34)):List (S34))).bind fun y47=>(if y48.length+y47.length<2932031007402 then (some (y48++y47)) else (none)))=some r:=by first|(rw [hy48];with_reducible exact H)|(have H2_:=(Option.bind_some _ _).symm.trans H;rw [hy48];with_reducible exact H2_)|(have H2_:=(Option.bind_some _ _).symm.trans H;with_reducible exact H2_)|with_reducible exact H|(rw [hy48];exact H)|exact H
  have Ny48:=zA hy48;clear hy48
  obtain ⟨y47,hy47⟩:∃ y_:List (S34),y_=(([(⟨l1_0,l1_1⟩:S34)]:List (S34))):=⟨_,rfl⟩
  replace H:(if y48.length+y47.length<2932031007402 then (some (y48++y47)) else (none))=some r:=by first|(rw [hy47];with_reducible exact H)|(have H2_:=(Option.bind_some _ _).symm.trans H;rw [hy47];with_reducible exact H2_)|(have H2_:=(Option.bind_some _ _).symm.trans H;with_reducible exact H2_)|with_reducible exact H|(rw [hy47];exact H)|exact H
  have Ny47:=zA hy47;clear hy47
  by_cases c4:y48.length+y47.length<2932031007402
  ·rw [if_pos c4] at H;have LMc4:=zA c4;clear c4
   obtain ⟨y73,hy73⟩:∃ y_:List (S34),y_=(y48++y47):=⟨_,rfl⟩
   replace H:(some y73)=some r:=by first|(rw [hy73];with_reducible exact H)|(have H2_:=(Option.bind_some _ _).symm.trans H;rw [hy73];with_reducible exact H2_)|(have H2_:=(Option.bind_some _ _).symm.trans H;with_reducible exact H2_)|with_reducible exact H|(rw [hy73];exact H)|exact H
   have Ny73:=zA hy73;clear hy73;obtain rfl:=Option.some.inj H
   go_enter Try.func41,Try.ntmps41
   try go_wp2_with (first|((with_reducible refine gate_dst (N:=3) rfl ?_);refine box_event ?hg (N:=3) ?hd (cs:=#[.slice A1_0 l1_0.length c1_0,.slice A1_1 l1_1.length c1_1]) (t:=34) ?hr ?_;(case hd=>rfl);(case hg=>rfl);(case hr=>first|(go_simp;done)|(go_simp;rfl));intro gb39 hg w5 hbox hb;have BK39:=zA (hbox);have GW39:=zA (zG hg (below_size zB):w.heap.size≤gb39);have GE39:=GW39;replace HO0:=zA (Kd.V_below (Kd.V_elderB (zV HO0) gb39 (Nat.le_of_eq hg.symm)) hb);replace HO1_0:=zA (Kd.V_below (Kd.V_elderB (zV HO1_0) gb39 (Nat.le_of_eq hg.symm)) hb);replace HO1_1:=zA (Kd.V_below (Kd.V_elderB (zV HO1_1) gb39 (Nat.le_of_eq hg.symm)) hb);replace HB:=zA (below_step zB hb);clear hb hbox hg))
   replace HO0:=zA (Kd.V_drew HO0.out);replace HO1_0:=zA (Kd.V_drew HO1_0.out);replace HO1_1:=zA (Kd.V_drew HO1_1.out);replace BK39:=zA (blk_drew BK39.out);replace HB:=zA (below_drew1 HB.out);refine start_ (n:=7) (S:=fun w'=>w'.cell? ⟨gb39,0,none⟩=some (.slice A1_0 l1_0.length c1_0)∧w'.cell? ⟨gb39,1,none⟩=some (.slice A1_1 l1_1.length c1_1)) (ds:=[]) #[false,false,false,false,false,false,false] zK rfl rfl ⟨(blk_cell BK39.out 0).trans rfl,(blk_cell BK39.out 1).trans rfl⟩ (fun hHeld=>?_)
   generalize w5.drew=w6 at HO0 HO1_0 HO1_1 BK39 HB hHeld ⊢
   refine pure_ (i:=1) (N:=some 6) (v:=?_) (a':=?_) #[false,true,false,false,false,false,false] rfl rfl zK (fun _ _ _ h=>h) (Or.inl ⟨by rfl,?_⟩) ?_ ?_;rotate_left
   ·intro w'
    go_simp
    with_reducible rfl
   rotate_left
   ·simp only [Act.put,zi,zs,zt,i64_w,i32_w];rfl
   refine take_ (i:=3) (N:=some 8) (v:=?_) (a':=?_) #[false,true,false,true,false,false,false] rfl rfl zK (fun _ _ _ h=>h) (Or.inl ⟨by rfl,?_⟩) hHeld ?_ ?_;rotate_left
   ·rintro w' ⟨s0,s1⟩
    go_simp
    with_reducible rfl
   rotate_left
   ·simp only [Act.put,zi,zs,zt,i64_w,i32_w];rfl
   refine join_ (σ:=Value×Value×Value) 2 #[true,true,true,true,true,false,false] (fun s_=>[(5,s_.1),(7,s_.2.1),(9,s_.2.2)]) (fun s_ w'=>(w'.cell? ⟨gb39,0,none⟩=some (.slice A1_0 l1_0.length c1_0)∧w'.cell? ⟨gb39,1,none⟩=some (.slice A1_1 l1_1.length c1_1))∧(Kd.V k34 34 w' w.heap.size (fun k_=>((P0_ k_∨P1_0_ k_∨P1_1_ k_)∨w.heap.size≤k_)∧some k_≠(s_.2.1:Value).ownBlock∧some k_≠(s_.2.2:Value).ownBlock∧k_≠gb39) (.slice A0 l0.length c0) l0)∧(Kd.V (Kd.int .i64) 3 w' w.heap.size (fun k_=>((P0_ k_∨P1_0_ k_∨P1_1_ k_)∨w.heap.size≤k_)∧some k_≠(s_.2.1:Value).ownBlock∧some k_≠(s_.2.2:Value).ownBlock∧k_≠gb39) (.slice A1_0 l1_0.length c1_0) l1_0)∧(Kd.V (Kd.int .i64) 3 w' w.heap.size (fun k_=>((P0_ k_∨P1_0_ k_∨P1_1_ k_)∨w.heap.size≤k_)∧some k_≠(s_.2.1:Value).ownBlock∧some k_≠(s_.2.2:Value).ownBlock∧k_≠gb39) (.slice A1_1 l1_1.length c1_1) l1_1)∧(Kd.N k34 34 w' w.heap.size (fun k_=>((P0_ k_∨P1_0_ k_∨P1_1_ k_)∨w.heap.size≤k_)∧some k_≠(s_.2.2:Value).ownBlock∧k_≠gb39) s_.2.1 y48)∧(Kd.N k34 34 w' w.heap.size (fun k_=>((P0_ k_∨P1_0_ k_∨P1_1_ k_)∨w.heap.size≤k_)∧some k_≠(s_.2.1:Value).ownBlock∧k_≠gb39) s_.2.2 y47)∧(w'.heap[gb39]?=some (.cells #[.slice A1_0 l1_0.length c1_0,.slice A1_1 l1_1.length c1_1] 34 (0,0)))∧(Below w.heap.size w w')) ?_ ?_;rotate_left
   ·intro hCont;refine two_ (i:=0) (j:=4) (Ni:=some 5) (Nj:=some 9) #[true,true,false,true,false,false,false] #[false,true,false,true,true,false,false] rfl rfl rfl rfl zK (by decide) (by decide) (fun K hK=>?_) (fun K hK=>?_)
    ·skip;refine Kd.N_lit_step k34 _ 34 ?hg (N':=5) ?hd (xs:=([]:List (S34))) (inner:=[]) (ok:=(fun k_=>((P0_ k_∨P1_0_ k_∨P1_1_ k_)∨w.heap.size≤k_)∧k_≠gb39)) (okp:=(fun k_=>((P0_ k_∨P1_0_ k_∨P1_1_ k_)∨w.heap.size≤k_)∧k_≠gb39)) ?hr ?hp (fun _ hk=>hk) ((show ∀ k_,w6.heap.size≤k_→(fun k_=>((P0_ k_∨P1_0_ k_∨P1_1_ k_)∨w.heap.size≤k_)∧k_≠gb39) k_ from fun k_ hk=>⟨(.inr (Nat.le_trans (below_size zB) hk)),Kd.freshB (g:=gb39) (o:=.cells #[.slice A1_0 l1_0.length c1_0,.slice A1_1 l1_1.length c1_1] 34 (0,0)) (zk BK39) k_ hk⟩) _ (Nat.le_refl _)) (Below.refl _ _) (Nat.le_refl _) (by simp) ?_;(case hd=>rfl);(case hg=>rfl);(case hr=>first|(go_simp;done)|(go_simp;rfl));(case hp=>exact (Reps.none _ _));intro v54 w7 ho8 hb hg_ hnew_;clear hg_ hnew_
     (first|rw [← Ny51.out] at ho8|(simp only [Int.reduceToNat] at ho8;rw [← Ny51.out] at ho8))
     have HO69:=zA (Kd.N_lower ho8 (below_size zB));replace HO0:=zA (Kd.V_elder' (zV HO0) (Kd.N_base ho8) hb);replace HO1_0:=zA (Kd.V_elder' (zV HO1_0) (Kd.N_base ho8) hb);replace HO1_1:=zA (Kd.V_elder' (zV HO1_1) (Kd.N_base ho8) hb);replace BK39:=zA (zb BK39 hb);replace HB:=zA (below_step zB hb);clear hb ho8;refine hK.out _ _ ⟨(blk_cell BK39.out 0).trans rfl,(blk_cell BK39.out 1).trans rfl⟩ (fun hHeld=>?_);clear hK K;refine norm_ (a':=?_) ?_ ?_;rotate_left
     ·show Act.put _ (some 5) _=_
      simp only [Act.put,zi,zs,zt,i64_w,i32_w];rfl
     refine two_ (i:=2) (j:=4) (Ni:=some 7) (Nj:=some 9) #[true,true,true,true,false,false,false] #[true,true,false,true,true,false,false] rfl rfl rfl rfl zK (by decide) (by decide) (fun K hK=>?_) (fun K hK=>?_)
     ·skip;refine Kd.N_append_rows_step k34 (w0:=w) w.heap.size (by rfl) (.tmp 5) (.tmp 6) 22 34 (.agg #[(.slice none 0 0),(.slice none 0 0)]) 48 rfl Try.underlying22 info34 rfl (by decide) (by omega) v54 y51 l0 _ _ _ (fun k_=>((P0_ k_∨P1_0_ k_∨P1_1_ k_)∨w.heap.size≤k_)∧k_≠gb39) (fun k_=>((fun k_=>((P0_ k_∨P1_0_ k_∨P1_1_ k_)∨w.heap.size≤k_)∧k_≠gb39)) k_∧some k_≠(v54:Value).ownBlock) rfl rfl ?aO ?aR (fun _ hk=>hk) ?aF ?aB ?aS ?aL ?_;(case aR=>exact (by skip;exact Kd.V_F (Kd.V_mono (ok':=(fun k_=>((fun k_=>((P0_ k_∨P1_0_ k_∨P1_1_ k_)∨w.heap.size≤k_)∧k_≠gb39)) k_∧some k_≠(v54:Value).ownBlock)) (HO0.out) (fun k_ hk=>⟨⟨hk.1.1,hk.1.2⟩,hk.2⟩))));(case aB=>exact zB);(case aF=>exact (fun k_ hk=>⟨(.inr (Nat.le_trans (below_size zB) hk)),Kd.freshB (g:=gb39) (o:=.cells #[.slice A1_0 l1_0.length c1_0,.slice A1_1 l1_1.length c1_1] 34 (0,0)) (zk BK39) k_ hk⟩));(case aO=>exact (zN HO69));(case aS=>exact (below_size zB));(case aL=>have:=LMc3.out;omega);intro v57 w9 ho hb hg hat;rw [← Ny48.out] at ho;have HO70:=zA (ho);replace HO0:=zA (Kd.V_afterv (ok:=(fun k_=>((P0_ k_∨P1_0_ k_∨P1_1_ k_)∨w.heap.size≤k_)∧k_≠gb39)) (zV HO0) hg hat);replace HO1_0:=zA (Kd.V_afterv (ok:=(fun k_=>((P0_ k_∨P1_0_ k_∨P1_1_ k_)∨w.heap.size≤k_)∧k_≠gb39)) (zV HO1_0) hg hat);replace HO1_1:=zA (Kd.V_afterv (ok:=(fun k_=>((P0_ k_∨P1_0_ k_∨P1_1_ k_)∨w.heap.size≤k_)∧k_≠gb39)) (zV HO1_1) hg hat);replace BK39:=zA (blk_grown (g:=gb39) (o:=.cells #[.slice A1_0 l1_0.length c1_0,.slice A1_1 l1_1.length c1_1] 34 (0,0)) (zk BK39) hg (Kd.N_away HO69.out (fun _ hk=>hk.2)));replace HB:=zA (hb);clear HO69;clear ho hb hg hat;refine hK.out _ _ ⟨(blk_cell BK39.out 0).trans rfl,(blk_cell BK39.out 1).trans rfl⟩ (fun hHeld=>?_);clear hK K;refine norm_ (a':=?_) ?_ ?_;rotate_left
      ·show Act.put _ (some 7) _=_
       simp only [Act.put,zi,zs,zt,i64_w,i32_w];rfl
      refine one_ (i:=4) (N:=some 9) #[true,true,true,true,true,false,false] rfl rfl zK (by decide) (fun K hK=>?_);refine Kd.N_lit_step k34 _ 34 ?hg (N':=9) ?hd (xs:=([(⟨l1_0,l1_1⟩:S34)]:List (S34))) (inner:=[.slice A1_0 l1_0.length c1_0,.slice A1_1 l1_1.length c1_1]) (ok:=(fun k_=>((P0_ k_∨P1_0_ k_∨P1_1_ k_)∨w.heap.size≤k_)∧some k_≠(v57:Value).ownBlock∧k_≠gb39)) (okp:=(fun k_=>((P0_ k_∨P1_0_ k_∨P1_1_ k_)∨w.heap.size≤k_)∧some k_≠(v57:Value).ownBlock∧k_≠gb39)) ?hr ?hp (fun _ hk=>hk) ((show ∀ k_,w9.heap.size≤k_→(fun k_=>((P0_ k_∨P1_0_ k_∨P1_1_ k_)∨w.heap.size≤k_)∧some k_≠(v57:Value).ownBlock∧k_≠gb39) k_ from fun k_ hk=>⟨(.inr (Nat.le_trans (below_size zB) hk)),Kd.fresh' (Kd.N_lt (zN HO70)) k_ hk,Kd.freshB (g:=gb39) (o:=.cells #[.slice A1_0 l1_0.length c1_0,.slice A1_1 l1_1.length c1_1] 34 (0,0)) (zk BK39) k_ hk⟩) _ (Nat.le_refl _)) (Below.refl _ _) (Nat.le_refl _) (by simp) ?_;(case hd=>rfl);(case hg=>rfl);(case hr=>first|(go_simp;done)|(go_simp;rfl));(case hp=>exact (Reps.c2 (show Kd.FK k34 _ _ (⟨l1_0,l1_1⟩:S34) [.slice A1_0 l1_0.length c1_0,.slice A1_1 l1_1.length c1_1] from (k34_mkF _ _ (⟨l1_0,l1_1⟩:S34) (Kd.V_reads' (Kd.V_mono (ok':=(fun k_=>((P0_ k_∨P1_0_ k_∨P1_1_ k_)∨w.heap.size≤k_)∧some k_≠(v57:Value).ownBlock∧k_≠gb39)) (HO1_0.out) (fun k_ hk=>⟨hk.1.1,⟨hk.2,hk.1.2⟩⟩))).2.1 (Kd.V_F (Kd.V_mono (ok':=(fun k_=>((P0_ k_∨P1_0_ k_∨P1_1_ k_)∨w.heap.size≤k_)∧some k_≠(v57:Value).ownBlock∧k_≠gb39)) (HO1_0.out) (fun k_ hk=>⟨hk.1.1,⟨hk.2,hk.1.2⟩⟩))) (Kd.V_reads' (Kd.V_mono (ok':=(fun k_=>((P0_ k_∨P1_0_ k_∨P1_1_ k_)∨w.heap.size≤k_)∧some k_≠(v57:Value).ownBlock∧k_≠gb39)) (HO1_1.out) (fun k_ hk=>⟨hk.1.1,⟨hk.2,hk.1.2⟩⟩))).2.1 (Kd.V_F (Kd.V_mono (ok':=(fun k_=>((P0_ k_∨P1_0_ k_∨P1_1_ k_)∨w.heap.size≤k_)∧some k_≠(v57:Value).ownBlock∧k_≠gb39)) (HO1_1.out) (fun k_ hk=>⟨hk.1.1,⟨hk.2,hk.1.2⟩⟩))))) (Reps.none _ _)));intro v50 w10 ho11 hb hg_ hnew_;clear hg_ hnew_
      (first|rw [← Ny47.out] at ho11|(simp only [Int.reduceToNat] at ho11;rw [← Ny47.out] at ho11))
      have HO58:=zA (Kd.N_lower ho11 (below_size zB));replace HO0:=zA (Kd.V_elder' (zV HO0) (Kd.N_base ho11) hb);replace HO1_0:=zA (Kd.V_elder' (zV HO1_0) (Kd.N_base ho11) hb);replace HO1_1:=zA (Kd.V_elder' (zV HO1_1) (Kd.N_base ho11) hb);replace HO70:=zA (Kd.N_elder' (zN HO70) (Kd.N_base ho11) hb);replace BK39:=zA (zb BK39 hb);replace HB:=zA (below_step zB hb);clear hb ho11;refine hK.out _ _ ⟨(blk_cell BK39.out 0).trans rfl,(blk_cell BK39.out 1).trans rfl⟩ (fun hHeld=>?_);clear hK K;refine norm_ (a':=?_) ?_ ?_;rotate_left
      ·show Act.put _ (some 9) _=_
       simp only [Act.put,zi,zs,zt,i64_w,i32_w];rfl
      exact norm_ (by simp only [putAll,Act.put,zi,zs,zt]) (hCont (v54,v57,v50) _ ⟨hHeld,(by (with_reducible repeat (first|apply Kd.V_alloc|apply Kd.V_drewN|apply Kd.V_drew));exact Kd.V_mono HO0.out (fun _ hk=>⟨hk.1.1.1,⟨hk.1.2,⟨hk.2,hk.1.1.2⟩⟩⟩)),(by (with_reducible repeat (first|apply Kd.V_alloc|apply Kd.V_drewN|apply Kd.V_drew));exact Kd.V_mono HO1_0.out (fun _ hk=>⟨hk.1.1.1,⟨hk.1.2,⟨hk.2,hk.1.1.2⟩⟩⟩)),(by (with_reducible repeat (first|apply Kd.V_alloc|apply Kd.V_drewN|apply Kd.V_drew));exact Kd.V_mono HO1_1.out (fun _ hk=>⟨hk.1.1.1,⟨hk.1.2,⟨hk.2,hk.1.1.2⟩⟩⟩)),(by (with_reducible repeat (first|apply Kd.N_alloc|apply Kd.N_drewN|apply Kd.N_drew));exact Kd.N_mono HO70.out (fun _ hk=>⟨hk.1.1,⟨hk.2,hk.1.2⟩⟩)),(zN HO58),(zk BK39),zB⟩)
     ·skip;refine Kd.N_lit_step k34 _ 34 ?hg (N':=9) ?hd (xs:=([(⟨l1_0,l1_1⟩:S34)]:List (S34))) (inner:=[.slice A1_0 l1_0.length c1_0,.slice A1_1 l1_1.length c1_1]) (ok:=(fun k_=>((P0_ k_∨P1_0_ k_∨P1_1_ k_)∨w.heap.size≤k_)∧some k_≠(v54:Value).ownBlock∧k_≠gb39)) (okp:=(fun k_=>((P0_ k_∨P1_0_ k_∨P1_1_ k_)∨w.heap.size≤k_)∧some k_≠(v54:Value).ownBlock∧k_≠gb39)) ?hr ?hp (fun _ hk=>hk) ((show ∀ k_,w7.heap.size≤k_→(fun k_=>((P0_ k_∨P1_0_ k_∨P1_1_ k_)∨w.heap.size≤k_)∧some k_≠(v54:Value).ownBlock∧k_≠gb39) k_ from fun k_ hk=>⟨(.inr (Nat.le_trans (below_size zB) hk)),Kd.fresh' (Kd.N_lt (zN HO69)) k_ hk,Kd.freshB (g:=gb39) (o:=.cells #[.slice A1_0 l1_0.length c1_0,.slice A1_1 l1_1.length c1_1] 34 (0,0)) (zk BK39) k_ hk⟩) _ (Nat.le_refl _)) (Below.refl _ _) (Nat.le_refl _) (by simp) ?_;(case hd=>rfl);(case hg=>rfl);(case hr=>first|(go_simp;done)|(go_simp;rfl));(case hp=>exact (Reps.c2 (show Kd.FK k34 _ _ (⟨l1_0,l1_1⟩:S34) [.slice A1_0 l1_0.length c1_0,.slice A1_1 l1_1.length c1_1] from (k34_mkF _ _ (⟨l1_0,l1_1⟩:S34) (Kd.V_reads' (Kd.V_mono (ok':=(fun k_=>((P0_ k_∨P1_0_ k_∨P1_1_ k_)∨w.heap.size≤k_)∧some k_≠(v54:Value).ownBlock∧k_≠gb39)) (HO1_0.out) (fun k_ hk=>⟨hk.1.1,⟨hk.2,hk.1.2⟩⟩))).2.1 (Kd.V_F (Kd.V_mono (ok':=(fun k_=>((P0_ k_∨P1_0_ k_∨P1_1_ k_)∨w.heap.size≤k_)∧some k_≠(v54:Value).ownBlock∧k_≠gb39)) (HO1_0.out) (fun k_ hk=>⟨hk.1.1,⟨hk.2,hk.1.2⟩⟩))) (Kd.V_reads' (Kd.V_mono (ok':=(fun k_=>((P0_ k_∨P1_0_ k_∨P1_1_ k_)∨w.heap.size≤k_)∧some k_≠(v54:Value).ownBlock∧k_≠gb39)) (HO1_1.out) (fun k_ hk=>⟨hk.1.1,⟨hk.2,hk.1.2⟩⟩))).2.1 (Kd.V_F (Kd.V_mono (ok':=(fun k_=>((P0_ k_∨P1_0_ k_∨P1_1_ k_)∨w.heap.size≤k_)∧some k_≠(v54:Value).ownBlock∧k_≠gb39)) (HO1_1.out) (fun k_ hk=>⟨hk.1.1,⟨hk.2,hk.1.2⟩⟩))))) (Reps.none _ _)));intro v50 w9 ho10 hb hg_ hnew_;clear hg_ hnew_
      (first|rw [← Ny47.out] at ho10|(simp only [Int.reduceToNat] at ho10;rw [← Ny47.out] at ho10))
      have HO58:=zA (Kd.N_lower ho10 (below_size zB));replace HO0:=zA (Kd.V_elder' (zV HO0) (Kd.N_base ho10) hb);replace HO1_0:=zA (Kd.V_elder' (zV HO1_0) (Kd.N_base ho10) hb);replace HO1_1:=zA (Kd.V_elder' (zV HO1_1) (Kd.N_base ho10) hb);replace HO69:=zA (Kd.N_elder' (zN HO69) (Kd.N_base ho10) hb);replace BK39:=zA (zb BK39 hb);replace HB:=zA (below_step zB hb);clear hb ho10;refine hK.out _ _ ⟨(blk_cell BK39.out 0).trans rfl,(blk_cell BK39.out 1).trans rfl⟩ (fun hHeld=>?_);clear hK K;refine norm_ (a':=?_) ?_ ?_;rotate_left
      ·show Act.put _ (some 9) _=_
       simp only [Act.put,zi,zs,zt,i64_w,i32_w];rfl
      refine one_ (i:=2) (N:=some 7) #[true,true,true,true,true,false,false] rfl rfl zK (by decide) (fun K hK=>?_);refine Kd.N_append_rows_step k34 (w0:=w) w.heap.size (by rfl) (.tmp 5) (.tmp 6) 22 34 (.agg #[(.slice none 0 0),(.slice none 0 0)]) 48 rfl Try.underlying22 info34 rfl (by decide) (by omega) v54 y51 l0 _ _ _ (fun k_=>((P0_ k_∨P1_0_ k_∨P1_1_ k_)∨w.heap.size≤k_)∧some k_≠(v50:Value).ownBlock∧k_≠gb39) (fun k_=>((fun k_=>((P0_ k_∨P1_0_ k_∨P1_1_ k_)∨w.heap.size≤k_)∧some k_≠(v50:Value).ownBlock∧k_≠gb39)) k_∧some k_≠(v54:Value).ownBlock) rfl rfl ?aO ?aR (fun _ hk=>hk) ?aF ?aB ?aS ?aL ?_;(case aR=>exact (by skip;exact Kd.V_F (Kd.V_mono (ok':=(fun k_=>((fun k_=>((P0_ k_∨P1_0_ k_∨P1_1_ k_)∨w.heap.size≤k_)∧some k_≠(v50:Value).ownBlock∧k_≠gb39)) k_∧some k_≠(v54:Value).ownBlock)) (HO0.out) (fun k_ hk=>⟨⟨hk.1.1.1,⟨hk.2,hk.1.1.2⟩⟩,hk.1.2⟩))));(case aB=>exact zB);(case aF=>exact (fun k_ hk=>⟨(.inr (Nat.le_trans (below_size zB) hk)),Kd.fresh' (Kd.N_lt (zN HO58)) k_ hk,Kd.freshB (g:=gb39) (o:=.cells #[.slice A1_0 l1_0.length c1_0,.slice A1_1 l1_1.length c1_1] 34 (0,0)) (zk BK39) k_ hk⟩));(case aO=>exact (by (with_reducible repeat (first|apply Kd.N_alloc|apply Kd.N_drewN|apply Kd.N_drew));exact Kd.N_mono HO69.out (fun _ hk=>⟨hk.1.1,⟨hk.2,hk.1.2⟩⟩)));(case aS=>exact (below_size zB));(case aL=>have:=LMc3.out;omega);intro v57 w11 ho hb hg hat;rw [← Ny48.out] at ho;have HO70:=zA (ho);replace HO0:=zA (Kd.V_afterv (ok:=(fun k_=>((P0_ k_∨P1_0_ k_∨P1_1_ k_)∨w.heap.size≤k_)∧some k_≠(v50:Value).ownBlock∧k_≠gb39)) (by (with_reducible repeat (first|apply Kd.V_alloc|apply Kd.V_drewN|apply Kd.V_drew));exact Kd.V_mono HO0.out (fun _ hk=>⟨⟨hk.1.1.1,⟨hk.2,hk.1.1.2⟩⟩,hk.1.2⟩)) hg hat);replace HO1_0:=zA (Kd.V_afterv (ok:=(fun k_=>((P0_ k_∨P1_0_ k_∨P1_1_ k_)∨w.heap.size≤k_)∧some k_≠(v50:Value).ownBlock∧k_≠gb39)) (by (with_reducible repeat (first|apply Kd.V_alloc|apply Kd.V_drewN|apply Kd.V_drew));exact Kd.V_mono HO1_0.out (fun _ hk=>⟨⟨hk.1.1.1,⟨hk.2,hk.1.1.2⟩⟩,hk.1.2⟩)) hg hat);replace HO1_1:=zA (Kd.V_afterv (ok:=(fun k_=>((P0_ k_∨P1_0_ k_∨P1_1_ k_)∨w.heap.size≤k_)∧some k_≠(v50:Value).ownBlock∧k_≠gb39)) (by (with_reducible repeat (first|apply Kd.V_alloc|apply Kd.V_drewN|apply Kd.V_drew));exact Kd.V_mono HO1_1.out (fun _ hk=>⟨⟨hk.1.1.1,⟨hk.2,hk.1.1.2⟩⟩,hk.1.2⟩)) hg hat);replace BK39:=zA (blk_grown (g:=gb39) (o:=.cells #[.slice A1_0 l1_0.length c1_0,.slice A1_1 l1_1.length c1_1] 34 (0,0)) (zk BK39) hg (Kd.N_away HO69.out (fun _ hk=>hk.1.2)));replace HO58:=zA (Kd.N_afterv (ok:=(fun k_=>((P0_ k_∨P1_0_ k_∨P1_1_ k_)∨w.heap.size≤k_)∧k_≠gb39)) (by (with_reducible repeat (first|apply Kd.N_alloc|apply Kd.N_drewN|apply Kd.N_drew));exact Kd.N_mono HO58.out (fun _ hk=>⟨⟨hk.1,hk.2.2⟩,hk.2.1⟩)) hg hat);replace HB:=zA (hb);clear HO69;clear ho hb hg hat;refine hK.out _ _ ⟨(blk_cell BK39.out 0).trans rfl,(blk_cell BK39.out 1).trans rfl⟩ (fun hHeld=>?_);clear hK K;refine norm_ (a':=?_) ?_ ?_;rotate_left
      ·show Act.put _ (some 7) _=_
       simp only [Act.put,zi,zs,zt,i64_w,i32_w];rfl
      exact norm_ (by simp only [putAll,Act.put,zi,zs,zt]) (hCont (v54,v57,v50) _ ⟨hHeld,(by (with_reducible repeat (first|apply Kd.V_alloc|apply Kd.V_drewN|apply Kd.V_drew));exact Kd.V_mono HO0.out (fun _ hk=>⟨hk.1.1,⟨hk.2,⟨hk.1.2.1,hk.1.2.2⟩⟩⟩)),(by (with_reducible repeat (first|apply Kd.V_alloc|apply Kd.V_drewN|apply Kd.V_drew));exact Kd.V_mono HO1_0.out (fun _ hk=>⟨hk.1.1,⟨hk.2,⟨hk.1.2.1,hk.1.2.2⟩⟩⟩)),(by (with_reducible repeat (first|apply Kd.V_alloc|apply Kd.V_drewN|apply Kd.V_drew));exact Kd.V_mono HO1_1.out (fun _ hk=>⟨hk.1.1,⟨hk.2,⟨hk.1.2.1,hk.1.2.2⟩⟩⟩)),(zN HO70),(by (with_reducible repeat (first|apply Kd.N_alloc|apply Kd.N_drewN|apply Kd.N_drew));exact Kd.N_mono HO58.out (fun _ hk=>⟨hk.1.1,⟨hk.2,hk.1.2⟩⟩)),(zk BK39),zB⟩)
    ·skip;refine Kd.N_lit_step k34 _ 34 ?hg (N':=9) ?hd (xs:=([(⟨l1_0,l1_1⟩:S34)]:List (S34))) (inner:=[.slice A1_0 l1_0.length c1_0,.slice A1_1 l1_1.length c1_1]) (ok:=(fun k_=>((P0_ k_∨P1_0_ k_∨P1_1_ k_)∨w.heap.size≤k_)∧k_≠gb39)) (okp:=(fun k_=>((P0_ k_∨P1_0_ k_∨P1_1_ k_)∨w.heap.size≤k_)∧k_≠gb39)) ?hr ?hp (fun _ hk=>hk) ((show ∀ k_,w6.heap.size≤k_→(fun k_=>((P0_ k_∨P1_0_ k_∨P1_1_ k_)∨w.heap.size≤k_)∧k_≠gb39) k_ from fun k_ hk=>⟨(.inr (Nat.le_trans (below_size zB) hk)),Kd.freshB (g:=gb39) (o:=.cells #[.slice A1_0 l1_0.length c1_0,.slice A1_1 l1_1.length c1_1] 34 (0,0)) (zk BK39) k_ hk⟩) _ (Nat.le_refl _)) (Below.refl _ _) (Nat.le_refl _) (by simp) ?_;(case hd=>rfl);(case hg=>rfl);(case hr=>first|(go_simp;done)|(go_simp;rfl));(case hp=>exact (Reps.c2 (show Kd.FK k34 _ _ (⟨l1_0,l1_1⟩:S34) [.slice A1_0 l1_0.length c1_0,.slice A1_1 l1_1.length c1_1] from (k34_mkF _ _ (⟨l1_0,l1_1⟩:S34) (Kd.V_reads' (Kd.V_mono (ok':=(fun k_=>((P0_ k_∨P1_0_ k_∨P1_1_ k_)∨w.heap.size≤k_)∧k_≠gb39)) (HO1_0.out) (fun k_ hk=>⟨hk.1,hk.2⟩))).2.1 (Kd.V_F (Kd.V_mono (ok':=(fun k_=>((P0_ k_∨P1_0_ k_∨P1_1_ k_)∨w.heap.size≤k_)∧k_≠gb39)) (HO1_0.out) (fun k_ hk=>⟨hk.1,hk.2⟩))) (Kd.V_reads' (Kd.V_mono (ok':=(fun k_=>((P0_ k_∨P1_0_ k_∨P1_1_ k_)∨w.heap.size≤k_)∧k_≠gb39)) (HO1_1.out) (fun k_ hk=>⟨hk.1,hk.2⟩))).2.1 (Kd.V_F (Kd.V_mono (ok':=(fun k_=>((P0_ k_∨P1_0_ k_∨P1_1_ k_)∨w.heap.size≤k_)∧k_≠gb39)) (HO1_1.out) (fun k_ hk=>⟨hk.1,hk.2⟩))))) (Reps.none _ _)));intro v50 w7 ho8 hb hg_ hnew_;clear hg_ hnew_
     (first|rw [← Ny47.out] at ho8|(simp only [Int.reduceToNat] at ho8;rw [← Ny47.out] at ho8))
     have HO58:=zA (Kd.N_lower ho8 (below_size zB));replace HO0:=zA (Kd.V_elder' (zV HO0) (Kd.N_base ho8) hb);replace HO1_0:=zA (Kd.V_elder' (zV HO1_0) (Kd.N_base ho8) hb);replace HO1_1:=zA (Kd.V_elder' (zV HO1_1) (Kd.N_base ho8) hb);replace BK39:=zA (zb BK39 hb);replace HB:=zA (below_step zB hb);clear hb ho8;refine hK.out _ _ ⟨(blk_cell BK39.out 0).trans rfl,(blk_cell BK39.out 1).trans rfl⟩ (fun hHeld=>?_);clear hK K;refine norm_ (a':=?_) ?_ ?_;rotate_left
     ·show Act.put _ (some 9) _=_
      simp only [Act.put,zi,zs,zt,i64_w,i32_w];rfl
     refine one_ (i:=0) (N:=some 5) #[true,true,false,true,true,false,false] rfl rfl zK (by decide) (fun K hK=>?_);refine Kd.N_lit_step k34 _ 34 ?hg (N':=5) ?hd (xs:=([]:List (S34))) (inner:=[]) (ok:=(fun k_=>((P0_ k_∨P1_0_ k_∨P1_1_ k_)∨w.heap.size≤k_)∧some k_≠(v50:Value).ownBlock∧k_≠gb39)) (okp:=(fun k_=>((P0_ k_∨P1_0_ k_∨P1_1_ k_)∨w.heap.size≤k_)∧some k_≠(v50:Value).ownBlock∧k_≠gb39)) ?hr ?hp (fun _ hk=>hk) ((show ∀ k_,w7.heap.size≤k_→(fun k_=>((P0_ k_∨P1_0_ k_∨P1_1_ k_)∨w.heap.size≤k_)∧some k_≠(v50:Value).ownBlock∧k_≠gb39) k_ from fun k_ hk=>⟨(.inr (Nat.le_trans (below_size zB) hk)),Kd.fresh' (Kd.N_lt (zN HO58)) k_ hk,Kd.freshB (g:=gb39) (o:=.cells #[.slice A1_0 l1_0.length c1_0,.slice A1_1 l1_1.length c1_1] 34 (0,0)) (zk BK39) k_ hk⟩) _ (Nat.le_refl _)) (Below.refl _ _) (Nat.le_refl _) (by simp) ?_;(case hd=>rfl);(case hg=>rfl);(case hr=>first|(go_simp;done)|(go_simp;rfl));(case hp=>exact (Reps.none _ _));intro v54 w9 ho10 hb hg_ hnew_;clear hg_ hnew_
     (first|rw [← Ny51.out] at ho10|(simp only [Int.reduceToNat] at ho10;rw [← Ny51.out] at ho10))
     have HO69:=zA (Kd.N_lower ho10 (below_size zB));replace HO0:=zA (Kd.V_elder' (zV HO0) (Kd.N_base ho10) hb);replace HO1_0:=zA (Kd.V_elder' (zV HO1_0) (Kd.N_base ho10) hb);replace HO1_1:=zA (Kd.V_elder' (zV HO1_1) (Kd.N_base ho10) hb);replace HO58:=zA (Kd.N_elder' (zN HO58) (Kd.N_base ho10) hb);replace BK39:=zA (zb BK39 hb);replace HB:=zA (below_step zB hb);clear hb ho10;refine hK.out _ _ ⟨(blk_cell BK39.out 0).trans rfl,(blk_cell BK39.out 1).trans rfl⟩ (fun hHeld=>?_);clear hK K;refine norm_ (a':=?_) ?_ ?_;rotate_left
     ·show Act.put _ (some 5) _=_
      simp only [Act.put,zi,zs,zt,i64_w,i32_w];rfl
     refine one_ (i:=2) (N:=some 7) #[true,true,true,true,true,false,false] rfl rfl zK (by decide) (fun K hK=>?_);refine Kd.N_append_rows_step k34 (w0:=w) w.heap.size (by rfl) (.tmp 5) (.tmp 6) 22 34 (.agg #[(.slice none 0 0),(.slice none 0 0)]) 48 rfl Try.underlying22 info34 rfl (by decide) (by omega) v54 y51 l0 _ _ _ (fun k_=>((P0_ k_∨P1_0_ k_∨P1_1_ k_)∨w.heap.size≤k_)∧some k_≠(v50:Value).ownBlock∧k_≠gb39) (fun k_=>((fun k_=>((P0_ k_∨P1_0_ k_∨P1_1_ k_)∨w.heap.size≤k_)∧some k_≠(v50:Value).ownBlock∧k_≠gb39)) k_∧some k_≠(v54:Value).ownBlock) rfl rfl ?aO ?aR (fun _ hk=>hk) ?aF ?aB ?aS ?aL ?_;(case aR=>exact (by skip;exact Kd.V_F (Kd.V_mono (ok':=(fun k_=>((fun k_=>((P0_ k_∨P1_0_ k_∨P1_1_ k_)∨w.heap.size≤k_)∧some k_≠(v50:Value).ownBlock∧k_≠gb39)) k_∧some k_≠(v54:Value).ownBlock)) (HO0.out) (fun k_ hk=>⟨⟨hk.1.1.1,⟨hk.1.2,hk.1.1.2⟩⟩,hk.2⟩))));(case aB=>exact zB);(case aF=>exact (fun k_ hk=>⟨(.inr (Nat.le_trans (below_size zB) hk)),Kd.fresh' (Kd.N_lt (zN HO58)) k_ hk,Kd.freshB (g:=gb39) (o:=.cells #[.slice A1_0 l1_0.length c1_0,.slice A1_1 l1_1.length c1_1] 34 (0,0)) (zk BK39) k_ hk⟩));(case aO=>exact (zN HO69));(case aS=>exact (below_size zB));(case aL=>have:=LMc3.out;omega);intro v57 w11 ho hb hg hat;rw [← Ny48.out] at ho;have HO70:=zA (ho);replace HO0:=zA (Kd.V_afterv (ok:=(fun k_=>((P0_ k_∨P1_0_ k_∨P1_1_ k_)∨w.heap.size≤k_)∧some k_≠(v50:Value).ownBlock∧k_≠gb39)) (by (with_reducible repeat (first|apply Kd.V_alloc|apply Kd.V_drewN|apply Kd.V_drew));exact Kd.V_mono HO0.out (fun _ hk=>⟨⟨hk.1.1.1,⟨hk.1.2,hk.1.1.2⟩⟩,hk.2⟩)) hg hat);replace HO1_0:=zA (Kd.V_afterv (ok:=(fun k_=>((P0_ k_∨P1_0_ k_∨P1_1_ k_)∨w.heap.size≤k_)∧some k_≠(v50:Value).ownBlock∧k_≠gb39)) (by (with_reducible repeat (first|apply Kd.V_alloc|apply Kd.V_drewN|apply Kd.V_drew));exact Kd.V_mono HO1_0.out (fun _ hk=>⟨⟨hk.1.1.1,⟨hk.1.2,hk.1.1.2⟩⟩,hk.2⟩)) hg hat);replace HO1_1:=zA (Kd.V_afterv (ok:=(fun k_=>((P0_ k_∨P1_0_ k_∨P1_1_ k_)∨w.heap.size≤k_)∧some k_≠(v50:Value).ownBlock∧k_≠gb39)) (by (with_reducible repeat (first|apply Kd.V_alloc|apply Kd.V_drewN|apply Kd.V_drew));exact Kd.V_mono HO1_1.out (fun _ hk=>⟨⟨hk.1.1.1,⟨hk.1.2,hk.1.1.2⟩⟩,hk.2⟩)) hg hat);replace BK39:=zA (blk_grown (g:=gb39) (o:=.cells #[.slice A1_0 l1_0.length c1_0,.slice A1_1 l1_1.length c1_1] 34 (0,0)) (zk BK39) hg (Kd.N_away HO69.out (fun _ hk=>hk.2.2)));replace HO58:=zA (Kd.N_afterv (ok:=(fun k_=>((P0_ k_∨P1_0_ k_∨P1_1_ k_)∨w.heap.size≤k_)∧k_≠gb39)) (zN HO58) hg hat);replace HB:=zA (hb);clear HO69;clear ho hb hg hat;refine hK.out _ _ ⟨(blk_cell BK39.out 0).trans rfl,(blk_cell BK39.out 1).trans rfl⟩ (fun hHeld=>?_);clear hK K;refine norm_ (a':=?_) ?_ ?_;rotate_left
     ·show Act.put _ (some 7) _=_
      simp only [Act.put,zi,zs,zt,i64_w,i32_w];rfl
     exact norm_ (by simp only [putAll,Act.put,zi,zs,zt]) (hCont (v54,v57,v50) _ ⟨hHeld,(by (with_reducible repeat (first|apply Kd.V_alloc|apply Kd.V_drewN|apply Kd.V_drew));exact Kd.V_mono HO0.out (fun _ hk=>⟨hk.1.1,⟨hk.2,⟨hk.1.2.1,hk.1.2.2⟩⟩⟩)),(by (with_reducible repeat (first|apply Kd.V_alloc|apply Kd.V_drewN|apply Kd.V_drew));exact Kd.V_mono HO1_0.out (fun _ hk=>⟨hk.1.1,⟨hk.2,⟨hk.1.2.1,hk.1.2.2⟩⟩⟩)),(by (with_reducible repeat (first|apply Kd.V_alloc|apply Kd.V_drewN|apply Kd.V_drew));exact Kd.V_mono HO1_1.out (fun _ hk=>⟨hk.1.1,⟨hk.2,⟨hk.1.2.1,hk.1.2.2⟩⟩⟩)),(zN HO70),(by (with_reducible repeat (first|apply Kd.N_alloc|apply Kd.N_drewN|apply Kd.N_drew));exact Kd.N_mono HO58.out (fun _ hk=>⟨hk.1.1,⟨hk.2,hk.1.2⟩⟩)),(zk BK39),zB⟩)
   rintro ⟨v54,v57,v50⟩ w12 ⟨hS_,h0_,h1_,h2_,h3_,h4_,h5_,h6_⟩
   have HO70:Aside0 (Kd.N k34 34 w12 w.heap.size (fun k_=>((P0_ k_∨P1_0_ k_∨P1_1_ k_)∨w.heap.size≤k_)∧some k_≠(v50:Value).ownBlock∧k_≠gb39) v57 y48):=⟨h3_⟩
   have HO58:Aside0 (Kd.N k34 34 w12 w.heap.size (fun k_=>((P0_ k_∨P1_0_ k_∨P1_1_ k_)∨w.heap.size≤k_)∧some k_≠(v57:Value).ownBlock∧k_≠gb39) v50 y47):=⟨h4_⟩
   replace HO0:Aside0 (Kd.V k34 34 w12 w.heap.size (fun k_=>((P0_ k_∨P1_0_ k_∨P1_1_ k_)∨w.heap.size≤k_)∧some k_≠(v57:Value).ownBlock∧some k_≠(v50:Value).ownBlock∧k_≠gb39) (.slice A0 l0.length c0) l0):=⟨h0_⟩
   replace HO1_0:Aside0 (Kd.V (Kd.int .i64) 3 w12 w.heap.size (fun k_=>((P0_ k_∨P1_0_ k_∨P1_1_ k_)∨w.heap.size≤k_)∧some k_≠(v57:Value).ownBlock∧some k_≠(v50:Value).ownBlock∧k_≠gb39) (.slice A1_0 l1_0.length c1_0) l1_0):=⟨h1_⟩
   replace HO1_1:Aside0 (Kd.V (Kd.int .i64) 3 w12 w.heap.size (fun k_=>((P0_ k_∨P1_0_ k_∨P1_1_ k_)∨w.heap.size≤k_)∧some k_≠(v57:Value).ownBlock∧some k_≠(v50:Value).ownBlock∧k_≠gb39) (.slice A1_1 l1_1.length c1_1) l1_1):=⟨h2_⟩
   replace BK39:Aside0 (w12.heap[gb39]?=some (.cells #[.slice A1_0 l1_0.length c1_0,.slice A1_1 l1_1.length c1_1] 34 (0,0))):=⟨h5_⟩
   replace HB:Aside0 (Below w.heap.size w w12):=⟨h6_⟩
   clear h0_ h1_ h2_ h3_ h4_ h5_ h6_;have hHeld:w12.cell? ⟨gb39,0,none⟩=some (.slice A1_0 l1_0.length c1_0)∧w12.cell? ⟨gb39,1,none⟩=some (.slice A1_1 l1_1.length c1_1):=hS_;obtain ⟨Ao14,co14,eo14⟩:=Kd.N_slice HO58.out
   (first|subst eo14|(injection eo14 with f1_ f2_ f3_;have f4_:=f1_.symm;have f5_:=f3_.symm;clear f1_ f2_ f3_;subst f4_;subst f5_))
   refine norm_ (a':=?_) ?_ ?_;rotate_left
   ·simp only [putAll,Act.put,zi,zs,zt];rfl
   refine one_ (i:=5) (N:=some 10) #[true,true,true,true,true,true,false] rfl rfl zK (by decide) (fun K hK=>?_);refine Kd.N_append_rows_step k34 (w0:=w) w.heap.size (by rfl) (.tmp 7) (.tmp 9) 22 34 (.agg #[(.slice none 0 0),(.slice none 0 0)]) 48 rfl Try.underlying22 info34 rfl (by decide) (by omega) v57 y48 y47 _ _ _ (fun k_=>((P0_ k_∨P1_0_ k_∨P1_1_ k_)∨w.heap.size≤k_)∧k_≠gb39) (fun k_=>((fun k_=>((P0_ k_∨P1_0_ k_∨P1_1_ k_)∨w.heap.size≤k_)∧k_≠gb39)) k_∧some k_≠(v57:Value).ownBlock) rfl rfl ?aO ?aR (fun _ hk=>hk) ?aF ?aB ?aS ?aL ?_;(case aR=>exact (by skip;exact Kd.N_F (Kd.N_mono (ok':=(fun k_=>((fun k_=>((P0_ k_∨P1_0_ k_∨P1_1_ k_)∨w.heap.size≤k_)∧k_≠gb39)) k_∧some k_≠(v57:Value).ownBlock)) (HO58.out) (fun k_ hk=>⟨⟨hk.1,hk.2.2⟩,hk.2.1⟩))));(case aB=>exact zB);(case aF=>exact (fun k_ hk=>⟨(.inr (Nat.le_trans (below_size zB) hk)),Kd.freshB (g:=gb39) (o:=.cells #[.slice A1_0 l1_0.length c1_0,.slice A1_1 l1_1.length c1_1] 34 (0,0)) (zk BK39) k_ hk⟩));(case aO=>exact (by (with_reducible repeat (first|apply Kd.N_alloc|apply Kd.N_drewN|apply Kd.N_drew));exact Kd.N_mono HO70.out (fun _ hk=>⟨hk.1,hk.2.2⟩)));(case aS=>exact (below_size zB));(case aL=>have:=LMc4.out;omega);intro v99 w13 ho hb hg hat;rw [← Ny73.out] at ho;have HO95:=zA (ho);replace HO0:=zA (Kd.V_afterv (ok:=(fun k_=>((P0_ k_∨P1_0_ k_∨P1_1_ k_)∨w.heap.size≤k_)∧some k_≠(.slice Ao14 y47.length co14:Value).ownBlock∧k_≠gb39)) (by (with_reducible repeat (first|apply Kd.V_alloc|apply Kd.V_drewN|apply Kd.V_drew));exact Kd.V_mono HO0.out (fun _ hk=>⟨⟨hk.1,⟨hk.2.2.1,hk.2.2.2⟩⟩,hk.2.1⟩)) hg hat);replace HO1_0:=zA (Kd.V_afterv (ok:=(fun k_=>((P0_ k_∨P1_0_ k_∨P1_1_ k_)∨w.heap.size≤k_)∧some k_≠(.slice Ao14 y47.length co14:Value).ownBlock∧k_≠gb39)) (by (with_reducible repeat (first|apply Kd.V_alloc|apply Kd.V_drewN|apply Kd.V_drew));exact Kd.V_mono HO1_0.out (fun _ hk=>⟨⟨hk.1,⟨hk.2.2.1,hk.2.2.2⟩⟩,hk.2.1⟩)) hg hat);replace HO1_1:=zA (Kd.V_afterv (ok:=(fun k_=>((P0_ k_∨P1_0_ k_∨P1_1_ k_)∨w.heap.size≤k_)∧some k_≠(.slice Ao14 y47.length co14:Value).ownBlock∧k_≠gb39)) (by (with_reducible repeat (first|apply Kd.V_alloc|apply Kd.V_drewN|apply Kd.V_drew));exact Kd.V_mono HO1_1.out (fun _ hk=>⟨⟨hk.1,⟨hk.2.2.1,hk.2.2.2⟩⟩,hk.2.1⟩)) hg hat);replace BK39:=zA (blk_grown (g:=gb39) (o:=.cells #[.slice A1_0 l1_0.length c1_0,.slice A1_1 l1_1.length c1_1] 34 (0,0)) (zk BK39) hg (Kd.N_away HO70.out (fun _ hk=>hk.2.2)));replace HO58:=zA (Kd.N_afterv (ok:=(fun k_=>((P0_ k_∨P1_0_ k_∨P1_1_ k_)∨w.heap.size≤k_)∧k_≠gb39)) (by (with_reducible repeat (first|apply Kd.N_alloc|apply Kd.N_drewN|apply Kd.N_drew));exact Kd.N_mono HO58.out (fun _ hk=>⟨⟨hk.1,hk.2.2⟩,hk.2.1⟩)) hg hat);replace HB:=zA (hb);clear HO70;clear ho hb hg hat;refine hK.out _ _ ⟨(blk_cell BK39.out 0).trans rfl,(blk_cell BK39.out 1).trans rfl⟩ (fun hHeld=>?_);clear hK K;refine norm_ (a':=?_) ?_ ?_;rotate_left
   ·show Act.put _ (some 10) _=_
    simp only [Act.put,zi,zs,zt,i64_w,i32_w];rfl
   refine pure_ (i:=6) (N:=some 4) (v:=?_) (a':=?_) #[true,true,true,true,true,true,true] rfl rfl zK (fun _ _ _ h=>h) (Or.inl ⟨by rfl,?_⟩) ?_ ?_;rotate_left
   ·intro w'
    go_simp
    with_reducible rfl
   rotate_left
   ·simp only [Act.put,zi,zs,zt,i64_w,i32_w];rfl
   refine done_ zK ?_
   try go_wp2
   go_ret
   exact ⟨_,ze,by (with_reducible repeat (first|apply Kd.N_alloc|apply Kd.N_drewN|apply Kd.N_drew));exact Kd.N_mono HO95.out (fun _ hk=>hk.1),zv1 HB GE39⟩
  ·rw [if_neg c4] at H;exact absurd H (by simp)
 ·rw [if_neg c3] at H;exact absurd H (by simp)
def ancepsref41_Implied.l0:Nat→List (S34)→Int→List Int→List Int→List Int→List Int→Option (Bool×Int)
 | 0,_,_,_,_,_,_=>none
 | k+1,x0,x9,x77,x78,x79,x42=>if x9<(shl .i64 1 (x77.length:Int)) then ((ancepsref41_has.f k x78 x9).bind fun t81=>(if t81=true then (ancepsref41_Implied.l0 k x0 (wrap64 (x9+1)) x77 x78 x79 x42) else (if x42.length<17592186044416 then (ancepsref41_Implied.l0 k x0 (wrap64 (x9+1)) x77 x78 x79 (x42++[x9])) else (none)))) else ((ancepsref41_added.f x0 x79 x42).bind fun t74=>((ancepsref41_solvable.f k t74).bind fun t75=>(some (!t75,0))))
def ancepsref41_Implied.f (k:Nat) (l0:List (S34)) (l1_0:List Int) (l1_1:List Int):Option (Bool×Int):=(ancepsref41_given.f k l0).bind fun t68=>(if t68=0 then ((ancepsref38_Valid.f k l1_0 l1_1).bind fun t61=>(if t61=0 then (ancepsref41_Implied.l0 k l0 0 l1_0 l1_1 l1_0 ([]:List Int)) else (some (false,t61)))) else (some (false,t68)))
theorem ancepsref41_Implied.mono_l:∀ k,(∀ y0 y1 y2 y3 y4 y5,LeO (ancepsref41_Implied.l0 k y0 y1 y2 y3 y4 y5) (ancepsref41_Implied.l0 (k+1) y0 y1 y2 y3 y4 y5))
 | 0=>fun _ _ _ _ _ _ r h=>by simp [ancepsref41_Implied.l0] at h
 | k+1=>by
  have ih0:=ancepsref41_Implied.mono_l k
  ·intro y0 y1 y2 y3 y4 y5
   unfold ancepsref41_Implied.l0
   repeat' first
   | (with_reducible exact ih0 _ _ _ _ _ _)
   | (with_reducible exact ancepsref38_Valid.mono _ _ _)
   | (with_reducible exact ancepsref41_given.mono _ _)
   | (with_reducible exact ancepsref41_has.mono _ _ _)
   | (with_reducible exact ancepsref41_solvable.mono _ _)
   | (with_reducible exact LeO.refl _)
   | (with_reducible exact LeO.none _)
   | (with_reducible refine LeO.ite ?_ ?_)
   | (with_reducible refine LeO.bind ?_ (fun _=>?_))
   | exact LeO.none _
   | refine LeO.ite ?_ ?_
   | refine LeO.bind ?_ (fun _=>?_)
theorem ancepsref41_Implied.mono:∀ a0 a1 a2 k,LeO (ancepsref41_Implied.f k a0 a1 a2) (ancepsref41_Implied.f (k+1) a0 a1 a2):=by
 intro a0 a1 a2 k;have ih0:=ancepsref41_Implied.mono_l k
 unfold ancepsref41_Implied.f
 repeat' first
   | (with_reducible exact ih0 _ _ _ _ _ _)
   | (with_reducible exact ancepsref38_Valid.mono _ _ _)
   | (with_reducible exact ancepsref41_given.mono _ _)
   | (with_reducible exact ancepsref41_has.mono _ _ _)
   | (with_reducible exact ancepsref41_solvable.mono _ _)
   | (with_reducible exact LeO.refl _)
   | (with_reducible exact LeO.none _)
   | (with_reducible refine LeO.ite ?_ ?_)
   | (with_reducible refine LeO.bind ?_ (fun _=>?_))
   | exact LeO.none _
   | refine LeO.ite ?_ ?_
   | refine LeO.bind ?_ (fun _=>?_)
set_option maxHeartbeats 8000000 in
set_option maxRecDepth 100000 in
theorem ancepsref41_Implied.calls (k:Nat) (A0:Option Addr) (c0:Nat) (l0:List (S34)) (A1_0:Option Addr) (c1_0:Nat) (l1_0:List Int) (A1_1:Option Addr) (c1_1:Nat) (l1_1:List Int) (r1:Bool) (r2:Int) (w:World) (hr0:Kd.C k34 w A0 l0.length l0) (hc0:l0.length≤c0) (hr1_0:Kd.C (Kd.int .i64) w A1_0 l1_0.length l1_0) (hc1_0:l1_0.length≤c1_0) (hr1_1:Kd.C (Kd.int .i64) w A1_1 l1_1.length l1_1) (hc1_1:l1_1.length≤c1_1) (h:ancepsref41_Implied.f k l0 l1_0 l1_1=some (r1,r2)) :
  Calls Try.prog 14 #[.slice A0 l0.length c0,.agg #[.slice A1_0 l1_0.length c1_0,.slice A1_1 l1_1.length c1_1]] w fun e w'=>e=.returned (.tuple #[.bool r1,.int .i64 r2])∧Below w.heap.size w w':=by
 have hu34:=Try.underlying34;have hu29:=Try.underlying29;have HR0:=zA hr0;have HC0:=zA hc0;clear hr0 hc0;have HR1_0:=zA hr1_0;have HC1_0:=zA hc1_0;clear hr1_0 hc1_0;have HR1_1:=zA hr1_1;have HC1_1:=zA hc1_1;clear hr1_1 hc1_1;have HB:=zA (Below.refl w.heap.size w);have H:((ancepsref41_given.f k l0).bind fun t68=>(if t68=0 then ((ancepsref38_Valid.f k l1_0 l1_1).bind fun t61=>(if t61=0 then (ancepsref41_Implied.l0 k l0 0 l1_0 l1_1 l1_0 ([]:List Int)) else (some (false,t61)))) else (some (false,t68))))=some (r1,r2):=h;clear h;replace H:=Option.bind_eq_some_iff.mp H;obtain ⟨t68,A30,H⟩:=H;replace H:(if t68=0 then ((ancepsref38_Valid.f k l1_0 l1_1).bind fun t61=>(if t61=0 then (ancepsref41_Implied.l0 k l0 0 l1_0 l1_1 l1_0 ([]:List Int)) else (some (false,t61)))) else (some (false,t68)))=some (r1,r2):=H;have A3:=zA A30;clear A30;have HC4:=zA H;clear H
 go_enter Try.func14,Try.ntmps14
 go_upto_if 13 with (first|((with_reducible refine gate_dst (N:=3) rfl ?_);refine box_event ?hg (N:=3) ?hd (cs:=#[.slice A1_0 l1_0.length c1_0,.slice A1_1 l1_1.length c1_1]) (t:=34) ?hr ?_;(case hd=>rfl);(case hg=>rfl);(case hr=>first|(go_simp;done)|(go_simp;rfl));intro gb43 hg w5 hbox hb;have BK43:=zA (hbox);have GW43:=zA (zG hg (below_size zB):w.heap.size≤gb43);have GE43:=GW43;replace HB:=zA (below_step zB hb);clear hb hbox hg)|((with_reducible refine gate_callee (f:=32) rfl ?_);refine goesL_ (some 11) rfl rfl Try.func32 zK rfl #[.slice A0 l0.length c0] rfl zM ?_;(with_reducible refine (ancepsref41_given.calls k _ _ l0 t68 _ ?side1 ?side2 A3.out).mono ?_);(case side1=>exact zC (Kd.C_below HR0.out HB.out));(case side2=>exact HC0.out);rintro e w6 ⟨rfl,hb⟩;refine ⟨_,rfl,?_⟩;replace BK43:=zA (zb BK43 hb);replace HB:=zA (below_step zB hb);(try clear hb);(try clear hb2);(try clear hk);(try clear hi)))
 (try simp only [Act.put,zi,zs,zt]);have H:=HC4.out;clear HC4
 by_cases c7:t68=0
 ·rw [if_pos c7] at H;have c7b0:(t68 == 0)=true:=beq_iff_eq.mpr c7;have c7b1:(t68 != 0)=false:=bne_eq_false_iff_eq.mpr c7;clear c7
  (first|rw [c7b0]|(simp only [i64_w,i32_w];rw [c7b0])|skip)
  (try rw [c7b1]);replace H:=Option.bind_eq_some_iff.mp H;obtain ⟨t61,A80,H⟩:=H;replace H:(if t61=0 then (ancepsref41_Implied.l0 k l0 0 l1_0 l1_1 l1_0 ([]:List Int)) else (some (false,t61)))=some (r1,r2):=H;have A8:=zA A80;clear A80;have HC9:=zA H;clear H;have hcz10_0:w6.cell? ⟨gb43,0,none⟩=some (.slice A1_0 l1_0.length c1_0):=(blk_cell BK43.out 0).trans rfl;have hcz10_1:w6.cell? ⟨gb43,1,none⟩=some (.slice A1_1 l1_1.length c1_1):=(blk_cell BK43.out 1).trans rfl;have hfz10_0:=blk_frozen BK43.out 0;have hfz10_1:=blk_frozen BK43.out 1
  go_upto_if 18 with (first|((with_reducible refine gate_callee (f:=40) rfl ?_);refine goesL_ (some 16) rfl rfl Try.func40 zK rfl #[.agg #[.slice A1_0 l1_0.length c1_0,.slice A1_1 l1_1.length c1_1]] rfl zM ?_;(with_reducible refine (ancepsref38_Valid.calls k _ _ l1_0 _ _ l1_1 t61 _ ?side1 ?side2 ?side3 ?side4 A8.out).mono ?_);(case side1=>exact zC (Kd.C_below HR1_0.out HB.out));(case side2=>exact HC1_0.out);(case side3=>exact zC (Kd.C_below HR1_1.out HB.out));(case side4=>exact HC1_1.out);rintro e w11 ⟨rfl,hb⟩;refine ⟨_,rfl,?_⟩;replace BK43:=zA (zb BK43 hb);replace HB:=zA (below_step zB hb);(try clear hb);(try clear hb2);(try clear hk);(try clear hi)))
  (try simp only [Act.put,zi,zs,zt]);have H:=HC9.out;clear HC9
  by_cases c12:t61=0
  ·rw [if_pos c12] at H;have c12b0:(t61 == 0)=true:=beq_iff_eq.mpr c12;have c12b1:(t61 != 0)=false:=bne_eq_false_iff_eq.mpr c12;clear c12
   (first|rw [c12b0]|(simp only [i64_w,i32_w];rw [c12b0])|skip)
   (try rw [c12b1]);have H':=zA H;clear H;have hcz13_0:w11.cell? ⟨gb43,0,none⟩=some (.slice A1_0 l1_0.length c1_0):=(blk_cell BK43.out 0).trans rfl;have hcz13_1:w11.cell? ⟨gb43,1,none⟩=some (.slice A1_1 l1_1.length c1_1):=(blk_cell BK43.out 1).trans rfl;have hfz13_0:=blk_frozen BK43.out 0;have hfz13_1:=blk_frozen BK43.out 1
   go_wp2_with (first|((with_reducible refine gate_dst (N:=8) rfl ?_);refine box_event ?hg (N:=8) ?hd (cs:=#[.slice none 0 0,.slice none 0 0]) (t:=34) ?hr ?_;(case hd=>rfl);(case hg=>rfl);(case hr=>first|(go_simp;done)|(go_simp;rfl));intro gb44 hg w14 hbox hb;have BK44:=zA (hbox);have GW44:=zA (zG hg (below_size zB):w.heap.size≤gb44);have GE44:=GW44;have NB43_44:=zA ((zl hg (zk BK43):gb43≠gb44));have NB44_43:=zA ((zg hg (zk BK43):gb44≠gb43));replace BK43:=zA (zb BK43 hb);replace HB:=zA (below_step zB hb);clear hb hbox hg;have hnb15:=NB44_43.out;have hnc15:=NB43_44.out;have hcz16_0:w14.cell? ⟨gb44,0,none⟩=some (.slice none 0 0):=(blk_cell BK44.out 0).trans rfl;have hcz16_1:w14.cell? ⟨gb44,1,none⟩=some (.slice none 0 0):=(blk_cell BK44.out 1).trans rfl;have hfz16_0:=blk_frozen BK44.out 0;have hfz16_1:=blk_frozen BK44.out 1))
   go_loopg [9] k (fun kq v9 w'=>∃ (x9_1:Int) (x42_1:List Int) (u42:Value),v9=.int .i64 x9_1∧Aside0 (ancepsref41_Implied.l0 kq l0 x9_1 l1_0 l1_1 l1_0 x42_1=some (r1,r2))∧Aside0 (kq≤k)∧Aside0 (Kd.R (Kd.int .i64) 3 w' w.heap.size (fun _=>True) u42 x42_1)∧Aside0 (w'.heap[gb43]?=some (.cells #[(.slice A1_0 l1_0.length c1_0),(.slice A1_1 l1_1.length c1_1)] 34 (0,0)))∧Aside0 (w'.heap[gb44]?=some (.cells #[(.slice A1_0 l1_0.length c1_0),u42] 34 (0,0)))∧Aside0 (Below w.heap.size w w'))
   case atStart=>exact ⟨(0),(([]:List Int)),(.slice none 0 0),zT,H',⟨Nat.le_refl _⟩,⟨by first|exact Kd.R_nil _ _ _ _ _|exact Kd.N_nil _ _ _ _ _|exact Kd.V_nil _ _ _ _ _|exact Kd.Q_nil _ _ _ _ _|exact Kd.S_nil _ _ _ _ _⟩,⟨by refine zj ?_;refine blk_far ?_ NB43_44.out _;refine zj ?_;refine blk_far ?_ NB43_44.out _;refine zj ?_;exact BK43.out⟩,⟨by refine zj ?_;refine blk_put (cs:=#[.slice A1_0 l1_0.length c1_0,.slice none 0 0]) ?_ 1 _ rfl;refine zj ?_;refine blk_put (cs:=#[.slice none 0 0,.slice none 0 0]) ?_ 0 _ rfl;refine zj ?_;exact BK44.out⟩,⟨zv2 HB GE43 GE44⟩⟩
   case round=>
    clear H'
    try clear c7
    try clear c7b0
    try clear c7b1
    try clear c12
    try clear c12b0
    try clear c12b1
    try clear hcz10_0
    try clear hcz10_1
    try clear hcz13_0
    try clear hcz13_1
    try clear hcz16_0
    try clear hcz16_1
    try clear hfz10_0
    try clear hfz10_1
    try clear hfz13_0
    try clear hfz13_1
    try clear hfz16_0
    try clear hfz16_1
    obtain ⟨x9_1,x42_1,u42,rfl,HA,HK1,HO_42,BK43,BK44,HB⟩:=hrel
    cases gk with
    | zero=>exact absurd HA.out (by simp [ancepsref41_Implied.l0])
    | succ k1=>
     have H:=HA.out;clear HA;simp only [ancepsref41_Implied.l0] at H
     obtain ⟨ji17,hji17⟩:∃ j_:Int,(shl .i64 1 (l1_0.length:Int))=j_:=⟨_,rfl⟩
     replace H:(if x9_1<(ji17) then ((ancepsref41_has.f k1 l1_1 x9_1).bind fun t81=>(if t81=true then (ancepsref41_Implied.l0 k1 l0 (wrap64 (x9_1+1)) l1_0 l1_1 l1_0 x42_1) else (if x42_1.length<17592186044416 then (ancepsref41_Implied.l0 k1 l0 (wrap64 (x9_1+1)) l1_0 l1_1 l1_0 (x42_1++[x9_1])) else (none)))) else ((ancepsref41_added.f l0 l1_0 x42_1).bind fun t74=>((ancepsref41_solvable.f k1 t74).bind fun t75=>(some (!t75,0)))))=some (r1,r2):=by first|(rw [hji17] at H;exact H)|(simp only [hji17] at H ⊢;exact H)
     have hji17_:(IntKind.i64.wrap (1 * 2 ^ min (l1_0.length:Int).toNat 64))=ji17:=hji17;have hji17z:(l1_0.length:Int)≤64→(IntKind.i64.wrap (1 * 2 ^ (l1_0.length:Int).toNat))=ji17:=shl_small hji17;have hji17p:(IntKind.i64.wrap (1 * 2 ^ min l1_0.length 64))=ji17:=hji17_;have hji17q:(l1_0.length:Int)≤64→(IntKind.i64.wrap (1 * 2 ^ l1_0.length))=ji17:=hji17z
     have hji17r:(IntKind.i64.wrap (2 ^ min l1_0.length 64))=ji17:=by have h_:=hji17p;rw [Int.one_mul] at h_;exact h_
     have hji17s:(l1_0.length:Int)≤64→(IntKind.i64.wrap (2 ^ l1_0.length))=ji17:=fun hle_=>by have h_:=hji17q hle_;rw [Int.one_mul] at h_;exact h_
     have hji17u:(IntKind.i64.wrap (2 ^ min (l1_0.length:Int).toNat 64))=ji17:=by have h_:=hji17_;rw [Int.one_mul] at h_;exact h_
     have hji17v:(l1_0.length:Int)≤64→(IntKind.i64.wrap (2 ^ (l1_0.length:Int).toNat))=ji17:=fun hle_=>by have h_:=hji17z hle_;rw [Int.one_mul] at h_;exact h_
     have hji17y:(wrap64 (1 * 2 ^ min (l1_0.length:Int).toNat 64))=ji17:=(i64_w _).symm.trans hji17_
     have hji17x:(l1_0.length:Int)≤64→(wrap64 (1 * 2 ^ (l1_0.length:Int).toNat))=ji17:=fun h_=>(i64_w _).symm.trans (hji17z h_)
     by_cases c18:x9_1<(ji17)
     ·rw [if_pos c18] at H;have c18b0:decide (x9_1<(ji17))=true:=decide_eq_true c18;clear c18;replace H:=Option.bind_eq_some_iff.mp H;obtain ⟨t81,A89,H⟩:=H;replace H:(if t81=true then (ancepsref41_Implied.l0 k1 l0 (wrap64 (x9_1+1)) l1_0 l1_1 l1_0 x42_1) else (if x42_1.length<17592186044416 then (ancepsref41_Implied.l0 k1 l0 (wrap64 (x9_1+1)) l1_0 l1_1 l1_0 (x42_1++[x9_1])) else (none)))=some (r1,r2):=H;have A19:=zA A89;clear A89;have HC20:=zA H;clear H;have hnb21:=NB43_44.out;have hnc21:=NB44_43.out;have hcz22_0:wr.cell? ⟨gb43,0,none⟩=some (.slice A1_0 l1_0.length c1_0):=(blk_cell BK43.out 0).trans rfl;have hcz22_1:wr.cell? ⟨gb43,1,none⟩=some (.slice A1_1 l1_1.length c1_1):=(blk_cell BK43.out 1).trans rfl;have hfz22_0:=blk_frozen BK43.out 0;have hfz22_1:=blk_frozen BK43.out 1
      go_upto_if 35 with (first|((with_reducible refine gate_callee (f:=34) rfl ?_);refine goesL_ (some 34) rfl rfl Try.func34 zK rfl #[.slice A1_1 l1_1.length c1_1,.int .i64 x9_1] rfl zM ?_;(with_reducible refine (ancepsref41_has.calls k1 _ _ l1_1 x9_1 t81 _ ?side1 ?side2 A19.out).mono ?_);(case side1=>exact zC (Kd.C_below HR1_1.out HB.out));(case side2=>exact HC1_1.out);rintro e w' ⟨rfl,⟨nd,rfl⟩⟩;refine ⟨_,rfl,?_⟩))
      (try simp only [Act.put,zi,zs,zt]);have H:=HC20.out;clear HC20
      by_cases c23:t81=true
      ·subst c23
       have H1:(ancepsref41_Implied.l0 k1 l0 (wrap64 (x9_1+1)) l1_0 l1_1 l1_0 x42_1)=some (r1,r2):=by rw [if_pos rfl] at H;exact H
       clear H;have H:=H1;clear H1;have H':=zA H;clear H
       go_wp2
       go_roundg k1
       case measure=>have:=HK1.out;omega
       case rel=>exact ⟨(wrap64 (x9_1+1)),(x42_1),(u42),zT,H',⟨by have:=HK1.out;omega⟩,⟨by refine zr ?_;exact HO_42.out⟩,⟨by refine zj ?_;exact BK43.out⟩,⟨by refine zj ?_;exact BK44.out⟩,⟨zv2 HB GE43 GE44⟩⟩
      ·replace c23:=Bool.eq_false_iff.mpr c23;subst c23
       have H1:(if x42_1.length<17592186044416 then (ancepsref41_Implied.l0 k1 l0 (wrap64 (x9_1+1)) l1_0 l1_1 l1_0 (x42_1++[x9_1])) else (none))=some (r1,r2):=by rw [if_neg (show ¬ (false=true) by decide)] at H;exact H
       clear H;have H:=H1;clear H1
       by_cases c24:x42_1.length<17592186044416
       ·rw [if_pos c24] at H;have LMc24:=zA c24;clear c24
        obtain ⟨y71,hy71⟩:∃ y_:List Int,y_=(x42_1++[x9_1]):=⟨_,rfl⟩
        replace H:(ancepsref41_Implied.l0 k1 l0 (wrap64 (x9_1+1)) l1_0 l1_1 l1_0 y71)=some (r1,r2):=by first|(rw [hy71];with_reducible exact H)|(have H2_:=(Option.bind_some _ _).symm.trans H;rw [hy71];with_reducible exact H2_)|(have H2_:=(Option.bind_some _ _).symm.trans H;with_reducible exact H2_)|with_reducible exact H|(rw [hy71];exact H)|exact H
        have Ny71:=zA hy71;clear hy71;have H':=zA H;clear H;have hnb25:=NB44_43.out;have hnc25:=NB43_44.out;have hcz26_0:wr.cell? ⟨gb44,0,none⟩=some (.slice A1_0 l1_0.length c1_0):=(blk_cell BK44.out 0).trans rfl;have hcz26_1:wr.cell? ⟨gb44,1,none⟩=some (u42):=(blk_cell BK44.out 1).trans rfl;have hfz26_0:=blk_frozen BK44.out 0;have hfz26_1:=blk_frozen BK44.out 1
        go_wp2_with (first|((with_reducible refine gate_builtin (b:=.append) (xs:=#[.tmp 37,.tmp 39]) rfl ?_);at_builtin;refine Kd.R_append (Kd.int .i64) (w0:=w) w.heap.size rfl (.tmp 37) (.tmp 39) 29 3 (.int .i64 0) 8 rfl Try.underlying29 info3 rfl (by decide) (by omega) u42 x42_1 x9_1 [.int .i64 x9_1] (fun _=>True) (fun _=>False) rfl rfl ?aP (fun _ hk=>hk.elim) ?aF ?aO ?aB ?aS ?aL ?_;(case aP=>exact rfl);(case aB=>exact zB);(case aF=>exact (fun _ _=>trivial));(case aO=>exact (zR HO_42));(case aS=>exact (below_size zB));(case aL=>have:=LMc24.out;omega);intro v689 w27 ho hb hg hat;rw [← Ny71.out] at ho;have HO90:=zA (ho);replace BK43:=zA (blk_grown (g:=gb43) (o:=.cells #[.slice A1_0 l1_0.length c1_0,.slice A1_1 l1_1.length c1_1] 34 (0,0)) (zk BK43) hg (Kd.R_ne HO_42.out BK43.out (by decide)));replace BK44:=zA (blk_grown (g:=gb44) (o:=.cells #[.slice A1_0 l1_0.length c1_0,u42] 34 (0,0)) (zk BK44) hg (Kd.R_ne HO_42.out BK44.out (by decide)));replace HB:=zA (hb);clear HO_42;clear ho hb hg hat;obtain ⟨Ao28,co28,eo28⟩:=Kd.R_slice HO90.out;subst eo28;have hcz29_0:w27.cell? ⟨gb44,0,none⟩=some (.slice A1_0 l1_0.length c1_0):=(blk_cell BK44.out 0).trans rfl;have hcz29_1:w27.cell? ⟨gb44,1,none⟩=some (u42):=(blk_cell BK44.out 1).trans rfl;have hfz29_0:=blk_frozen BK44.out 0;have hfz29_1:=blk_frozen BK44.out 1))
        go_roundg k1
        case measure=>have:=HK1.out;omega
        case rel=>exact ⟨(wrap64 (x9_1+1)),(y71),(.slice Ao28 y71.length co28),zT,H',⟨by have:=HK1.out;omega⟩,⟨by refine zr ?_;exact Kd.R_mono (Kd.R_far (p:=⟨gb44,1,none⟩) (Kd.R_types HO90.out BK44.out (by decide)) (fun _ hk=>hk.2) (.slice Ao28 y71.length co28)) (fun _ hk=>trivial)⟩,⟨by refine zj ?_;refine blk_far ?_ NB43_44.out _;refine zj ?_;exact BK43.out⟩,⟨by refine zj ?_;refine blk_put (cs:=#[.slice A1_0 l1_0.length c1_0,u42]) ?_ 1 _ rfl;refine zj ?_;exact BK44.out⟩,⟨zv2 HB GE43 GE44⟩⟩
       ·rw [if_neg c24] at H;exact absurd H (by simp)
     ·rw [if_neg c18] at H;have c18b0:decide (x9_1<(ji17))=false:=decide_eq_false c18;clear c18;replace H:=Option.bind_eq_some_iff.mp H;obtain ⟨t74,A91,H⟩:=H;replace H:((ancepsref41_solvable.f k1 t74).bind fun t75=>(some (!t75,0)))=some (r1,r2):=H;have A30:=zA A91;clear A91;replace H:=Option.bind_eq_some_iff.mp H;obtain ⟨t75,A92,H⟩:=H;replace H:(some (!t75,0))=some (r1,r2):=H;have A31:=zA A92;clear A92;simp only [Option.some.injEq,Prod.mk.injEq] at H;obtain ⟨rfl,rfl⟩:=H;have hnb32:=NB43_44.out;have hnc32:=NB44_43.out;have hcz33_0:wr.cell? ⟨gb43,0,none⟩=some (.slice A1_0 l1_0.length c1_0):=(blk_cell BK43.out 0).trans rfl;have hcz33_1:wr.cell? ⟨gb43,1,none⟩=some (.slice A1_1 l1_1.length c1_1):=(blk_cell BK43.out 1).trans rfl;have hfz33_0:=blk_frozen BK43.out 0;have hfz33_1:=blk_frozen BK43.out 1;have hcz34_0:wr.cell? ⟨gb44,0,none⟩=some (.slice A1_0 l1_0.length c1_0):=(blk_cell BK44.out 0).trans rfl;have hcz34_1:wr.cell? ⟨gb44,1,none⟩=some (u42):=(blk_cell BK44.out 1).trans rfl;have hfz34_0:=blk_frozen BK44.out 0;have hfz34_1:=blk_frozen BK44.out 1;obtain ⟨Ao35,co35,eo35⟩:=Kd.R_slice HO_42.out;subst eo35
      go_wp2_with (first|((with_reducible refine gate_callee (f:=41) rfl ?_);refine goesL_ (some 44) rfl rfl Try.func41 zK rfl #[.slice A0 l0.length c0,.agg #[.slice A1_0 l1_0.length c1_0,.slice Ao35 x42_1.length co35]] rfl zM ?_;(with_reducible refine (ancepsref41_added.calls (fun k_=>k_<w.heap.size) _ _ l0 (fun k_=>k_<w.heap.size) _ _ l1_0 (fun k_=>some k_=(.slice Ao35 x42_1.length co35:Value).ownBlock) _ _ x42_1 t74 _ ?side1 ?side2 ?side3 A30.out).mono ?_);(case side1=>exact Kd.V_mk HC0.out (Kd.F_below (Kd.C_F k34_heap HR0.out) zB));(case side2=>exact Kd.V_mk HC1_0.out (Kd.F_below (Kd.C_F (Kd.heap_int .i64) HR1_0.out) zB));(case side3=>exact Kd.R_V (Kd.R_tight rfl (Kd.R_types (Kd.R_types (HO_42.out) BK43.out (by decide)) BK44.out (by decide))));rintro e w36 ⟨v692,rfl,ho0,hb⟩;refine ⟨_,rfl,?_⟩;have HO83:=zA (Kd.N_lower (Kd.N_mono (ok':=fun k_=>k_≠gb43∧k_≠gb44) ho0 (fun k_ hk_=>⟨Or.elim hk_ (fun hs_=>Or.elim hs_ (fun hs_=>fun e_=>Nat.not_le.2 hs_ (by rw [e_];exact GW43.out)) (fun hs_=>Or.elim hs_ (fun hs_=>fun e_=>Nat.not_le.2 hs_ (by rw [e_];exact GW43.out)) (fun hs_=>((Kd.R_types (Kd.R_types (HO_42.out) BK43.out (by decide)) BK44.out (by decide)).1 k_ hs_.symm).1.2))) (fun hn_=>(Kd.freshB (g:=gb43) (o:=.cells #[.slice A1_0 l1_0.length c1_0,.slice A1_1 l1_1.length c1_1] 34 (0,0)) (zk BK43) k_ hn_)),Or.elim hk_ (fun hs_=>Or.elim hs_ (fun hs_=>fun e_=>Nat.not_le.2 hs_ (by rw [e_];exact GW44.out)) (fun hs_=>Or.elim hs_ (fun hs_=>fun e_=>Nat.not_le.2 hs_ (by rw [e_];exact GW44.out)) (fun hs_=>((Kd.R_types (Kd.R_types (HO_42.out) BK43.out (by decide)) BK44.out (by decide)).1 k_ hs_.symm).2))) (fun hn_=>(Kd.freshB (g:=gb44) (o:=.cells #[.slice A1_0 l1_0.length c1_0,.slice Ao35 x42_1.length co35] 34 (0,0)) (zk BK44) k_ hn_))⟩)) (below_size zB));replace HO_42:=zA (Kd.R_below (zR HO_42) hb);replace BK43:=zA (zb BK43 hb);replace BK44:=zA (zb BK44 hb);replace HB:=zA (below_step zB hb);(try clear hb);(try clear hb2);(try clear hk);(try clear hi);(try clear ho0);obtain ⟨Ao37,co37,eo37⟩:=Kd.N_slice HO83.out;subst eo37)|((with_reducible refine gate_callee (f:=33) rfl ?_);refine goesL_ (some 45) rfl rfl Try.func33 zK rfl #[.slice Ao37 t74.length co37] rfl zM ?_;(with_reducible refine (ancepsref41_solvable.calls k1 _ _ t74 t75 _ ?side1 ?side2 A31.out).mono ?_);(case side1=>exact zC (Kd.N_reads' HO83.out).2.2);(case side2=>exact (Kd.N_reads' HO83.out).2.1);rintro e w38 ⟨rfl,hb⟩;refine ⟨_,rfl,?_⟩;replace HO_42:=zA (Kd.R_below (zR HO_42) hb);replace HO83:=zA (Kd.N_below (zN HO83) hb);replace BK43:=zA (zb BK43 hb);replace BK44:=zA (zb BK44 hb);replace HB:=zA (below_step zB hb);(try clear hb);(try clear hb2);(try clear hk);(try clear hi)))
      go_ret2
      exact ⟨by first|rfl|(simp [errW_none,errW_some] <;> rfl)|(simp only [← hji17];first|rfl|(simp [errW_none,errW_some] <;> rfl))|(simp [*,errW_none,errW_some] <;> rfl),zv2 HB GE43 GE44⟩
  ·rw [if_neg c12] at H;have c12b0:(t61 == 0)=false:=beq_eq_false_iff_ne.mpr c12;have c12b1:(t61 != 0)=true:=bne_iff_ne.mpr c12
   (first|rw [c12b0]|(simp only [i64_w,i32_w];rw [c12b0])|skip)
   (try rw [c12b1]);simp only [Option.some.injEq,Prod.mk.injEq] at H;obtain ⟨rfl,rfl⟩:=H
   go_wp2
   go_ret2
   exact ⟨ze,zv1 HB GE43⟩
 ·rw [if_neg c7] at H;have c7b0:(t68 == 0)=false:=beq_eq_false_iff_ne.mpr c7;have c7b1:(t68 != 0)=true:=bne_iff_ne.mpr c7
  (first|rw [c7b0]|(simp only [i64_w,i32_w];rw [c7b0])|skip)
  (try rw [c7b1]);simp only [Option.some.injEq,Prod.mk.injEq] at H;obtain ⟨rfl,rfl⟩:=H
  go_wp2
  go_ret2
  exact ⟨ze,zv1 HB GE43⟩
end Go.Proofs.Ytngpkbbljnbojaa.I
