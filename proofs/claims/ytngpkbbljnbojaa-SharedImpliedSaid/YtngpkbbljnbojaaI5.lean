import Derived.Test.YtngpkbbljnbojaaI0
import Derived.Test.YtngpkbbljnbojaaI2
import Derived.Test.YtngpkbbljnbojaaI4
namespace Go.Proofs.Ytngpkbbljnbojaa.I
open Go.RowKit Go.Proofs.YtngpkbbljnbojaaW.PrintWords Go.Proofs.YtngpkbbljnbojaaW.PrintLast Go.Proofs.YtngpkbbljnbojaaW.PrintMore
attribute [local go_sem] max2_int min2_int max_two min_two max_three min_three max_four min_four
set_option linter.unusedVariables false
set_option linter.unusedSimpArgs false
def shared_Value.f (k:Nat) (l0:List (S34)) (a1:Int):Option (Int×Int):=(shared_given.f k l0).bind fun t59=>(if t59=0 then (if a1<0 then (some (0,6)) else (if a1≥24 then (some (0,6)) else ((shared_solvable.f k l0).bind fun t52=>(if t52=0 then ((solve_Vars.f k l0).bind fun t70=>((slices_Contains_int_int.f k t70 a1).bind fun t65=>(if t65=true then ((shared_value.f k l0 a1).bind fun t55=>(some (t55,0))) else (some (0,4))))) else (some (0,t52)))))) else (some (0,t59)))
theorem shared_Value.mono:∀ a0 a1 k,LeO (shared_Value.f k a0 a1) (shared_Value.f (k+1) a0 a1):=by
 intro a0 a1 k
 unfold shared_Value.f
 repeat' first
   | (with_reducible exact shared_given.mono _ _)
   | (with_reducible exact shared_solvable.mono _ _)
   | (with_reducible exact shared_value.mono _ _ _)
   | (with_reducible exact slices_Contains_int_int.mono _ _ _)
   | (with_reducible exact solve_Vars.mono _ _)
   | (with_reducible exact LeO.refl _)
   | (with_reducible exact LeO.none _)
   | (with_reducible refine LeO.ite ?_ ?_)
   | (with_reducible refine LeO.bind ?_ (fun _=>?_))
   | exact LeO.none _
   | refine LeO.ite ?_ ?_
   | refine LeO.bind ?_ (fun _=>?_)
set_option maxHeartbeats 8000000 in
set_option maxRecDepth 100000 in
theorem shared_Value.calls (k:Nat) (A0:Option Addr) (c0:Nat) (l0:List (S34)) (a1:Int) (r1:Int) (r2:Int) (w:World) (hr0:Kd.C k34 w A0 l0.length l0) (hc0:l0.length≤c0) (h:shared_Value.f k l0 a1=some (r1,r2)) :
  Calls Try.prog 8 #[.slice A0 l0.length c0,.int .i64 a1] w fun e w'=>e=.returned (.tuple #[.int .i64 r1,.int .i64 r2])∧Below w.heap.size w w':=by
 have HR0:=zA hr0;have HC0:=zA hc0;clear hr0 hc0;have HB:=zA (Below.refl w.heap.size w);have H:((shared_given.f k l0).bind fun t59=>(if t59=0 then (if a1<0 then (some (0,6)) else (if a1≥24 then (some (0,6)) else ((shared_solvable.f k l0).bind fun t52=>(if t52=0 then ((solve_Vars.f k l0).bind fun t70=>((slices_Contains_int_int.f k t70 a1).bind fun t65=>(if t65=true then ((shared_value.f k l0 a1).bind fun t55=>(some (t55,0))) else (some (0,4))))) else (some (0,t52)))))) else (some (0,t59))))=some (r1,r2):=h;clear h;replace H:=Option.bind_eq_some_iff.mp H;obtain ⟨t59,A30,H⟩:=H;replace H:(if t59=0 then (if a1<0 then (some (0,6)) else (if a1≥24 then (some (0,6)) else ((shared_solvable.f k l0).bind fun t52=>(if t52=0 then ((solve_Vars.f k l0).bind fun t70=>((slices_Contains_int_int.f k t70 a1).bind fun t65=>(if t65=true then ((shared_value.f k l0 a1).bind fun t55=>(some (t55,0))) else (some (0,4))))) else (some (0,t52)))))) else (some (0,t59)))=some (r1,r2):=H;have A3:=zA A30;clear A30;have HC4:=zA H;clear H
 go_enter Try.func8,Try.ntmps8
 go_upto_if 11 with (first|((with_reducible refine gate_callee (f:=27) rfl ?_);refine goesL_ (some 9) rfl rfl Try.func27 zK rfl #[.slice A0 l0.length c0] rfl zM ?_;(with_reducible refine (shared_given.calls k _ _ l0 t59 _ ?side1 ?side2 A3.out).mono ?_);(case side1=>repeat (first|exact HR0.out|(with_reducible refine Kd.C_alloc ?_ _)|(with_reducible refine Kd.C_drewN ?_ _)|(with_reducible refine Kd.C_drew ?_)));(case side2=>exact HC0.out);rintro e w5 ⟨rfl,hb⟩;refine ⟨_,rfl,?_⟩;replace HB:=zA (below_step zB hb);(try clear hb);(try clear hb2);(try clear hk);(try clear hi)))
 (try simp only [Act.put,zi,zs,zt]);have H:=HC4.out;clear HC4
 by_cases c6:t59=0
 ·rw [if_pos c6] at H;have c6b0:(t59 == 0)=true:=beq_iff_eq.mpr c6;have c6b1:(t59 != 0)=false:=bne_eq_false_iff_eq.mpr c6;clear c6
  (first|rw [c6b0]|(simp only [i64_w,i32_w];rw [c6b0])|skip)
  (try rw [c6b1])
  by_cases c7:a1<0
  ·rw [if_pos c7] at H;have c7b0:decide (a1<0)=true:=decide_eq_true c7;clear c7;simp only [Option.some.injEq,Prod.mk.injEq] at H;obtain ⟨rfl,rfl⟩:=H
   go_wp2
   go_ret2
   exact ⟨ze,zv0 HB⟩
  ·rw [if_neg c7] at H;have c7b0:decide (a1<0)=false:=decide_eq_false c7;clear c7
   by_cases c8:a1≥24
   ·rw [if_pos c8] at H;have c8b0:decide (24≤a1)=true:=decide_eq_true c8;clear c8;simp only [Option.some.injEq,Prod.mk.injEq] at H;obtain ⟨rfl,rfl⟩:=H
    go_wp2
    go_ret2
    exact ⟨ze,zv0 HB⟩
   ·rw [if_neg c8] at H;have c8b0:decide (24≤a1)=false:=decide_eq_false c8;clear c8;replace H:=Option.bind_eq_some_iff.mp H;obtain ⟨t52,A90,H⟩:=H;replace H:(if t52=0 then ((solve_Vars.f k l0).bind fun t70=>((slices_Contains_int_int.f k t70 a1).bind fun t65=>(if t65=true then ((shared_value.f k l0 a1).bind fun t55=>(some (t55,0))) else (some (0,4))))) else (some (0,t52)))=some (r1,r2):=H;have A9:=zA A90;clear A90;have HC10:=zA H;clear H
    go_upto_if 22 with (first|((with_reducible refine gate_callee (f:=28) rfl ?_);refine goesL_ (some 20) rfl rfl Try.func28 zK rfl #[.slice A0 l0.length c0] rfl zM ?_;(with_reducible refine (shared_solvable.calls k _ _ l0 t52 _ ?side1 ?side2 A9.out).mono ?_);(case side1=>exact zC (Kd.C_below HR0.out HB.out));(case side2=>exact HC0.out);rintro e w11 ⟨rfl,hb⟩;refine ⟨_,rfl,?_⟩;replace HB:=zA (below_step zB hb);(try clear hb);(try clear hb2);(try clear hk);(try clear hi)))
    (try simp only [Act.put,zi,zs,zt]);have H:=HC10.out;clear HC10
    by_cases c12:t52=0
    ·rw [if_pos c12] at H;have c12b0:(t52 == 0)=true:=beq_iff_eq.mpr c12;have c12b1:(t52 != 0)=false:=bne_eq_false_iff_eq.mpr c12;clear c12
     (first|rw [c12b0]|(simp only [i64_w,i32_w];rw [c12b0])|skip)
     (try rw [c12b1]);replace H:=Option.bind_eq_some_iff.mp H;obtain ⟨t70,A97,H⟩:=H;replace H:((slices_Contains_int_int.f k t70 a1).bind fun t65=>(if t65=true then ((shared_value.f k l0 a1).bind fun t55=>(some (t55,0))) else (some (0,4))))=some (r1,r2):=H;have A13:=zA A97;clear A97;replace H:=Option.bind_eq_some_iff.mp H;obtain ⟨t65,A98,H⟩:=H;replace H:(if t65=true then ((shared_value.f k l0 a1).bind fun t55=>(some (t55,0))) else (some (0,4)))=some (r1,r2):=H;have A14:=zA A98;clear A98;have HC15:=zA H;clear H
     go_upto_if 28 with (first|((with_reducible refine gate_callee (f:=29) rfl ?_);refine goesL_ (some 25) rfl rfl Try.func29 zK rfl #[.slice A0 l0.length c0] rfl zM ?_;(with_reducible refine (solve_Vars.calls k _ _ l0 t70 _ ?side1 ?side2 A13.out).mono ?_);(case side1=>exact zC (Kd.C_below HR0.out HB.out));(case side2=>exact HC0.out);rintro e w16 ⟨v343,rfl,ho0,hb⟩;refine ⟨_,rfl,?_⟩;have HO84:=zA (Kd.R_lower ho0 (below_size zB));replace HB:=zA (below_step zB hb);(try clear hb);(try clear hb2);(try clear hk);(try clear hi);(try clear ho0);obtain ⟨Ao17,co17,eo17⟩:=Kd.R_slice HO84.out;subst eo17)|((with_reducible refine gate_callee (f:=15) rfl ?_);refine goesL_ (some 27) rfl rfl Try.func15 zK rfl #[.slice Ao17 t70.length co17,.int .i64 a1] rfl zM ?_;(with_reducible refine (slices_Contains_int_int.calls k _ _ t70 a1 t65 _ ?side1 ?side2 A14.out).mono ?_);(case side1=>exact zC (Kd.R_reads' HO84.out).2.2);(case side2=>exact (Kd.R_reads' HO84.out).2.1);rintro e w' ⟨rfl,⟨nd,rfl⟩⟩;refine ⟨_,rfl,?_⟩))
     (try simp only [Act.put,zi,zs,zt]);have H:=HC15.out;clear HC15
     by_cases c18:t65=true
     ·subst c18
      have H1:((shared_value.f k l0 a1).bind fun t55=>(some (t55,0)))=some (r1,r2):=by rw [if_pos rfl] at H;exact H
      clear H;have H:=H1;clear H1;replace H:=Option.bind_eq_some_iff.mp H;obtain ⟨t55,A99,H⟩:=H;replace H:(some (t55,0))=some (r1,r2):=H;have A19:=zA A99;clear A99;simp only [Option.some.injEq,Prod.mk.injEq] at H;obtain ⟨rfl,rfl⟩:=H
      go_wp2_with (first|((with_reducible refine gate_callee (f:=30) rfl ?_);refine goesL_ (some 31) rfl rfl Try.func30 zK rfl #[.slice A0 l0.length c0,.int .i64 a1] rfl zM ?_;(with_reducible refine (shared_value.calls k _ _ l0 a1 t55 _ ?side1 ?side2 A19.out).mono ?_);(case side1=>exact zC (Kd.C_below HR0.out HB.out));(case side2=>exact HC0.out);rintro e w20 ⟨rfl,hb⟩;refine ⟨_,rfl,?_⟩;replace HO84:=zA (Kd.R_below (zR HO84) hb);replace HB:=zA (below_step zB hb);(try clear hb);(try clear hb2);(try clear hk);(try clear hi)))
      go_ret2
      exact ⟨ze,zv0 HB⟩
     ·replace c18:=Bool.eq_false_iff.mpr c18;subst c18
      have H1:(some (0,4))=some (r1,r2):=by rw [if_neg (show ¬ (false=true) by decide)] at H;exact H
      clear H;have H:=H1;clear H1;simp only [Option.some.injEq,Prod.mk.injEq] at H;obtain ⟨rfl,rfl⟩:=H
      go_wp2
      go_ret2
      exact ⟨ze,zv0 HB⟩
    ·rw [if_neg c12] at H;have c12b0:(t52 == 0)=false:=beq_eq_false_iff_ne.mpr c12;have c12b1:(t52 != 0)=true:=bne_iff_ne.mpr c12
     (first|rw [c12b0]|(simp only [i64_w,i32_w];rw [c12b0])|skip)
     (try rw [c12b1]);simp only [Option.some.injEq,Prod.mk.injEq] at H;obtain ⟨rfl,rfl⟩:=H
     go_wp2
     go_ret2
     exact ⟨ze,zv0 HB⟩
 ·rw [if_neg c6] at H;have c6b0:(t59 == 0)=false:=beq_eq_false_iff_ne.mpr c6;have c6b1:(t59 != 0)=true:=bne_iff_ne.mpr c6
  (first|rw [c6b0]|(simp only [i64_w,i32_w];rw [c6b0])|skip)
  (try rw [c6b1]);simp only [Option.some.injEq,Prod.mk.injEq] at H;obtain ⟨rfl,rfl⟩:=H
  go_wp2
  go_ret2
  exact ⟨ze,zv0 HB⟩
def api_Table_39.f (l0:List (S34)):Option ((List (S34))):=(some (([]:List (S34)):List (S34))).bind fun y48=>(if y48.length+l0.length<2932031007402 then (some (y48++l0)) else (none))
set_option maxHeartbeats 8000000 in
set_option maxRecDepth 100000 in
theorem api_Table_39.calls (P0_:Nat→Prop) (A0:Option Addr) (c0:Nat) (l0:List (S34)) (r:List (S34)) (w:World) (hs0:Kd.V k34 34 w w.heap.size (fun k_=>P0_ k_) (.slice A0 l0.length c0) l0) (h:api_Table_39.f l0=some r) :
  Calls Try.prog 39 #[.slice A0 l0.length c0] w fun e w'=>∃ v0_:Value,e=.returned (v0_)∧Kd.N k34 34 w' w.heap.size (fun k_=>(P0_ k_∨w.heap.size≤k_)) v0_ r∧Below w.heap.size w w':=by
 have HO0:=zA (show Kd.V k34 34 w w.heap.size (fun k_=>(P0_ k_∨w.heap.size≤k_)) (.slice A0 l0.length c0) l0 from Kd.V_mono hs0 (fun k_ hk=>.inl hk));have HB:=zA (Below.refl w.heap.size w);have H:((some (([]:List (S34)):List (S34))).bind fun y48=>(if y48.length+l0.length<2932031007402 then (some (y48++l0)) else (none)))=some r:=h;clear h
 have hnq_:∀ (w:World) (a:Option Addr) (n c n' c':Nat),(binOp .eql 22 (.slice a n c) (.slice none n' c')).run Try.prog w=.ok (.bool a.isNone) w:=fun w a n c n' c'=>Lib.run_eql_slice_nil w _ _ a n c n' c' Try.underlying22
 rcases A0 with _|adn0
 ·obtain rfl:l0=[]:=(by rcases l0 with _|⟨x_,xs_⟩;(· rfl);(· obtain ⟨_,_,e_,_⟩:=Kd.C_get (Kd.V_reads' HO0.out).2.2 z34 0 (by omega) (by simp);cases e_))
  simp only [List.length_nil,List.nil_append] at H
  (first|rw [if_pos (by omega)] at H|simp at H)
  try simp only [Option.some.injEq] at H
  subst H
  go_enter Try.func39,Try.ntmps39
  go_wp2
  go_ret
  first|exact ⟨_,rfl,Kd.R_nil _ _ _ _ _,Below.refl _ _⟩|exact ⟨_,rfl,Kd.S_nil _ _ _ _ _,Below.refl _ _⟩|exact ⟨_,rfl,Kd.V_nil _ _ _ _ _,Below.refl _ _⟩|exact ⟨_,rfl,Kd.N_nil _ _ _ _ _,Below.refl _ _⟩
 ·replace H:=H
  obtain ⟨y48,hy48⟩:∃ y_:List (S34),y_=(([]:List (S34))):=⟨_,rfl⟩
  replace H:(if y48.length+l0.length<2932031007402 then (some (y48++l0)) else (none))=some r:=by first|(rw [hy48];with_reducible exact H)|(have H2_:=(Option.bind_some _ _).symm.trans H;rw [hy48];with_reducible exact H2_)|(have H2_:=(Option.bind_some _ _).symm.trans H;with_reducible exact H2_)|with_reducible exact H|(rw [hy48];exact H)|exact H
  have Ny48:=zA hy48;clear hy48
  by_cases c2:y48.length+l0.length<2932031007402
  ·rw [if_pos c2] at H;have LMc2:=zA c2;clear c2
   obtain ⟨y78,hy78⟩:∃ y_:List (S34),y_=(y48++l0):=⟨_,rfl⟩
   replace H:(some y78)=some r:=by first|(rw [hy78];with_reducible exact H)|(have H2_:=(Option.bind_some _ _).symm.trans H;rw [hy78];with_reducible exact H2_)|(have H2_:=(Option.bind_some _ _).symm.trans H;with_reducible exact H2_)|with_reducible exact H|(rw [hy78];exact H)|exact H
   have Ny78:=zA hy78;clear hy78;obtain rfl:=Option.some.inj H
   go_enter Try.func39,Try.ntmps39
   go_wp2_with (first|((with_reducible refine gate_dst (N:=5) rfl ?_);refine Kd.N_lit k34 _ 34 ?hg (N':=5) ?hd (xs:=([]:List (S34))) (inner:=[]) (ok:=(fun k_=>(P0_ k_∨w.heap.size≤k_))) (okp:=(fun k_=>(P0_ k_∨w.heap.size≤k_))) ?hr ?hp (fun _ hk=>hk) ((show ∀ k_,w.heap.size≤k_→(fun k_=>(P0_ k_∨w.heap.size≤k_)) k_ from fun k_ hk=>(.inr (Nat.le_trans (below_size zB) hk))) _ (Nat.le_refl _)) (Below.refl _ _) (Nat.le_refl _) (by simp) ?_;(case hd=>rfl);(case hg=>rfl);(case hr=>first|(go_simp;done)|(go_simp;rfl));(case hp=>exact (Reps.none _ _));intro v95 w3 ho4 hb hg_ hnew_;clear hg_ hnew_;(first|rw [← Ny48.out] at ho4|(simp only [Int.reduceToNat] at ho4;rw [← Ny48.out] at ho4));have HO349:=zA (Kd.N_lower ho4 (below_size zB));replace HO0:=zA (Kd.V_elder' (zV HO0) (Kd.N_base ho4) hb);replace HB:=zA (below_step zB hb);clear hb ho4)|((with_reducible refine gate_builtin (b:=.append) (xs:=#[.tmp 5,.tmp 6]) rfl ?_);at_builtin;refine Kd.N_append_rows k34 (w0:=w) w.heap.size rfl (.tmp 5) (.tmp 6) 22 34 (.agg #[(.slice none 0 0),(.slice none 0 0)]) 48 rfl Try.underlying22 info34 rfl (by decide) (by omega) v95 y48 l0 _ _ _ (fun k_=>(P0_ k_∨w.heap.size≤k_)) (fun k_=>((fun k_=>(P0_ k_∨w.heap.size≤k_))) k_∧some k_≠(v95:Value).ownBlock) rfl rfl ?aO ?aR (fun _ hk=>hk) ?aF ?aB ?aS ?aL ?_;(case aR=>exact (by skip;exact Kd.V_F (Kd.V_mono (ok':=(fun k_=>((fun k_=>(P0_ k_∨w.heap.size≤k_))) k_∧some k_≠(v95:Value).ownBlock)) (HO0.out) (fun k_ hk=>⟨hk.1,hk.2⟩))));(case aB=>exact zB);(case aF=>exact (fun k_ hk=>(.inr (Nat.le_trans (below_size zB) hk))));(case aO=>exact (zN HO349));(case aS=>exact (below_size zB));(case aL=>have:=LMc2.out;omega);intro v351 w5 ho hb hg hat;rw [← Ny78.out] at ho;have HO352:=zA (ho);replace HO0:=zA (Kd.V_afterv (ok:=(fun k_=>(P0_ k_∨w.heap.size≤k_))) (zV HO0) hg hat);replace HB:=zA (hb);clear HO349;clear ho hb hg hat))
   go_ret
   exact ⟨_,ze,by (with_reducible repeat (first|apply Kd.N_alloc|apply Kd.N_drewN|apply Kd.N_drew));exact HO352.out,zv0 HB⟩
  ·rw [if_neg c2] at H;exact absurd H (by simp)
def shared_Implied.l0:Nat→List (S34)→List Int→Int→Int→List Int→List Int→Option (Bool×Int)
 | 0,_,_,_,_,_,_=>none
 | k+1,x0,x8,x25,x26,x42,x81=>if x26<x25 then ((slices_Contains_int_int.f k x81 x26).bind fun t85=>(if t85=true then (shared_Implied.l0 k x0 x8 x25 (wrap64 (x26+1)) x42 x81) else ((some (([x26]:List Int):List Int)).bind fun y46=>(if x8.length+y46.length<17592186044416 then (shared_Implied.l0 k x0 (x8++y46) x25 (wrap64 (x26+1)) x42 x81) else (none))))) else ((api_Table_39.f x0).bind fun t61=>((some (([(⟨x42,x8⟩:S34)]:List (S34)):List (S34))).bind fun y47=>(if t61.length+y47.length<2932031007402 then ((solve_First.f k (t61++y47)).bind fun bt79=>(some ((bt79.2 != 0),0))) else (none))))
def shared_Implied.f (k:Nat) (l0:List (S34)) (l1_0:List Int) (l1_1:List Int):Option (Bool×Int):=(shared_given.f k l0).bind fun t62=>(if t62=0 then ((table_Valid.f k l1_0 l1_1).bind fun t53=>(if t53=0 then (shared_Implied.l0 k l0 ([]:List Int) (shl .i64 1 (l1_0.length:Int)) 0 l1_0 l1_1) else (some (false,t53)))) else (some (false,t62)))
theorem shared_Implied.mono_l:∀ k,(∀ y0 y1 y2 y3 y4 y5,LeO (shared_Implied.l0 k y0 y1 y2 y3 y4 y5) (shared_Implied.l0 (k+1) y0 y1 y2 y3 y4 y5))
 | 0=>fun _ _ _ _ _ _ r h=>by simp [shared_Implied.l0] at h
 | k+1=>by
  have ih0:=shared_Implied.mono_l k
  ·intro y0 y1 y2 y3 y4 y5
   unfold shared_Implied.l0
   repeat' first
   | (with_reducible exact ih0 _ _ _ _ _ _)
   | (with_reducible exact shared_given.mono _ _)
   | (with_reducible exact slices_Contains_int_int.mono _ _ _)
   | (with_reducible exact solve_First.mono _ _)
   | (with_reducible exact table_Valid.mono _ _ _)
   | (with_reducible exact LeO.refl _)
   | (with_reducible exact LeO.none _)
   | (with_reducible refine LeO.ite ?_ ?_)
   | (with_reducible refine LeO.bind ?_ (fun _=>?_))
   | exact LeO.none _
   | refine LeO.ite ?_ ?_
   | refine LeO.bind ?_ (fun _=>?_)
theorem shared_Implied.mono:∀ a0 a1 a2 k,LeO (shared_Implied.f k a0 a1 a2) (shared_Implied.f (k+1) a0 a1 a2):=by
 intro a0 a1 a2 k;have ih0:=shared_Implied.mono_l k
 unfold shared_Implied.f
 repeat' first
   | (with_reducible exact ih0 _ _ _ _ _ _)
   | (with_reducible exact shared_given.mono _ _)
   | (with_reducible exact slices_Contains_int_int.mono _ _ _)
   | (with_reducible exact solve_First.mono _ _)
   | (with_reducible exact table_Valid.mono _ _ _)
   | (with_reducible exact LeO.refl _)
   | (with_reducible exact LeO.none _)
   | (with_reducible refine LeO.ite ?_ ?_)
   | (with_reducible refine LeO.bind ?_ (fun _=>?_))
   | exact LeO.none _
   | refine LeO.ite ?_ ?_
   | refine LeO.bind ?_ (fun _=>?_)
def shared_Implied.T14:Bool×List (List Nat×List Nat):=(true,[([],[]),([0],[0]),([],[]),([2],[2]),([],[]),([3,4],[3,4]),([5],[5]),([1,6,1],[1,6]),([7,7],[7]),([8],[8]),([9],[9]),([9],[9]),([10,8,0,1,2,3,4,5,6,7,8,9,10],[10]),([11,12,0,1,2,3,4,5,6,7,8,9,10,11,12],[11])])
def shared_Implied.B14:List Nat:=[0,1,0,4,0,28,60,127,255,511,1023,1023,2047,8191]
theorem shared_Implied.tab14:rtab .any (opsOf Try.f13 14)=shared_Implied.T14:=by kernel_rfl
theorem shared_Implied.bits14:waitsOk shared_Implied.T14.2 shared_Implied.B14=true:=by kernel_rfl
set_option maxHeartbeats 8000000 in
set_option maxRecDepth 100000 in
theorem shared_Implied.calls (k:Nat) (P0_:Nat→Prop) (A0:Option Addr) (c0:Nat) (l0:List (S34)) (P1_0_:Nat→Prop) (A1_0:Option Addr) (c1_0:Nat) (l1_0:List Int) (A1_1:Option Addr) (c1_1:Nat) (l1_1:List Int) (r1:Bool) (r2:Int) (w:World) (hs0:Kd.V k34 34 w w.heap.size (fun k_=>P0_ k_) (.slice A0 l0.length c0) l0) (hs1_0:Kd.V (Kd.int .i64) 3 w w.heap.size (fun k_=>P1_0_ k_) (.slice A1_0 l1_0.length c1_0) l1_0) (hr1_1:Kd.C (Kd.int .i64) w A1_1 l1_1.length l1_1) (hc1_1:l1_1.length≤c1_1) (h:shared_Implied.f k l0 l1_0 l1_1=some (r1,r2)) :
  Calls Try.prog 13 #[.slice A0 l0.length c0,.agg #[.slice A1_0 l1_0.length c1_0,.slice A1_1 l1_1.length c1_1]] w fun e w'=>e=.returned (.tuple #[.bool r1,.int .i64 r2])∧Below w.heap.size w w':=by
 have hu34:=Try.underlying34;have hu29:=Try.underlying29;have HO0:=zA (show Kd.V k34 34 w w.heap.size (fun k_=>((P0_ k_∨P1_0_ k_)∨w.heap.size≤k_)) (.slice A0 l0.length c0) l0 from Kd.V_mono hs0 (fun k_ hk=>.inl (.inl hk)));have HO1_0:=zA (show Kd.V (Kd.int .i64) 3 w w.heap.size (fun k_=>((P0_ k_∨P1_0_ k_)∨w.heap.size≤k_)) (.slice A1_0 l1_0.length c1_0) l1_0 from Kd.V_mono hs1_0 (fun k_ hk=>.inl (.inr hk)));have HR1_1:=zA hr1_1;have HC1_1:=zA hc1_1;clear hr1_1 hc1_1;have HB:=zA (Below.refl w.heap.size w);have H:((shared_given.f k l0).bind fun t62=>(if t62=0 then ((table_Valid.f k l1_0 l1_1).bind fun t53=>(if t53=0 then (shared_Implied.l0 k l0 ([]:List Int) (shl .i64 1 (l1_0.length:Int)) 0 l1_0 l1_1) else (some (false,t53)))) else (some (false,t62))))=some (r1,r2):=h;clear h;replace H:=Option.bind_eq_some_iff.mp H;obtain ⟨t62,A30,H⟩:=H;replace H:(if t62=0 then ((table_Valid.f k l1_0 l1_1).bind fun t53=>(if t53=0 then (shared_Implied.l0 k l0 ([]:List Int) (shl .i64 1 (l1_0.length:Int)) 0 l1_0 l1_1) else (some (false,t53)))) else (some (false,t62)))=some (r1,r2):=H;have A3:=zA A30;clear A30;have HC4:=zA H;clear H
 go_enter Try.func13,Try.ntmps13
 go_upto_if 15 with (first|((with_reducible refine gate_dst (N:=3) rfl ?_);refine box_event ?hg (N:=3) ?hd (cs:=#[.slice A1_0 l1_0.length c1_0,.slice A1_1 l1_1.length c1_1]) (t:=34) ?hr ?_;(case hd=>rfl);(case hg=>rfl);(case hr=>first|(go_simp;done)|(go_simp;rfl));intro gb40 hg w5 hbox hb;have BK40:=zA (hbox);have GW40:=zA (zG hg (below_size zB):w.heap.size≤gb40);have GE40:=GW40;replace HO0:=zA (Kd.V_below (Kd.V_elderB (zV HO0) gb40 (Nat.le_of_eq hg.symm)) hb);replace HO1_0:=zA (Kd.V_below (Kd.V_elderB (zV HO1_0) gb40 (Nat.le_of_eq hg.symm)) hb);replace HB:=zA (below_step zB hb);clear hb hbox hg)|((with_reducible refine gate_callee (f:=27) rfl ?_);refine goesL_ (some 13) rfl rfl Try.func27 zK rfl #[.slice A0 l0.length c0] rfl zM ?_;(with_reducible refine (shared_given.calls k _ _ l0 t62 _ ?side1 ?side2 A3.out).mono ?_);(case side1=>exact zC (Kd.V_reads' HO0.out).2.2);(case side2=>exact (Kd.V_reads' HO0.out).2.1);rintro e w6 ⟨rfl,hb⟩;refine ⟨_,rfl,?_⟩;replace HO0:=zA (Kd.V_below (zV HO0) hb);replace HO1_0:=zA (Kd.V_below (zV HO1_0) hb);replace BK40:=zA (zb BK40 hb);replace HB:=zA (below_step zB hb);(try clear hb);(try clear hb2);(try clear hk);(try clear hi)))
 (try simp only [Act.put,zi,zs,zt]);have H:=HC4.out;clear HC4
 by_cases c7:t62=0
 ·rw [if_pos c7] at H;have c7b0:(t62 == 0)=true:=beq_iff_eq.mpr c7;have c7b1:(t62 != 0)=false:=bne_eq_false_iff_eq.mpr c7;clear c7
  (first|rw [c7b0]|(simp only [i64_w,i32_w];rw [c7b0])|skip)
  (try rw [c7b1]);replace H:=Option.bind_eq_some_iff.mp H;obtain ⟨t53,A80,H⟩:=H;replace H:(if t53=0 then (shared_Implied.l0 k l0 ([]:List Int) (shl .i64 1 (l1_0.length:Int)) 0 l1_0 l1_1) else (some (false,t53)))=some (r1,r2):=H;have A8:=zA A80;clear A80;have HC9:=zA H;clear H;have hcz10_0:w6.cell? ⟨gb40,0,none⟩=some (.slice A1_0 l1_0.length c1_0):=(blk_cell BK40.out 0).trans rfl;have hcz10_1:w6.cell? ⟨gb40,1,none⟩=some (.slice A1_1 l1_1.length c1_1):=(blk_cell BK40.out 1).trans rfl;have hfz10_0:=blk_frozen BK40.out 0;have hfz10_1:=blk_frozen BK40.out 1
  go_upto_if 20 with (first|((with_reducible refine gate_callee (f:=37) rfl ?_);refine goesL_ (some 18) rfl rfl Try.func37 zK rfl #[.agg #[.slice A1_0 l1_0.length c1_0,.slice A1_1 l1_1.length c1_1]] rfl zM ?_;(with_reducible refine (table_Valid.calls k _ _ l1_0 _ _ l1_1 t53 _ ?side1 ?side2 ?side3 ?side4 A8.out).mono ?_);(case side1=>exact zC (Kd.V_reads' HO1_0.out).2.2);(case side2=>exact (Kd.V_reads' HO1_0.out).2.1);(case side3=>exact zC (Kd.C_below HR1_1.out HB.out));(case side4=>exact HC1_1.out);rintro e w11 ⟨rfl,hb⟩;refine ⟨_,rfl,?_⟩;replace HO0:=zA (Kd.V_below (zV HO0) hb);replace HO1_0:=zA (Kd.V_below (zV HO1_0) hb);replace BK40:=zA (zb BK40 hb);replace HB:=zA (below_step zB hb);(try clear hb);(try clear hb2);(try clear hk);(try clear hi)))
  (try simp only [Act.put,zi,zs,zt]);have H:=HC9.out;clear HC9
  by_cases c12:t53=0
  ·rw [if_pos c12] at H;have c12b0:(t53 == 0)=true:=beq_iff_eq.mpr c12;have c12b1:(t53 != 0)=false:=bne_eq_false_iff_eq.mpr c12;clear c12
   (first|rw [c12b0]|(simp only [i64_w,i32_w];rw [c12b0])|skip)
   (try rw [c12b1])
   obtain ⟨ji13,hji13⟩:∃ j_:Int,(shl .i64 1 (l1_0.length:Int))=j_:=⟨_,rfl⟩
   replace H:(shared_Implied.l0 k l0 ([]:List Int) ji13 0 l1_0 l1_1)=some (r1,r2):=by first|(rw [hji13] at H;exact H)|(simp only [hji13] at H ⊢;exact H)
   have hji13_:(IntKind.i64.wrap (1 * 2 ^ min (l1_0.length:Int).toNat 64))=ji13:=hji13;have hji13z:(l1_0.length:Int)≤64→(IntKind.i64.wrap (1 * 2 ^ (l1_0.length:Int).toNat))=ji13:=shl_small hji13;have hji13p:(IntKind.i64.wrap (1 * 2 ^ min l1_0.length 64))=ji13:=hji13_;have hji13q:(l1_0.length:Int)≤64→(IntKind.i64.wrap (1 * 2 ^ l1_0.length))=ji13:=hji13z
   have hji13r:(IntKind.i64.wrap (2 ^ min l1_0.length 64))=ji13:=by have h_:=hji13p;rw [Int.one_mul] at h_;exact h_
   have hji13s:(l1_0.length:Int)≤64→(IntKind.i64.wrap (2 ^ l1_0.length))=ji13:=fun hle_=>by have h_:=hji13q hle_;rw [Int.one_mul] at h_;exact h_
   have hji13u:(IntKind.i64.wrap (2 ^ min (l1_0.length:Int).toNat 64))=ji13:=by have h_:=hji13_;rw [Int.one_mul] at h_;exact h_
   have hji13v:(l1_0.length:Int)≤64→(IntKind.i64.wrap (2 ^ (l1_0.length:Int).toNat))=ji13:=fun hle_=>by have h_:=hji13z hle_;rw [Int.one_mul] at h_;exact h_
   have hji13y:(wrap64 (1 * 2 ^ min (l1_0.length:Int).toNat 64))=ji13:=(i64_w _).symm.trans hji13_
   have hji13x:(l1_0.length:Int)≤64→(wrap64 (1 * 2 ^ (l1_0.length:Int).toNat))=ji13:=fun h_=>(i64_w _).symm.trans (hji13z h_)
   have H':=zA H;clear H;have hcz14_0:w11.cell? ⟨gb40,0,none⟩=some (.slice A1_0 l1_0.length c1_0):=(blk_cell BK40.out 0).trans rfl;have hcz14_1:w11.cell? ⟨gb40,1,none⟩=some (.slice A1_1 l1_1.length c1_1):=(blk_cell BK40.out 1).trans rfl;have hfz14_0:=blk_frozen BK40.out 0;have hfz14_1:=blk_frozen BK40.out 1
   go_wp2
   go_loopg [8,26] k (fun kq v8 v26 w'=>∃ (x8_1:List Int) (x26_1:Int),v26=.int .i64 x26_1∧Aside0 (shared_Implied.l0 kq l0 x8_1 ji13 x26_1 l1_0 l1_1=some (r1,r2))∧Aside0 (kq≤k)∧Aside0 (Kd.V k34 34 w' w.heap.size (fun k_=>((P0_ k_∨P1_0_ k_)∨w.heap.size≤k_)∧some k_≠(v8:Value).ownBlock∧k_≠gb40) (.slice A0 l0.length c0) l0)∧Aside0 (Kd.R (Kd.int .i64) 3 w' w.heap.size (fun k_=>(w.heap.size≤k_)) v8 x8_1)∧Aside0 (Kd.V (Kd.int .i64) 3 w' w.heap.size (fun k_=>((P0_ k_∨P1_0_ k_)∨w.heap.size≤k_)∧some k_≠(v8:Value).ownBlock∧k_≠gb40) (.slice A1_0 l1_0.length c1_0) l1_0)∧Aside0 (w'.heap[gb40]?=some (.cells #[(.slice A1_0 l1_0.length c1_0),(.slice A1_1 l1_1.length c1_1)] 34 (0,0)))∧Aside0 (Below w.heap.size w w'))
   case atStart=>exact ⟨(([]:List Int)),(0),zT,H',⟨Nat.le_refl _⟩,⟨by (with_reducible repeat (first|apply Kd.V_alloc|apply Kd.V_drewN|apply Kd.V_drew));exact Kd.V_mono HO0.out (fun _ hk=>⟨hk.1,⟨(by simp [Value.ownBlock]),hk.2⟩⟩)⟩,⟨by first|exact Kd.R_nil _ _ _ _ _|exact Kd.N_nil _ _ _ _ _|exact Kd.V_nil _ _ _ _ _|exact Kd.Q_nil _ _ _ _ _|exact Kd.S_nil _ _ _ _ _⟩,⟨by (with_reducible repeat (first|apply Kd.V_alloc|apply Kd.V_drewN|apply Kd.V_drew));exact Kd.V_mono HO1_0.out (fun _ hk=>⟨hk.1,⟨(by simp [Value.ownBlock]),hk.2⟩⟩)⟩,⟨by refine zj ?_;exact BK40.out⟩,⟨zv1 HB GE40⟩⟩
   case round=>
    clear H'
    try clear c7
    try clear c7b0
    try clear c7b1
    try clear c12
    try clear c12b0
    try clear c12b1
    try clear hcz10_0
    try clear hcz10_1
    try clear hcz14_0
    try clear hcz14_1
    try clear hfz10_0
    try clear hfz10_1
    try clear hfz14_0
    try clear hfz14_1
    obtain ⟨x8_1,x26_1,rfl,HA,HK1,HO_0,HO_8,HO_42,BK40,HB⟩:=hrel
    cases gk with
    | zero=>exact absurd HA.out (by simp [shared_Implied.l0])
    | succ k1=>
     have H:=HA.out;clear HA;simp only [shared_Implied.l0] at H
     by_cases c15:x26_1<ji13
     ·rw [if_pos c15] at H;have c15b0:decide (x26_1<ji13)=true:=decide_eq_true c15;clear c15;replace H:=Option.bind_eq_some_iff.mp H;obtain ⟨t85,A160,H⟩:=H;replace H:(if t85=true then (shared_Implied.l0 k1 l0 x8_1 ji13 (wrap64 (x26_1+1)) l1_0 l1_1) else ((some (([x26_1]:List Int):List Int)).bind fun y46=>(if x8_1.length+y46.length<17592186044416 then (shared_Implied.l0 k1 l0 (x8_1++y46) ji13 (wrap64 (x26_1+1)) l1_0 l1_1) else (none))))=some (r1,r2):=H;have A16:=zA A160;clear A160;have HC17:=zA H;clear H;have hcz18_0:wr.cell? ⟨gb40,0,none⟩=some (.slice A1_0 l1_0.length c1_0):=(blk_cell BK40.out 0).trans rfl;have hcz18_1:wr.cell? ⟨gb40,1,none⟩=some (.slice A1_1 l1_1.length c1_1):=(blk_cell BK40.out 1).trans rfl;have hfz18_0:=blk_frozen BK40.out 0;have hfz18_1:=blk_frozen BK40.out 1
      go_upto_if 33 with (first|((with_reducible refine gate_callee (f:=15) rfl ?_);refine goesL_ (some 32) rfl rfl Try.func15 zK rfl #[.slice A1_1 l1_1.length c1_1,.int .i64 x26_1] rfl zM ?_;(with_reducible refine (slices_Contains_int_int.calls k1 _ _ l1_1 x26_1 t85 _ ?side1 ?side2 A16.out).mono ?_);(case side1=>exact zC (Kd.C_below HR1_1.out HB.out));(case side2=>exact HC1_1.out);rintro e w' ⟨rfl,⟨nd,rfl⟩⟩;refine ⟨_,rfl,?_⟩))
      (try simp only [Act.put,zi,zs,zt]);have H:=HC17.out;clear HC17
      by_cases c19:t85=true
      ·subst c19
       have H1:(shared_Implied.l0 k1 l0 x8_1 ji13 (wrap64 (x26_1+1)) l1_0 l1_1)=some (r1,r2):=by rw [if_pos rfl] at H;exact H
       clear H;have H:=H1;clear H1;have H':=zA H;clear H
       go_wp2
       go_roundg k1
       case measure=>have:=HK1.out;omega
       case rel=>exact ⟨(x8_1),(wrap64 (x26_1+1)),zT,H',⟨by have:=HK1.out;omega⟩,⟨by (with_reducible repeat (first|apply Kd.V_alloc|apply Kd.V_drewN|apply Kd.V_drew));exact HO_0.out⟩,⟨by refine zr ?_;exact HO_8.out⟩,⟨by (with_reducible repeat (first|apply Kd.V_alloc|apply Kd.V_drewN|apply Kd.V_drew));exact HO_42.out⟩,⟨by refine zj ?_;exact BK40.out⟩,⟨zv1 HB GE40⟩⟩
      ·replace c19:=Bool.eq_false_iff.mpr c19;subst c19
       have H1:((some (([x26_1]:List Int):List Int)).bind fun y46=>(if x8_1.length+y46.length<17592186044416 then (shared_Implied.l0 k1 l0 (x8_1++y46) ji13 (wrap64 (x26_1+1)) l1_0 l1_1) else (none)))=some (r1,r2):=by rw [if_neg (show ¬ (false=true) by decide)] at H;exact H
       clear H;have H:=H1;clear H1
       obtain ⟨y46,hy46⟩:∃ y_:List Int,y_=(([x26_1]:List Int)):=⟨_,rfl⟩
       replace H:(if x8_1.length+y46.length<17592186044416 then (shared_Implied.l0 k1 l0 (x8_1++y46) ji13 (wrap64 (x26_1+1)) l1_0 l1_1) else (none))=some (r1,r2):=by first|(rw [hy46];with_reducible exact H)|(have H2_:=(Option.bind_some _ _).symm.trans H;rw [hy46];with_reducible exact H2_)|(have H2_:=(Option.bind_some _ _).symm.trans H;with_reducible exact H2_)|with_reducible exact H|(rw [hy46];exact H)|exact H
       have Ny46:=zA hy46;clear hy46
       by_cases c20:x8_1.length+y46.length<17592186044416
       ·rw [if_pos c20] at H;have LMc20:=zA c20;clear c20
        obtain ⟨y73,hy73⟩:∃ y_:List Int,y_=(x8_1++y46):=⟨_,rfl⟩
        replace H:(shared_Implied.l0 k1 l0 y73 ji13 (wrap64 (x26_1+1)) l1_0 l1_1)=some (r1,r2):=by first|(rw [hy73];with_reducible exact H)|(have H2_:=(Option.bind_some _ _).symm.trans H;rw [hy73];with_reducible exact H2_)|(have H2_:=(Option.bind_some _ _).symm.trans H;with_reducible exact H2_)|with_reducible exact H|(rw [hy73];exact H)|exact H
        have Ny73:=zA hy73;clear hy73;have H':=zA H;clear H
        go_wp2_with (first|((with_reducible refine gate_dst (N:=36) rfl ?_);refine Kd.R_lit (Kd.int .i64) _ 3 ?hg (N:=36) ?hd (xs:=([x26_1]:List Int)) (inner:=[.int .i64 x26_1]) (ok:=fun _=>True) (okp:=fun _=>True) ?hr ?hp (fun _ hk=>hk) trivial (Below.refl _ _) (Nat.le_refl _) (by simp) ?_;(case hd=>rfl);(case hg=>rfl);(case hr=>first|(go_simp;done)|(go_simp;rfl));(case hp=>exact (Reps.one (show Kd.M (Kd.int .i64) _ _ _ x26_1 [.int .i64 x26_1] from rfl) (Reps.none _ _)));intro v358 w21 ho22 hb hg_ hnew_;clear hg_ hnew_;(first|rw [← Ny46.out] at ho22|(simp only [Int.reduceToNat] at ho22;rw [← Ny46.out] at ho22));have HO86:=zA (Kd.R_lower (Kd.R_new' (Kd.R_newM (M:=fun k_=>(w.heap.size≤k_)) ho22 (below_size zB) (fun k_ h_=>h_)) (Kd.R_lt (zR HO_8))) (below_size zB));replace HO_0:=zA (Kd.V_elder' (zV HO_0) (Kd.R_base ho22) hb);replace HO_8:=zA (Kd.R_elder' (zR HO_8) (Kd.R_base ho22) hb);replace HO_42:=zA (Kd.V_elder' (zV HO_42) (Kd.R_base ho22) hb);replace BK40:=zA (zb BK40 hb);replace HB:=zA (below_step zB hb);clear hb ho22;obtain ⟨Ao24,co24,eo24⟩:=Kd.R_slice HO86.out;subst eo24)|((with_reducible refine gate_builtin (b:=.append) (xs:=#[.tmp 34,.tmp 36]) rfl ?_);at_builtin;refine Kd.R_append_rows (Kd.int .i64) (w0:=w) w.heap.size rfl (.tmp 34) (.tmp 36) 29 3 (.int .i64 0) 8 rfl Try.underlying29 info3 rfl (by decide) (by omega) u8 x8_1 y46 _ _ _ (fun k_=>(w.heap.size≤k_)∧some k_≠(.slice Ao24 y46.length co24:Value).ownBlock) (fun _=>False) rfl rfl ?aO ?aR (fun _ _ h=>h) (fun _ h=>h.elim) ?aF ?aB ?aS ?aL ?_;(case aR=>exact zC (Kd.R_reads' HO86.out).2.2);(case aB=>exact zB);(case aF=>exact (fun k_ hk=>⟨(Nat.le_trans (below_size zB) hk),Kd.fresh' (Kd.R_lt (zR HO86)) k_ hk⟩));(case aO=>exact (zR HO_8));(case aS=>exact (below_size zB));(case aL=>have:=LMc20.out;omega);intro v361 w23 ho hb hg hat;rw [← Ny73.out] at ho;have HO362:=zA (ho);replace HO_0:=zA (Kd.V_afterv (ok:=(fun k_=>((P0_ k_∨P1_0_ k_)∨w.heap.size≤k_)∧some k_≠(.slice Ao24 y46.length co24:Value).ownBlock∧k_≠gb40)) (by (with_reducible repeat (first|apply Kd.V_alloc|apply Kd.V_drewN|apply Kd.V_drew));exact Kd.V_mono HO_0.out (fun _ hk=>⟨⟨hk.1.1,⟨hk.2,hk.1.2.2⟩⟩,hk.1.2.1⟩)) hg hat);replace HO_42:=zA (Kd.V_afterv (ok:=(fun k_=>((P0_ k_∨P1_0_ k_)∨w.heap.size≤k_)∧some k_≠(.slice Ao24 y46.length co24:Value).ownBlock∧k_≠gb40)) (by (with_reducible repeat (first|apply Kd.V_alloc|apply Kd.V_drewN|apply Kd.V_drew));exact Kd.V_mono HO_42.out (fun _ hk=>⟨⟨hk.1.1,⟨hk.2,hk.1.2.2⟩⟩,hk.1.2.1⟩)) hg hat);replace BK40:=zA (blk_grown (g:=gb40) (o:=.cells #[.slice A1_0 l1_0.length c1_0,.slice A1_1 l1_1.length c1_1] 34 (0,0)) (zk BK40) hg (Kd.R_ne HO_8.out BK40.out (by decide)));replace HO86:=zA (Kd.R_after (ok:=(fun k_=>(w.heap.size≤k_))) (by refine zr ?_;exact Kd.R_mono HO86.out (fun _ hk=>⟨hk.1.1,hk.2⟩)) hg hat);replace HB:=zA (hb);clear HO_8;clear ho hb hg hat))
        go_roundg k1
        case measure=>have:=HK1.out;omega
        case rel=>exact ⟨(y73),(wrap64 (x26_1+1)),zT,H',⟨by have:=HK1.out;omega⟩,⟨by (with_reducible repeat (first|apply Kd.V_alloc|apply Kd.V_drewN|apply Kd.V_drew));exact Kd.V_mono HO_0.out (fun _ hk=>⟨hk.1.1,⟨hk.2,hk.1.2.2⟩⟩)⟩,⟨by refine zr ?_;exact Kd.R_mono HO362.out (fun _ hk=>hk.1)⟩,⟨by (with_reducible repeat (first|apply Kd.V_alloc|apply Kd.V_drewN|apply Kd.V_drew));exact Kd.V_mono HO_42.out (fun _ hk=>⟨hk.1.1,⟨hk.2,hk.1.2.2⟩⟩)⟩,⟨by refine zj ?_;exact BK40.out⟩,⟨zv1 HB GE40⟩⟩
       ·rw [if_neg c20] at H;exact absurd H (by simp)
     ·rw [if_neg c15] at H;have c15b0:decide (x26_1<ji13)=false:=decide_eq_false c15;clear c15;replace H:=Option.bind_eq_some_iff.mp H;obtain ⟨t61,A250,H⟩:=H;replace H:((some (([(⟨l1_0,x8_1⟩:S34)]:List (S34)):List (S34))).bind fun y47=>(if t61.length+y47.length<2932031007402 then ((solve_First.f k1 (t61++y47)).bind fun bt79=>(some ((bt79.2 != 0),0))) else (none)))=some (r1,r2):=H;have A25:=zA A250;clear A250
      obtain ⟨y47,hy47⟩:∃ y_:List (S34),y_=(([(⟨l1_0,x8_1⟩:S34)]:List (S34))):=⟨_,rfl⟩
      replace H:(if t61.length+y47.length<2932031007402 then ((solve_First.f k1 (t61++y47)).bind fun bt79=>(some ((bt79.2 != 0),0))) else (none))=some (r1,r2):=by first|(rw [hy47];with_reducible exact H)|(have H2_:=(Option.bind_some _ _).symm.trans H;rw [hy47];with_reducible exact H2_)|(have H2_:=(Option.bind_some _ _).symm.trans H;with_reducible exact H2_)|with_reducible exact H|(rw [hy47];exact H)|exact H
      have Ny47:=zA hy47;clear hy47
      by_cases c26:t61.length+y47.length<2932031007402
      ·rw [if_pos c26] at H;have LMc26:=zA c26;clear c26
       obtain ⟨y72,hy72⟩:∃ y_:List (S34),y_=(t61++y47):=⟨_,rfl⟩
       replace H:((solve_First.f k1 y72).bind fun bt79=>(some ((bt79.2 != 0),0)))=some (r1,r2):=by first|(rw [hy72];with_reducible exact H)|(have H2_:=(Option.bind_some _ _).symm.trans H;rw [hy72];with_reducible exact H2_)|(have H2_:=(Option.bind_some _ _).symm.trans H;with_reducible exact H2_)|with_reducible exact H|(rw [hy72];exact H)|exact H
       have Ny72:=zA hy72;clear hy72;replace H:=Option.bind_eq_some_iff.mp H;obtain ⟨⟨t79,t373⟩,A270,H⟩:=H;replace H:(some ((t373 != 0),0))=some (r1,r2):=H;have A27:=zA A270;clear A270;simp only [Option.some.injEq,Prod.mk.injEq] at H;obtain ⟨rfl,rfl⟩:=H
       try go_wp2
       replace HO_0:=zA (Kd.V_drew HO_0.out);replace HO_8:=zA (Kd.R_drew HO_8.out);replace HO_42:=zA (Kd.V_drew HO_42.out);replace BK40:=zA (blk_drew BK40.out);replace HB:=zA (below_drew1 HB.out);obtain ⟨Ao29,co29,eo29⟩:=Kd.R_slice HO_8.out
       (first|subst eo29|(injection eo29 with f1_ f2_ f3_;have f4_:=f1_.symm;have f5_:=f3_.symm;clear f1_ f2_ f3_;subst f4_;subst f5_))
       refine start_ (n:=14) (S:=fun w'=>w'.cell? ⟨gb40,0,none⟩=some (.slice A1_0 l1_0.length c1_0)∧w'.cell? ⟨gb40,1,none⟩=some (.slice A1_1 l1_1.length c1_1)) (ds:=[]) #[false,false,false,false,false,false,false,false,false,false,false,false,false,false] zK rfl rfl ⟨(blk_cell BK40.out 0).trans rfl,(blk_cell BK40.out 1).trans rfl⟩ (fun hHeld=>?_);refine with_tabW shared_Implied.tab14 shared_Implied.bits14 (fun HT_ HW_=>?_)
       generalize wr.drew=w28 at HO_0 HO_8 HO_42 BK40 HB hHeld ⊢
       refine pure_ (i:=0) (N:=some 40) (v:=?_) (a':=?_) #[true,false,false,false,false,false,false,false,false,false,false,false,false,false] rfl rfl (any_of HT_.out zK) (fun _ _ _ h=>h) (Or.inl ⟨by rfl,?_⟩) ?_ ?_;rotate_left
       ·intro w'
        go_simp
        with_reducible rfl
       rotate_left
       ·simp only [Act.put,zi,zs,zt,i64_w,i32_w];rfl
       refine pure_ (i:=2) (N:=some 42) (v:=?_) (a':=?_) #[true,false,true,false,false,false,false,false,false,false,false,false,false,false] rfl rfl (any_of HT_.out zK) (fun _ _ _ h=>h) (Or.inl ⟨by rfl,?_⟩) ?_ ?_;rotate_left
       ·intro w'
        go_simp
        with_reducible rfl
       rotate_left
       ·simp only [Act.put,zi,zs,zt,i64_w,i32_w];rfl
       refine pure_ (i:=4) (N:=some 44) (v:=?_) (a':=?_) #[true,false,true,false,true,false,false,false,false,false,false,false,false,false] rfl rfl (any_of HT_.out zK) (fun _ _ _ h=>h) (Or.inl ⟨by rfl,?_⟩) ?_ ?_;rotate_left
       ·intro w'
        go_simp
        with_reducible rfl
       rotate_left
       ·simp only [Act.put,zi,zs,zt,i64_w,i32_w];rfl
       refine take_ (i:=3) (N:=some 43) (v:=?_) (a':=?_) #[true,false,true,true,true,false,false,false,false,false,false,false,false,false] rfl rfl (take_ofW HT_.out HW_.out zK) (fun _ _ _ h=>h) (Or.inl ⟨by rfl,?_⟩) hHeld ?_ ?_;rotate_left
       ·rintro w' ⟨s0,s1⟩
        go_simp
        with_reducible rfl
       rotate_left
       ·simp only [Act.put,zi,zs,zt,i64_w,i32_w];rfl
       refine pure_ (i:=5) (N:=some 45) (v:=?_) (a':=?_) #[true,false,true,true,true,true,false,false,false,false,false,false,false,false] rfl rfl (any_of HT_.out zK) (fun _ _ _ h=>h) (Or.inl ⟨by rfl,?_⟩) ?_ ?_;rotate_left
       ·intro w'
        go_simp
        with_reducible rfl
       rotate_left
       ·simp only [Act.put,zi,zs,zt,i64_w,i32_w];rfl
       refine join_ (σ:=Value×Value) 7 #[true,true,true,true,true,true,true,false,false,false,false,false,false,false] (fun s_=>[(41,s_.1),(46,s_.2)]) (fun s_ w'=>(w'.cell? ⟨gb40,0,none⟩=some (.slice A1_0 l1_0.length c1_0)∧w'.cell? ⟨gb40,1,none⟩=some (.slice A1_1 l1_1.length c1_1))∧(Kd.N k34 34 w' w.heap.size (fun k_=>((P0_ k_∨P1_0_ k_)∨w.heap.size≤k_)∧some k_≠(s_.2:Value).ownBlock∧k_≠gb40) s_.1 t61)∧(Kd.N k34 34 w' w.heap.size (fun k_=>((P0_ k_∨P1_0_ k_)∨w.heap.size≤k_)∧some k_≠(s_.1:Value).ownBlock∧k_≠gb40) s_.2 y47)∧(Kd.V k34 34 w' w.heap.size (fun k_=>((P0_ k_∨P1_0_ k_)∨w.heap.size≤k_)∧some k_≠(s_.1:Value).ownBlock∧some k_≠(s_.2:Value).ownBlock∧k_≠gb40) (.slice A0 l0.length c0) l0)∧(Kd.V (Kd.int .i64) 3 w' w.heap.size (fun k_=>((P0_ k_∨P1_0_ k_)∨w.heap.size≤k_)∧some k_≠(s_.1:Value).ownBlock∧some k_≠(s_.2:Value).ownBlock∧k_≠gb40) (.slice A1_0 l1_0.length c1_0) l1_0)∧(w'.heap[gb40]?=some (.cells #[.slice A1_0 l1_0.length c1_0,.slice A1_1 l1_1.length c1_1] 34 (0,0)))∧(Below w.heap.size w w')) ?_ ?_;rotate_left
       ·intro hCont;refine two_ (i:=1) (j:=6) (Ni:=some 41) (Nj:=some 46) #[true,true,true,true,true,true,false,false,false,false,false,false,false,false] #[true,false,true,true,true,true,true,false,false,false,false,false,false,false] rfl rfl rfl rfl (two_of HT_.out zK) (by decide) (by decide) (fun K hK=>?_) (fun K hK=>?_)
        ·skip;refine goes_ Try.func39 zK rfl #[.slice A0 l0.length c0] (by rfl) rfl rfl zM ?_
         with_reducible refine (api_Table_39.calls (fun k_=>(((P0_ k_∨P1_0_ k_)∨w.heap.size≤k_)∧(some k_≠(.slice Ao29 x8_1.length co29:Value).ownBlock∧k_≠gb40))) _ _ l0 t61 _ ?side1 A25.out).mono ?_
         (case side1=>exact HO_0.out);rintro e w30 ⟨v50,rfl,ho0,hb⟩;refine ⟨_,rfl,?_⟩;have HO71:=zA (Kd.N_lower (Kd.N_mono (ok':=fun k_=>((P0_ k_∨P1_0_ k_)∨w.heap.size≤k_)∧some k_≠(.slice Ao29 x8_1.length co29:Value).ownBlock∧k_≠gb40) ho0 (fun k_ hk_=>⟨Or.elim hk_ (fun hs_=>hs_.1) (fun hn_=>(.inr (Nat.le_trans (below_size zB) hn_))),Or.elim hk_ (fun hs_=>hs_.2.1) (fun hn_=>(Kd.fresh' (Kd.R_lt (zR HO_8)) k_ hn_)),Or.elim hk_ (fun hs_=>hs_.2.2) (fun hn_=>(Kd.freshB (g:=gb40) (o:=.cells #[.slice A1_0 l1_0.length c1_0,.slice A1_1 l1_1.length c1_1] 34 (0,0)) (zk BK40) k_ hn_))⟩)) (below_size zB));replace HO_0:=zA (Kd.V_elder' (zV HO_0) (Kd.N_base ho0) hb);replace HO_8:=zA (Kd.R_below (zR HO_8) hb);replace HO_42:=zA (Kd.V_elder' (zV HO_42) (Kd.N_base ho0) hb);replace BK40:=zA (zb BK40 hb);replace HB:=zA (below_step zB hb);(try clear hb);(try clear hb2);(try clear hk);(try clear hi);(try clear ho0);refine hK.out _ _ ⟨(blk_cell BK40.out 0).trans rfl,(blk_cell BK40.out 1).trans rfl⟩ (fun hHeld=>?_);clear hK K;refine norm_ (a':=?_) ?_ ?_;rotate_left
         ·show Act.put _ (some 41) _=_
          simp only [Act.put,zi,zs,zt,i64_w,i32_w];rfl
         refine one_ (i:=6) (N:=some 46) #[true,true,true,true,true,true,true,false,false,false,false,false,false,false] rfl rfl (one_of HT_.out zK) (by decide) (fun K hK=>?_);refine Kd.N_lit_step k34 _ 34 ?hg (N':=46) ?hd (xs:=([(⟨l1_0,x8_1⟩:S34)]:List (S34))) (inner:=[.slice A1_0 l1_0.length c1_0,.slice Ao29 x8_1.length co29]) (ok:=(fun k_=>((P0_ k_∨P1_0_ k_)∨w.heap.size≤k_)∧some k_≠(v50:Value).ownBlock∧k_≠gb40)) (okp:=(fun k_=>((P0_ k_∨P1_0_ k_)∨w.heap.size≤k_)∧some k_≠(v50:Value).ownBlock∧k_≠gb40)) ?hr ?hp (fun _ hk=>hk) ((show ∀ k_,w30.heap.size≤k_→(fun k_=>((P0_ k_∨P1_0_ k_)∨w.heap.size≤k_)∧some k_≠(v50:Value).ownBlock∧k_≠gb40) k_ from fun k_ hk=>⟨(.inr (Nat.le_trans (below_size zB) hk)),Kd.fresh' (Kd.N_lt (zN HO71)) k_ hk,Kd.freshB (g:=gb40) (o:=.cells #[.slice A1_0 l1_0.length c1_0,.slice A1_1 l1_1.length c1_1] 34 (0,0)) (zk BK40) k_ hk⟩) _ (Nat.le_refl _)) (Below.refl _ _) (Nat.le_refl _) (by simp) ?_;(case hd=>rfl);(case hg=>rfl);(case hr=>first|(go_simp;done)|(go_simp;rfl));(case hp=>exact (Reps.c2 (show Kd.FK k34 _ _ (⟨l1_0,x8_1⟩:S34) [.slice A1_0 l1_0.length c1_0,.slice Ao29 x8_1.length co29] from (k34_mkF _ _ (⟨l1_0,x8_1⟩:S34) (Kd.V_reads' (Kd.V_mono (ok':=(fun k_=>((P0_ k_∨P1_0_ k_)∨w.heap.size≤k_)∧some k_≠(v50:Value).ownBlock∧k_≠gb40)) (HO_42.out) (fun k_ hk=>⟨hk.1.1,⟨hk.2,hk.1.2.2⟩⟩))).2.1 (Kd.V_F (Kd.V_mono (ok':=(fun k_=>((P0_ k_∨P1_0_ k_)∨w.heap.size≤k_)∧some k_≠(v50:Value).ownBlock∧k_≠gb40)) (HO_42.out) (fun k_ hk=>⟨hk.1.1,⟨hk.2,hk.1.2.2⟩⟩))) (Kd.R_reads' (Kd.R_mono (ok':=(fun k_=>((P0_ k_∨P1_0_ k_)∨w.heap.size≤k_)∧some k_≠(v50:Value).ownBlock∧k_≠gb40)) (Kd.R_types (Kd.R_apart' (HO_8.out) (Kd.N_typed HO71.out) (by decide)) BK40.out (by decide)) (fun k_ hk=>⟨(.inr (hk.1.1)),⟨hk.1.2,hk.2⟩⟩))).2.1 (Kd.R_F (Kd.R_mono (ok':=(fun k_=>((P0_ k_∨P1_0_ k_)∨w.heap.size≤k_)∧some k_≠(v50:Value).ownBlock∧k_≠gb40)) (Kd.R_types (Kd.R_apart' (HO_8.out) (Kd.N_typed HO71.out) (by decide)) BK40.out (by decide)) (fun k_ hk=>⟨(.inr (hk.1.1)),⟨hk.1.2,hk.2⟩⟩))))) (Reps.none _ _)));intro v74 w31 ho32 hb hg_ hnew_;clear hg_ hnew_
         (first|rw [← Ny47.out] at ho32|(simp only [Int.reduceToNat] at ho32;rw [← Ny47.out] at ho32))
         have HO66:=zA (Kd.N_lower ho32 (below_size zB));replace HO_0:=zA (Kd.V_elder' (zV HO_0) (Kd.N_base ho32) hb);replace HO_42:=zA (Kd.V_elder' (zV HO_42) (Kd.N_base ho32) hb);replace HO71:=zA (Kd.N_elder' (zN HO71) (Kd.N_base ho32) hb);replace BK40:=zA (zb BK40 hb);replace HB:=zA (below_step zB hb);clear HO_8;clear hb ho32;refine hK.out _ _ ⟨(blk_cell BK40.out 0).trans rfl,(blk_cell BK40.out 1).trans rfl⟩ (fun hHeld=>?_);clear hK K;refine norm_ (a':=?_) ?_ ?_;rotate_left
         ·show Act.put _ (some 46) _=_
          simp only [Act.put,zi,zs,zt,i64_w,i32_w];rfl
         exact norm_ (by simp only [putAll,Act.put,zi,zs,zt]) (hCont (v50,v74) _ ⟨hHeld,(by (with_reducible repeat (first|apply Kd.N_alloc|apply Kd.N_drewN|apply Kd.N_drew));exact Kd.N_mono HO71.out (fun _ hk=>⟨hk.1.1,⟨hk.2,hk.1.2.2⟩⟩)),(zN HO66),(by (with_reducible repeat (first|apply Kd.V_alloc|apply Kd.V_drewN|apply Kd.V_drew));exact Kd.V_mono HO_0.out (fun _ hk=>⟨hk.1.1.1,⟨hk.1.2,⟨hk.2,hk.1.1.2.2⟩⟩⟩)),(by (with_reducible repeat (first|apply Kd.V_alloc|apply Kd.V_drewN|apply Kd.V_drew));exact Kd.V_mono HO_42.out (fun _ hk=>⟨hk.1.1.1,⟨hk.1.2,⟨hk.2,hk.1.1.2.2⟩⟩⟩)),(zk BK40),zB⟩)
        ·skip;refine Kd.N_lit_step k34 _ 34 ?hg (N':=46) ?hd (xs:=([(⟨l1_0,x8_1⟩:S34)]:List (S34))) (inner:=[.slice A1_0 l1_0.length c1_0,.slice Ao29 x8_1.length co29]) (ok:=(fun k_=>((P0_ k_∨P1_0_ k_)∨w.heap.size≤k_)∧k_≠gb40)) (okp:=(fun k_=>((P0_ k_∨P1_0_ k_)∨w.heap.size≤k_)∧k_≠gb40)) ?hr ?hp (fun _ hk=>hk) ((show ∀ k_,w28.heap.size≤k_→(fun k_=>((P0_ k_∨P1_0_ k_)∨w.heap.size≤k_)∧k_≠gb40) k_ from fun k_ hk=>⟨(.inr (Nat.le_trans (below_size zB) hk)),Kd.freshB (g:=gb40) (o:=.cells #[.slice A1_0 l1_0.length c1_0,.slice A1_1 l1_1.length c1_1] 34 (0,0)) (zk BK40) k_ hk⟩) _ (Nat.le_refl _)) (Below.refl _ _) (Nat.le_refl _) (by simp) ?_;(case hd=>rfl);(case hg=>rfl);(case hr=>first|(go_simp;done)|(go_simp;rfl));(case hp=>exact (Reps.c2 (show Kd.FK k34 _ _ (⟨l1_0,x8_1⟩:S34) [.slice A1_0 l1_0.length c1_0,.slice Ao29 x8_1.length co29] from (k34_mkF _ _ (⟨l1_0,x8_1⟩:S34) (Kd.V_reads' (Kd.V_mono (ok':=(fun k_=>((P0_ k_∨P1_0_ k_)∨w.heap.size≤k_)∧k_≠gb40)) (HO_42.out) (fun k_ hk=>⟨hk.1,hk.2.2⟩))).2.1 (Kd.V_F (Kd.V_mono (ok':=(fun k_=>((P0_ k_∨P1_0_ k_)∨w.heap.size≤k_)∧k_≠gb40)) (HO_42.out) (fun k_ hk=>⟨hk.1,hk.2.2⟩))) (Kd.R_reads' (Kd.R_mono (ok':=(fun k_=>((P0_ k_∨P1_0_ k_)∨w.heap.size≤k_)∧k_≠gb40)) (Kd.R_types (HO_8.out) BK40.out (by decide)) (fun k_ hk=>⟨(.inr (hk.1)),hk.2⟩))).2.1 (Kd.R_F (Kd.R_mono (ok':=(fun k_=>((P0_ k_∨P1_0_ k_)∨w.heap.size≤k_)∧k_≠gb40)) (Kd.R_types (HO_8.out) BK40.out (by decide)) (fun k_ hk=>⟨(.inr (hk.1)),hk.2⟩))))) (Reps.none _ _)));intro v74 w30 ho31 hb hg_ hnew_;clear hg_ hnew_
         (first|rw [← Ny47.out] at ho31|(simp only [Int.reduceToNat] at ho31;rw [← Ny47.out] at ho31))
         have HO66:=zA (Kd.N_lower ho31 (below_size zB));replace HO_0:=zA (Kd.V_elder' (zV HO_0) (Kd.N_base ho31) hb);replace HO_42:=zA (Kd.V_elder' (zV HO_42) (Kd.N_base ho31) hb);replace BK40:=zA (zb BK40 hb);replace HB:=zA (below_step zB hb);clear HO_8;clear hb ho31;refine hK.out _ _ ⟨(blk_cell BK40.out 0).trans rfl,(blk_cell BK40.out 1).trans rfl⟩ (fun hHeld=>?_);clear hK K;refine norm_ (a':=?_) ?_ ?_;rotate_left
         ·show Act.put _ (some 46) _=_
          simp only [Act.put,zi,zs,zt,i64_w,i32_w];rfl
         refine one_ (i:=1) (N:=some 41) #[true,true,true,true,true,true,true,false,false,false,false,false,false,false] rfl rfl (one_of HT_.out zK) (by decide) (fun K hK=>?_);refine goes_ Try.func39 zK rfl #[.slice A0 l0.length c0] (by rfl) rfl rfl zM ?_
         with_reducible refine (api_Table_39.calls (fun k_=>((((P0_ k_∨P1_0_ k_)∨w.heap.size≤k_)∧(some k_≠(.slice Ao29 x8_1.length co29:Value).ownBlock∧k_≠gb40))∧some k_≠(v74:Value).ownBlock)) _ _ l0 t61 _ ?side1 A25.out).mono ?_
         (case side1=>exact HO_0.out);rintro e w32 ⟨v50,rfl,ho0,hb⟩;refine ⟨_,rfl,?_⟩;have HO71:=zA (Kd.N_lower (Kd.N_mono (ok':=fun k_=>((P0_ k_∨P1_0_ k_)∨w.heap.size≤k_)∧some k_≠(v74:Value).ownBlock∧k_≠gb40) ho0 (fun k_ hk_=>⟨Or.elim hk_ (fun hs_=>hs_.1.1) (fun hn_=>(.inr (Nat.le_trans (below_size zB) hn_))),Or.elim hk_ (fun hs_=>hs_.2) (fun hn_=>(Kd.fresh' (Kd.N_lt (zN HO66)) k_ hn_)),Or.elim hk_ (fun hs_=>hs_.1.2.2) (fun hn_=>(Kd.freshB (g:=gb40) (o:=.cells #[.slice A1_0 l1_0.length c1_0,.slice A1_1 l1_1.length c1_1] 34 (0,0)) (zk BK40) k_ hn_))⟩)) (below_size zB));replace HO_0:=zA (Kd.V_elder' (zV HO_0) (Kd.N_base ho0) hb);replace HO_42:=zA (Kd.V_elder' (zV HO_42) (Kd.N_base ho0) hb);replace HO66:=zA (Kd.N_elder' (zN HO66) (Kd.N_base ho0) hb);replace BK40:=zA (zb BK40 hb);replace HB:=zA (below_step zB hb);(try clear hb);(try clear hb2);(try clear hk);(try clear hi);(try clear ho0);refine hK.out _ _ ⟨(blk_cell BK40.out 0).trans rfl,(blk_cell BK40.out 1).trans rfl⟩ (fun hHeld=>?_);clear hK K;refine norm_ (a':=?_) ?_ ?_;rotate_left
         ·show Act.put _ (some 41) _=_
          simp only [Act.put,zi,zs,zt,i64_w,i32_w];rfl
         exact norm_ (by simp only [putAll,Act.put,zi,zs,zt]) (hCont (v50,v74) _ ⟨hHeld,(zN HO71),(by (with_reducible repeat (first|apply Kd.N_alloc|apply Kd.N_drewN|apply Kd.N_drew));exact Kd.N_mono HO66.out (fun _ hk=>⟨hk.1.1,⟨hk.2,hk.1.2⟩⟩)),(by (with_reducible repeat (first|apply Kd.V_alloc|apply Kd.V_drewN|apply Kd.V_drew));exact Kd.V_mono HO_0.out (fun _ hk=>⟨hk.1.1.1,⟨hk.2,⟨hk.1.2,hk.1.1.2.2⟩⟩⟩)),(by (with_reducible repeat (first|apply Kd.V_alloc|apply Kd.V_drewN|apply Kd.V_drew));exact Kd.V_mono HO_42.out (fun _ hk=>⟨hk.1.1.1,⟨hk.2,⟨hk.1.2,hk.1.1.2.2⟩⟩⟩)),(zk BK40),zB⟩)
       rintro ⟨v50,v74⟩ w33 ⟨hS_,h0_,h1_,h2_,h3_,h4_,h5_⟩
       have HO71:Aside0 (Kd.N k34 34 w33 w.heap.size (fun k_=>((P0_ k_∨P1_0_ k_)∨w.heap.size≤k_)∧some k_≠(v74:Value).ownBlock∧k_≠gb40) v50 t61):=⟨h0_⟩
       have HO66:Aside0 (Kd.N k34 34 w33 w.heap.size (fun k_=>((P0_ k_∨P1_0_ k_)∨w.heap.size≤k_)∧some k_≠(v50:Value).ownBlock∧k_≠gb40) v74 y47):=⟨h1_⟩
       replace HO_0:Aside0 (Kd.V k34 34 w33 w.heap.size (fun k_=>((P0_ k_∨P1_0_ k_)∨w.heap.size≤k_)∧some k_≠(v50:Value).ownBlock∧some k_≠(v74:Value).ownBlock∧k_≠gb40) (.slice A0 l0.length c0) l0):=⟨h2_⟩
       replace HO_42:Aside0 (Kd.V (Kd.int .i64) 3 w33 w.heap.size (fun k_=>((P0_ k_∨P1_0_ k_)∨w.heap.size≤k_)∧some k_≠(v50:Value).ownBlock∧some k_≠(v74:Value).ownBlock∧k_≠gb40) (.slice A1_0 l1_0.length c1_0) l1_0):=⟨h3_⟩
       replace BK40:Aside0 (w33.heap[gb40]?=some (.cells #[.slice A1_0 l1_0.length c1_0,.slice A1_1 l1_1.length c1_1] 34 (0,0))):=⟨h4_⟩
       replace HB:Aside0 (Below w.heap.size w w33):=⟨h5_⟩
       clear HO_8 h0_ h1_ h2_ h3_ h4_ h5_;have hHeld:w33.cell? ⟨gb40,0,none⟩=some (.slice A1_0 l1_0.length c1_0)∧w33.cell? ⟨gb40,1,none⟩=some (.slice A1_1 l1_1.length c1_1):=hS_;obtain ⟨Ao35,co35,eo35⟩:=Kd.N_slice HO66.out
       (first|subst eo35|(injection eo35 with f1_ f2_ f3_;have f4_:=f1_.symm;have f5_:=f3_.symm;clear f1_ f2_ f3_;subst f4_;subst f5_))
       refine norm_ (a':=?_) ?_ ?_;rotate_left
       ·simp only [putAll,Act.put,zi,zs,zt];rfl
       refine one_ (i:=7) (N:=some 47) #[true,true,true,true,true,true,true,true,false,false,false,false,false,false] rfl rfl (one_of HT_.out zK) (by decide) (fun K hK=>?_);refine Kd.N_append_rows_step k34 (w0:=w) w.heap.size (by rfl) (.tmp 41) (.tmp 46) 22 34 (.agg #[(.slice none 0 0),(.slice none 0 0)]) 48 rfl Try.underlying22 info34 rfl (by decide) (by omega) v50 t61 y47 _ _ _ (fun k_=>((P0_ k_∨P1_0_ k_)∨w.heap.size≤k_)∧k_≠gb40) (fun k_=>((fun k_=>((P0_ k_∨P1_0_ k_)∨w.heap.size≤k_)∧k_≠gb40)) k_∧some k_≠(v50:Value).ownBlock) rfl rfl ?aO ?aR (fun _ hk=>hk) ?aF ?aB ?aS ?aL ?_;(case aR=>exact (by skip;exact Kd.N_F (Kd.N_mono (ok':=(fun k_=>((fun k_=>((P0_ k_∨P1_0_ k_)∨w.heap.size≤k_)∧k_≠gb40)) k_∧some k_≠(v50:Value).ownBlock)) (HO66.out) (fun k_ hk=>⟨⟨hk.1,hk.2.2⟩,hk.2.1⟩))));(case aB=>exact zB);(case aF=>exact (fun k_ hk=>⟨(.inr (Nat.le_trans (below_size zB) hk)),Kd.freshB (g:=gb40) (o:=.cells #[.slice A1_0 l1_0.length c1_0,.slice A1_1 l1_1.length c1_1] 34 (0,0)) (zk BK40) k_ hk⟩));(case aO=>exact (by (with_reducible repeat (first|apply Kd.N_alloc|apply Kd.N_drewN|apply Kd.N_drew));exact Kd.N_mono HO71.out (fun _ hk=>⟨hk.1,hk.2.2⟩)));(case aS=>exact (below_size zB));(case aL=>have:=LMc26.out;omega);intro v370 w34 ho hb hg hat;rw [← Ny72.out] at ho;have HO87:=zA (ho);replace HO_0:=zA (Kd.V_afterv (ok:=(fun k_=>((P0_ k_∨P1_0_ k_)∨w.heap.size≤k_)∧some k_≠(.slice Ao35 y47.length co35:Value).ownBlock∧k_≠gb40)) (by (with_reducible repeat (first|apply Kd.V_alloc|apply Kd.V_drewN|apply Kd.V_drew));exact Kd.V_mono HO_0.out (fun _ hk=>⟨⟨hk.1,⟨hk.2.2.1,hk.2.2.2⟩⟩,hk.2.1⟩)) hg hat);replace HO_42:=zA (Kd.V_afterv (ok:=(fun k_=>((P0_ k_∨P1_0_ k_)∨w.heap.size≤k_)∧some k_≠(.slice Ao35 y47.length co35:Value).ownBlock∧k_≠gb40)) (by (with_reducible repeat (first|apply Kd.V_alloc|apply Kd.V_drewN|apply Kd.V_drew));exact Kd.V_mono HO_42.out (fun _ hk=>⟨⟨hk.1,⟨hk.2.2.1,hk.2.2.2⟩⟩,hk.2.1⟩)) hg hat);replace BK40:=zA (blk_grown (g:=gb40) (o:=.cells #[.slice A1_0 l1_0.length c1_0,.slice A1_1 l1_1.length c1_1] 34 (0,0)) (zk BK40) hg (Kd.N_away HO71.out (fun _ hk=>hk.2.2)));replace HO66:=zA (Kd.N_afterv (ok:=(fun k_=>((P0_ k_∨P1_0_ k_)∨w.heap.size≤k_)∧k_≠gb40)) (by (with_reducible repeat (first|apply Kd.N_alloc|apply Kd.N_drewN|apply Kd.N_drew));exact Kd.N_mono HO66.out (fun _ hk=>⟨⟨hk.1,hk.2.2⟩,hk.2.1⟩)) hg hat);replace HB:=zA (hb);clear HO71;clear ho hb hg hat;obtain ⟨Ao36,co36,eo36⟩:=Kd.N_slice HO87.out
       (first|subst eo36|(injection eo36 with f1_ f2_ f3_;have f4_:=f1_.symm;have f5_:=f3_.symm;clear f1_ f2_ f3_;subst f4_;subst f5_))
       refine hK.out _ _ ⟨(blk_cell BK40.out 0).trans rfl,(blk_cell BK40.out 1).trans rfl⟩ (fun hHeld=>?_);clear hK K;refine norm_ (a':=?_) ?_ ?_;rotate_left
       ·show Act.put _ (some 47) _=_
        simp only [Act.put,zi,zs,zt,i64_w,i32_w];rfl
       refine one_ (i:=8) (N:=some 48) #[true,true,true,true,true,true,true,true,true,false,false,false,false,false] rfl rfl (one_of HT_.out zK) (by decide) (fun K hK=>?_);refine goes_ Try.func38 zK rfl #[.slice Ao36 y72.length co36] (by rfl) rfl rfl zM ?_
       with_reducible refine (solve_First.calls k1 _ _ y72 t79 t373 _ ?side1 ?side2 A27.out).mono ?_
       (case side1=>exact zC (Kd.N_reads' HO87.out).2.2);(case side2=>exact (Kd.N_reads' HO87.out).2.1);rintro e w37 ⟨rfl,hb⟩;refine ⟨_,rfl,?_⟩;replace HO_0:=zA (Kd.V_below (zV HO_0) hb);replace HO_42:=zA (Kd.V_below (zV HO_42) hb);replace HO66:=zA (Kd.N_below (zN HO66) hb);replace HO87:=zA (Kd.N_below (zN HO87) hb);replace BK40:=zA (zb BK40 hb);replace HB:=zA (below_step zB hb);(try clear hb);(try clear hb2);(try clear hk);(try clear hi);refine hK.out _ _ ⟨(blk_cell BK40.out 0).trans rfl,(blk_cell BK40.out 1).trans rfl⟩ (fun hHeld=>?_);clear hK K;refine norm_ (a':=?_) ?_ ?_;rotate_left
       ·show Act.put _ (some 48) _=_
        simp only [Act.put,zi,zs,zt,i64_w,i32_w];rfl
       refine pure_ (i:=9) (N:=some 39) (v:=?_) (a':=?_) #[true,true,true,true,true,true,true,true,true,true,false,false,false,false] rfl rfl (any_of HT_.out zK) (fun _ _ _ h=>h) (Or.inl ⟨by rfl,?_⟩) ?_ ?_;rotate_left
       ·intro w'
        go_simp
        with_reducible rfl
       rotate_left
       ·simp only [Act.put,zi,zs,zt,i64_w,i32_w];rfl
       refine pure_ (i:=10) (N:=some 49) (v:=?_) (a':=?_) #[true,true,true,true,true,true,true,true,true,true,true,false,false,false] rfl rfl (any_of HT_.out zK) (fun _ _ _ h=>h) (Or.inl ⟨by rfl,?_⟩) ?_ ?_;rotate_left
       ·intro w'
        go_simp
        with_reducible rfl
       rotate_left
       ·simp only [Act.put,zi,zs,zt,i64_w,i32_w];rfl
       refine pure_ (i:=11) (N:=some 50) (v:=?_) (a':=?_) #[true,true,true,true,true,true,true,true,true,true,true,true,false,false] rfl rfl (any_of HT_.out zK) (fun _ _ _ h=>h) (Or.inl ⟨by rfl,?_⟩) ?_ ?_;rotate_left
       ·intro w'
        go_simp
        with_reducible rfl
       rotate_left
       ·simp only [Act.put,zi,zs,zt,i64_w,i32_w];rfl
       refine pure_ (i:=12) (N:=some 10) (v:=?_) (a':=?_) #[true,true,true,true,true,true,true,true,true,true,true,true,true,false] rfl rfl (any_of HT_.out zK) (fun _ _ _ h=>h) (Or.inl ⟨by rfl,?_⟩) ?_ ?_;rotate_left
       ·intro w'
        go_simp
        with_reducible rfl
       rotate_left
       ·simp only [Act.put,zi,zs,zt,i64_w,i32_w];rfl
       refine pure_ (i:=13) (N:=some 11) (v:=?_) (a':=?_) #[true,true,true,true,true,true,true,true,true,true,true,true,true,true] rfl rfl (any_of HT_.out zK) (fun _ _ _ h=>h) (Or.inl ⟨by rfl,?_⟩) ?_ ?_;rotate_left
       ·intro w'
        go_simp
        with_reducible rfl
       rotate_left
       ·simp only [Act.put,zi,zs,zt,i64_w,i32_w];rfl
       refine done_ (done_of HT_.out zK) ?_
       try go_wp2
       go_ret2
       exact ⟨by first|rfl|(simp [errW_none,errW_some] <;> rfl)|(simp only [← hji13];first|rfl|(simp [errW_none,errW_some] <;> rfl))|(simp [*,errW_none,errW_some] <;> rfl),zv1 HB GE40⟩
      ·rw [if_neg c26] at H;exact absurd H (by simp)
  ·rw [if_neg c12] at H;have c12b0:(t53 == 0)=false:=beq_eq_false_iff_ne.mpr c12;have c12b1:(t53 != 0)=true:=bne_iff_ne.mpr c12
   (first|rw [c12b0]|(simp only [i64_w,i32_w];rw [c12b0])|skip)
   (try rw [c12b1]);simp only [Option.some.injEq,Prod.mk.injEq] at H;obtain ⟨rfl,rfl⟩:=H
   go_wp2
   go_ret2
   exact ⟨ze,zv1 HB GE40⟩
 ·rw [if_neg c7] at H;have c7b0:(t62 == 0)=false:=beq_eq_false_iff_ne.mpr c7;have c7b1:(t62 != 0)=true:=bne_iff_ne.mpr c7
  (first|rw [c7b0]|(simp only [i64_w,i32_w];rw [c7b0])|skip)
  (try rw [c7b1]);simp only [Option.some.injEq,Prod.mk.injEq] at H;obtain ⟨rfl,rfl⟩:=H
  go_wp2
  go_ret2
  exact ⟨ze,zv1 HB GE40⟩
def ancepslaw41_example.f :Option ((List (S34))):=some (([(⟨(([0,1]:List Int)),(([1,2]:List Int))⟩:S34),(⟨(([1,2]:List Int)),(([0,3]:List Int))⟩:S34)]:List (S34)))
set_option maxHeartbeats 8000000 in
set_option maxRecDepth 100000 in
theorem ancepslaw41_example.calls  (r:List (S34)) (w:World) (h:ancepslaw41_example.f =some r) :
  Calls Try.prog 20 #[] w fun e w'=>∃ v0_:Value,e=.returned (v0_)∧Kd.N k34 34 w' w.heap.size (fun k_=>(w.heap.size≤k_)) v0_ r∧Below w.heap.size w w':=by
 have hu34:=Try.underlying34;have HB:=zA (Below.refl w.heap.size w);have H:(some (([(⟨(([0,1]:List Int)),(([1,2]:List Int))⟩:S34),(⟨(([1,2]:List Int)),(([0,3]:List Int))⟩:S34)]:List (S34))))=some r:=h;clear h
 obtain ⟨y49,hy49⟩:∃ y_:List Int,y_=(([0,1]:List Int)):=⟨_,rfl⟩
 replace H:(some (([(⟨y49,(([1,2]:List Int))⟩:S34),(⟨(([1,2]:List Int)),(([0,3]:List Int))⟩:S34)]:List (S34))))=some r:=by first|(rw [hy49];with_reducible exact H)|(have H2_:=(Option.bind_some _ _).symm.trans H;rw [hy49];with_reducible exact H2_)|(have H2_:=(Option.bind_some _ _).symm.trans H;with_reducible exact H2_)|with_reducible exact H|(rw [hy49];exact H)|exact H
 have Ny49:=zA hy49;clear hy49
 obtain ⟨y51,hy51⟩:∃ y_:List Int,y_=(([1,2]:List Int)):=⟨_,rfl⟩
 replace H:(some (([(⟨y49,y51⟩:S34),(⟨(([1,2]:List Int)),(([0,3]:List Int))⟩:S34)]:List (S34))))=some r:=by first|(rw [hy51];with_reducible exact H)|(have H2_:=(Option.bind_some _ _).symm.trans H;rw [hy51];with_reducible exact H2_)|(have H2_:=(Option.bind_some _ _).symm.trans H;with_reducible exact H2_)|with_reducible exact H|(rw [hy51];exact H)|exact H
 have Ny51:=zA hy51;clear hy51
 obtain ⟨y54,hy54⟩:∃ y_:List Int,y_=(([1,2]:List Int)):=⟨_,rfl⟩
 replace H:(some (([(⟨y49,y51⟩:S34),(⟨y54,(([0,3]:List Int))⟩:S34)]:List (S34))))=some r:=by first|(rw [hy54];with_reducible exact H)|(have H2_:=(Option.bind_some _ _).symm.trans H;rw [hy54];with_reducible exact H2_)|(have H2_:=(Option.bind_some _ _).symm.trans H;with_reducible exact H2_)|with_reducible exact H|(rw [hy54];exact H)|exact H
 have Ny54:=zA hy54;clear hy54
 obtain ⟨y56,hy56⟩:∃ y_:List Int,y_=(([0,3]:List Int)):=⟨_,rfl⟩
 replace H:(some (([(⟨y49,y51⟩:S34),(⟨y54,y56⟩:S34)]:List (S34))))=some r:=by first|(rw [hy56];with_reducible exact H)|(have H2_:=(Option.bind_some _ _).symm.trans H;rw [hy56];with_reducible exact H2_)|(have H2_:=(Option.bind_some _ _).symm.trans H;with_reducible exact H2_)|with_reducible exact H|(rw [hy56];exact H)|exact H
 have Ny56:=zA hy56;clear hy56
 obtain ⟨y75,hy75⟩:∃ y_:List (S34),y_=(([(⟨y49,y51⟩:S34),(⟨y54,y56⟩:S34)]:List (S34))):=⟨_,rfl⟩
 replace H:(some y75)=some r:=by first|(rw [hy75];with_reducible exact H)|(have H2_:=(Option.bind_some _ _).symm.trans H;rw [hy75];with_reducible exact H2_)|(have H2_:=(Option.bind_some _ _).symm.trans H;with_reducible exact H2_)|with_reducible exact H|(rw [hy75];exact H)|exact H
 have Ny75:=zA hy75;clear hy75;obtain rfl:=Option.some.inj H
 go_enter Try.func20,Try.ntmps20
 go_wp2_with (first|((with_reducible refine gate_dst (N:=1) rfl ?_);refine Kd.R_lit (Kd.int .i64) _ 3 ?hg (N:=1) ?hd (xs:=([0,1]:List Int)) (inner:=[.int .i64 0,.int .i64 1]) (ok:=fun _=>True) (okp:=fun _=>True) ?hr ?hp (fun _ hk=>hk) trivial (Below.refl _ _) (Nat.le_refl _) (by simp) ?_;(case hd=>rfl);(case hg=>rfl);(case hr=>first|(go_simp;done)|(go_simp;rfl));(case hp=>exact (Reps.one (show Kd.M (Kd.int .i64) _ _ _ 0 [.int .i64 0] from rfl) (Reps.one (show Kd.M (Kd.int .i64) _ _ _ 1 [.int .i64 1] from rfl) (Reps.none _ _))));intro v375 w1 ho2 hb hg_ hnew_;clear hg_ hnew_;(first|rw [← Ny49.out] at ho2|(simp only [Int.reduceToNat] at ho2;rw [← Ny49.out] at ho2));have HO67:=zA (Kd.R_lower (Kd.R_newM (M:=fun k_=>(w.heap.size≤k_)) ho2 (below_size zB) (fun k_ h_=>h_)) (below_size zB));replace HB:=zA (below_step zB hb);clear hb ho2)|((with_reducible refine gate_dst (N:=2) rfl ?_);refine Kd.R_lit (Kd.int .i64) _ 3 ?hg (N:=2) ?hd (xs:=([1,2]:List Int)) (inner:=[.int .i64 1,.int .i64 2]) (ok:=fun _=>True) (okp:=fun _=>True) ?hr ?hp (fun _ hk=>hk) trivial (Below.refl _ _) (Nat.le_refl _) (by simp) ?_;(case hd=>rfl);(case hg=>rfl);(case hr=>first|(go_simp;done)|(go_simp;rfl));(case hp=>exact (Reps.one (show Kd.M (Kd.int .i64) _ _ _ 1 [.int .i64 1] from rfl) (Reps.one (show Kd.M (Kd.int .i64) _ _ _ 2 [.int .i64 2] from rfl) (Reps.none _ _))));intro v378 w3 ho4 hb hg_ hnew_;clear hg_ hnew_;(first|rw [← Ny51.out] at ho4|(simp only [Int.reduceToNat] at ho4;rw [← Ny51.out] at ho4));have HO76:=zA (Kd.R_lower (Kd.R_new' (Kd.R_newM (M:=fun k_=>(w.heap.size≤k_)) ho4 (below_size zB) (fun k_ h_=>h_)) (Kd.R_lt (zR HO67))) (below_size zB));replace HO67:=zA (Kd.R_elder' (zR HO67) (Kd.R_base ho4) hb);replace HB:=zA (below_step zB hb);clear hb ho4;obtain ⟨Ao5,co5,eo5⟩:=Kd.R_slice HO76.out;subst eo5;obtain ⟨Ao6,co6,eo6⟩:=Kd.R_slice HO67.out;subst eo6)|((with_reducible refine gate_dst (N:=4) rfl ?_);refine Kd.R_lit (Kd.int .i64) _ 3 ?hg (N:=4) ?hd (xs:=([1,2]:List Int)) (inner:=[.int .i64 1,.int .i64 2]) (ok:=fun _=>True) (okp:=fun _=>True) ?hr ?hp (fun _ hk=>hk) trivial (Below.refl _ _) (Nat.le_refl _) (by simp) ?_;(case hd=>rfl);(case hg=>rfl);(case hr=>first|(go_simp;done)|(go_simp;rfl));(case hp=>exact (Reps.one (show Kd.M (Kd.int .i64) _ _ _ 1 [.int .i64 1] from rfl) (Reps.one (show Kd.M (Kd.int .i64) _ _ _ 2 [.int .i64 2] from rfl) (Reps.none _ _))));intro v381 w7 ho8 hb hg_ hnew_;clear hg_ hnew_;(first|rw [← Ny54.out] at ho8|(simp only [Int.reduceToNat] at ho8;rw [← Ny54.out] at ho8));have HO82:=zA (Kd.R_lower (Kd.R_new' (Kd.R_new' (Kd.R_newM (M:=fun k_=>(w.heap.size≤k_)) ho8 (below_size zB) (fun k_ h_=>h_)) (Kd.R_lt (zR HO67))) (Kd.R_lt (zR HO76))) (below_size zB));replace HO67:=zA (Kd.R_elder' (zR HO67) (Kd.R_base ho8) hb);replace HO76:=zA (Kd.R_elder' (zR HO76) (Kd.R_base ho8) hb);replace HB:=zA (below_step zB hb);clear hb ho8)|((with_reducible refine gate_dst (N:=5) rfl ?_);refine Kd.R_lit (Kd.int .i64) _ 3 ?hg (N:=5) ?hd (xs:=([0,3]:List Int)) (inner:=[.int .i64 0,.int .i64 3]) (ok:=fun _=>True) (okp:=fun _=>True) ?hr ?hp (fun _ hk=>hk) trivial (Below.refl _ _) (Nat.le_refl _) (by simp) ?_;(case hd=>rfl);(case hg=>rfl);(case hr=>first|(go_simp;done)|(go_simp;rfl));(case hp=>exact (Reps.one (show Kd.M (Kd.int .i64) _ _ _ 0 [.int .i64 0] from rfl) (Reps.one (show Kd.M (Kd.int .i64) _ _ _ 3 [.int .i64 3] from rfl) (Reps.none _ _))));intro v384 w9 ho10 hb hg_ hnew_;clear hg_ hnew_;(first|rw [← Ny56.out] at ho10|(simp only [Int.reduceToNat] at ho10;rw [← Ny56.out] at ho10));have HO94:=zA (Kd.R_lower (Kd.R_new' (Kd.R_new' (Kd.R_new' (Kd.R_newM (M:=fun k_=>(w.heap.size≤k_)) ho10 (below_size zB) (fun k_ h_=>h_)) (Kd.R_lt (zR HO67))) (Kd.R_lt (zR HO76))) (Kd.R_lt (zR HO82))) (below_size zB));replace HO67:=zA (Kd.R_elder' (zR HO67) (Kd.R_base ho10) hb);replace HO76:=zA (Kd.R_elder' (zR HO76) (Kd.R_base ho10) hb);replace HO82:=zA (Kd.R_elder' (zR HO82) (Kd.R_base ho10) hb);replace HB:=zA (below_step zB hb);clear hb ho10;obtain ⟨Ao11,co11,eo11⟩:=Kd.R_slice HO94.out;subst eo11;obtain ⟨Ao12,co12,eo12⟩:=Kd.R_slice HO82.out;subst eo12)|((with_reducible refine gate_dst (N:=7) rfl ?_);refine Kd.N_lit k34 _ 34 ?hg (N':=7) ?hd (xs:=([(⟨y49,y51⟩:S34),(⟨y54,y56⟩:S34)]:List (S34))) (inner:=[.slice Ao6 y49.length co6,.slice Ao5 y51.length co5,.slice Ao12 y54.length co12,.slice Ao11 y56.length co11]) (ok:=(fun k_=>(w.heap.size≤k_))) (okp:=(fun k_=>(w.heap.size≤k_))) ?hr ?hp (fun _ hk=>hk) ((show ∀ k_,w9.heap.size≤k_→(fun k_=>(w.heap.size≤k_)) k_ from fun k_ hk=>(Nat.le_trans (below_size zB) hk)) _ (Nat.le_refl _)) (Below.refl _ _) (Nat.le_refl _) (by simp) ?_;(case hd=>rfl);(case hg=>rfl);(case hr=>first|(go_simp;done)|(go_simp;rfl));(case hp=>exact (Reps.c2 (show Kd.FK k34 _ _ (⟨y49,y51⟩:S34) [.slice Ao6 y49.length co6,.slice Ao5 y51.length co5] from (k34_mkF _ _ (⟨y49,y51⟩:S34) (Kd.R_reads' (Kd.R_mono (ok':=(fun k_=>(w.heap.size≤k_))) (HO67.out) (fun k_ hk=>hk.1.1.1.1))).2.1 (Kd.R_F (Kd.R_mono (ok':=(fun k_=>(w.heap.size≤k_))) (HO67.out) (fun k_ hk=>hk.1.1.1.1))) (Kd.R_reads' (Kd.R_mono (ok':=(fun k_=>(w.heap.size≤k_))) (HO76.out) (fun k_ hk=>hk.1.1.1.1))).2.1 (Kd.R_F (Kd.R_mono (ok':=(fun k_=>(w.heap.size≤k_))) (HO76.out) (fun k_ hk=>hk.1.1.1.1))))) (Reps.c2 (show Kd.FK k34 _ _ (⟨y54,y56⟩:S34) [.slice Ao12 y54.length co12,.slice Ao11 y56.length co11] from (k34_mkF _ _ (⟨y54,y56⟩:S34) (Kd.R_reads' (Kd.R_mono (ok':=(fun k_=>(w.heap.size≤k_))) (HO82.out) (fun k_ hk=>hk.1.1.1.1))).2.1 (Kd.R_F (Kd.R_mono (ok':=(fun k_=>(w.heap.size≤k_))) (HO82.out) (fun k_ hk=>hk.1.1.1.1))) (Kd.R_reads' (Kd.R_mono (ok':=(fun k_=>(w.heap.size≤k_))) (HO94.out) (fun k_ hk=>hk.1.1.1.1))).2.1 (Kd.R_F (Kd.R_mono (ok':=(fun k_=>(w.heap.size≤k_))) (HO94.out) (fun k_ hk=>hk.1.1.1.1))))) (Reps.none _ _))));intro v387 w13 ho14 hb hg_ hnew_;clear hg_ hnew_;(first|rw [← Ny75.out] at ho14|(simp only [Int.reduceToNat] at ho14;rw [← Ny75.out] at ho14));have HO388:=zA (Kd.N_lower ho14 (below_size zB));replace HB:=zA (below_step zB hb);clear HO67 HO76 HO82 HO94;clear hb ho14))
 go_ret
 exact ⟨_,ze,by (with_reducible repeat (first|apply Kd.N_alloc|apply Kd.N_drewN|apply Kd.N_drew));exact HO388.out,zv0 HB⟩
def shared_both.f (a0:Int) (a1:Int) (a2:Bool):Option (List Int×List Int):=if a2=true then (some ((([a0,a1]:List Int)),(([0,3]:List Int)))) else (some ((([a0,a1]:List Int)),(([1,2]:List Int))))
set_option maxHeartbeats 8000000 in
set_option maxRecDepth 100000 in
theorem shared_both.calls (a0:Int) (a1:Int) (a2:Bool) (r1:List Int) (r2:List Int) (w:World) (h:shared_both.f a0 a1 a2=some (r1,r2)) :
  Calls Try.prog 45 #[.int .i64 a0,.int .i64 a1,.bool a2] w fun e w'=>∃ v0_ v1_:Value,e=.returned (.agg #[v0_,v1_])∧Kd.R (Kd.int .i64) 3 w' w.heap.size (fun k_=>some k_≠(v1_:Value).ownBlock) v0_ r1∧Kd.R (Kd.int .i64) 3 w' w.heap.size (fun k_=>some k_≠(v0_:Value).ownBlock) v1_ r2∧Below w.heap.size w w':=by
 have hu34:=Try.underlying34;have HB:=zA (Below.refl w.heap.size w);have H:(if a2=true then (some ((([a0,a1]:List Int)),(([0,3]:List Int)))) else (some ((([a0,a1]:List Int)),(([1,2]:List Int)))))=some (r1,r2):=h;clear h;have HC4:=zA H;clear H
 go_enter Try.func45,Try.ntmps45
 go_upto_if 7 with (first|((with_reducible refine gate_dst (N:=6) rfl ?_);refine box_event ?hg (N:=6) ?hd (cs:=#[.slice none 0 0,.slice none 0 0]) (t:=34) ?hr ?_;(case hd=>rfl);(case hg=>rfl);(case hr=>first|(go_simp;done)|(go_simp;rfl));intro gb43 hg w5 hbox hb;have BK43:=zA (hbox);have GW43:=zA (zG hg (below_size zB):w.heap.size≤gb43);have GE43:=GW43;replace HB:=zA (below_step zB hb);clear hb hbox hg))
 (try simp only [Act.put,zi,zs,zt]);have H:=HC4.out;clear HC4
 by_cases c6:a2=true
 ·subst c6
  have H1:(some ((([a0,a1]:List Int)),(([0,3]:List Int))))=some (r1,r2):=by rw [if_pos rfl] at H;exact H
  clear H;have H:=H1;clear H1
  obtain ⟨y57,hy57⟩:∃ y_:List Int,y_=(([a0,a1]:List Int)):=⟨_,rfl⟩
  replace H:(some (y57,(([0,3]:List Int))))=some (r1,r2):=by first|(rw [hy57];with_reducible exact H)|(have H2_:=(Option.bind_some _ _).symm.trans H;rw [hy57];with_reducible exact H2_)|(have H2_:=(Option.bind_some _ _).symm.trans H;with_reducible exact H2_)|with_reducible exact H|(rw [hy57];exact H)|exact H
  have Ny57:=zA hy57;clear hy57
  obtain ⟨y68,hy68⟩:∃ y_:List Int,y_=(([0,3]:List Int)):=⟨_,rfl⟩
  replace H:(some (y57,y68))=some (r1,r2):=by first|(rw [hy68];with_reducible exact H)|(have H2_:=(Option.bind_some _ _).symm.trans H;rw [hy68];with_reducible exact H2_)|(have H2_:=(Option.bind_some _ _).symm.trans H;with_reducible exact H2_)|with_reducible exact H|(rw [hy68];exact H)|exact H
  have Ny68:=zA hy68;clear hy68;simp only [Option.some.injEq,Prod.mk.injEq] at H;obtain ⟨rfl,rfl⟩:=H
  go_wp2_with (first|((with_reducible refine gate_dst (N:=10) rfl ?_);refine Kd.R_lit (Kd.int .i64) _ 3 ?hg (N:=10) ?hd (xs:=([a0,a1]:List Int)) (inner:=[.int .i64 a0,.int .i64 a1]) (ok:=fun _=>True) (okp:=fun _=>True) ?hr ?hp (fun _ hk=>hk) trivial (Below.refl _ _) (Nat.le_refl _) (by simp) ?_;(case hd=>rfl);(case hg=>rfl);(case hr=>first|(go_simp;done)|(go_simp;rfl));(case hp=>exact (Reps.one (show Kd.M (Kd.int .i64) _ _ _ a0 [.int .i64 a0] from rfl) (Reps.one (show Kd.M (Kd.int .i64) _ _ _ a1 [.int .i64 a1] from rfl) (Reps.none _ _))));intro v391 w7 ho8 hb hg_ hnew_;clear hg_ hnew_;(first|rw [← Ny57.out] at ho8|(simp only [Int.reduceToNat] at ho8;rw [← Ny57.out] at ho8));have HO88:=zA (Kd.R_lower ho8 (below_size zB));replace BK43:=zA (zb BK43 hb);replace HB:=zA (below_step zB hb);clear hb ho8)|((with_reducible refine gate_dst (N:=11) rfl ?_);refine Kd.R_lit (Kd.int .i64) _ 3 ?hg (N:=11) ?hd (xs:=([0,3]:List Int)) (inner:=[.int .i64 0,.int .i64 3]) (ok:=fun _=>True) (okp:=fun _=>True) ?hr ?hp (fun _ hk=>hk) trivial (Below.refl _ _) (Nat.le_refl _) (by simp) ?_;(case hd=>rfl);(case hg=>rfl);(case hr=>first|(go_simp;done)|(go_simp;rfl));(case hp=>exact (Reps.one (show Kd.M (Kd.int .i64) _ _ _ 0 [.int .i64 0] from rfl) (Reps.one (show Kd.M (Kd.int .i64) _ _ _ 3 [.int .i64 3] from rfl) (Reps.none _ _))));intro v394 w9 ho10 hb hg_ hnew_;clear hg_ hnew_;(first|rw [← Ny68.out] at ho10|(simp only [Int.reduceToNat] at ho10;rw [← Ny68.out] at ho10));have HO395:=zA (Kd.R_lower (Kd.R_new' ho10 (Kd.R_lt (zR HO88))) (below_size zB));replace HO88:=zA (Kd.R_elder' (zR HO88) (Kd.R_base ho10) hb);replace BK43:=zA (zb BK43 hb);replace HB:=zA (below_step zB hb);clear hb ho10;obtain ⟨Ao11,co11,eo11⟩:=Kd.R_slice HO395.out;subst eo11;obtain ⟨Ao12,co12,eo12⟩:=Kd.R_slice HO88.out;subst eo12;have hcz13_0:w9.cell? ⟨gb43,0,none⟩=some (.slice none 0 0):=(blk_cell BK43.out 0).trans rfl;have hcz13_1:w9.cell? ⟨gb43,1,none⟩=some (.slice none 0 0):=(blk_cell BK43.out 1).trans rfl;have hfz13_0:=blk_frozen BK43.out 0;have hfz13_1:=blk_frozen BK43.out 1))
  refine bodyPost_ret (results_cell_row rfl _ _ gb43 34 #[.slice Ao12 y57.length co12,.slice Ao11 y68.length co11] (0,0) _ rfl (by refine zj ?_;refine blk_put (cs:=#[.slice Ao12 y57.length co12,.slice none 0 0]) ?_ 1 _ rfl;refine zj ?_;refine blk_put (cs:=#[.slice none 0 0,.slice none 0 0]) ?_ 0 _ rfl;refine zj ?_;exact BK43.out) Try.underlying34 rfl zK) rfl ?_;exact ⟨_,_,ze,by refine zr ?_;exact Kd.R_mono (Kd.R_far (p:=⟨gb43,1,none⟩) (Kd.R_far (p:=⟨gb43,0,none⟩) (Kd.R_types HO88.out BK43.out (by decide)) (fun _ hk=>hk.2) (.slice Ao12 y57.length co12)) (fun _ hk=>hk.2) (.slice Ao11 y68.length co11)) (fun _ hk=>hk.1.2),by refine zr ?_;exact Kd.R_mono (Kd.R_far (p:=⟨gb43,1,none⟩) (Kd.R_far (p:=⟨gb43,0,none⟩) (Kd.R_types HO395.out BK43.out (by decide)) (fun _ hk=>hk.2) (.slice Ao12 y57.length co12)) (fun _ hk=>hk.2) (.slice Ao11 y68.length co11)) (fun _ hk=>hk.1.2),zv1 HB GE43⟩
 ·replace c6:=Bool.eq_false_iff.mpr c6;subst c6
  have H1:(some ((([a0,a1]:List Int)),(([1,2]:List Int))))=some (r1,r2):=by rw [if_neg (show ¬ (false=true) by decide)] at H;exact H
  clear H;have H:=H1;clear H1
  obtain ⟨y58,hy58⟩:∃ y_:List Int,y_=(([a0,a1]:List Int)):=⟨_,rfl⟩
  replace H:(some (y58,(([1,2]:List Int))))=some (r1,r2):=by first|(rw [hy58];with_reducible exact H)|(have H2_:=(Option.bind_some _ _).symm.trans H;rw [hy58];with_reducible exact H2_)|(have H2_:=(Option.bind_some _ _).symm.trans H;with_reducible exact H2_)|with_reducible exact H|(rw [hy58];exact H)|exact H
  have Ny58:=zA hy58;clear hy58
  obtain ⟨y69,hy69⟩:∃ y_:List Int,y_=(([1,2]:List Int)):=⟨_,rfl⟩
  replace H:(some (y58,y69))=some (r1,r2):=by first|(rw [hy69];with_reducible exact H)|(have H2_:=(Option.bind_some _ _).symm.trans H;rw [hy69];with_reducible exact H2_)|(have H2_:=(Option.bind_some _ _).symm.trans H;with_reducible exact H2_)|with_reducible exact H|(rw [hy69];exact H)|exact H
  have Ny69:=zA hy69;clear hy69;simp only [Option.some.injEq,Prod.mk.injEq] at H;obtain ⟨rfl,rfl⟩:=H
  go_wp2_with (first|((with_reducible refine gate_dst (N:=15) rfl ?_);refine Kd.R_lit (Kd.int .i64) _ 3 ?hg (N:=15) ?hd (xs:=([a0,a1]:List Int)) (inner:=[.int .i64 a0,.int .i64 a1]) (ok:=fun _=>True) (okp:=fun _=>True) ?hr ?hp (fun _ hk=>hk) trivial (Below.refl _ _) (Nat.le_refl _) (by simp) ?_;(case hd=>rfl);(case hg=>rfl);(case hr=>first|(go_simp;done)|(go_simp;rfl));(case hp=>exact (Reps.one (show Kd.M (Kd.int .i64) _ _ _ a0 [.int .i64 a0] from rfl) (Reps.one (show Kd.M (Kd.int .i64) _ _ _ a1 [.int .i64 a1] from rfl) (Reps.none _ _))));intro v397 w14 ho15 hb hg_ hnew_;clear hg_ hnew_;(first|rw [← Ny58.out] at ho15|(simp only [Int.reduceToNat] at ho15;rw [← Ny58.out] at ho15));have HO89:=zA (Kd.R_lower ho15 (below_size zB));replace BK43:=zA (zb BK43 hb);replace HB:=zA (below_step zB hb);clear hb ho15)|((with_reducible refine gate_dst (N:=16) rfl ?_);refine Kd.R_lit (Kd.int .i64) _ 3 ?hg (N:=16) ?hd (xs:=([1,2]:List Int)) (inner:=[.int .i64 1,.int .i64 2]) (ok:=fun _=>True) (okp:=fun _=>True) ?hr ?hp (fun _ hk=>hk) trivial (Below.refl _ _) (Nat.le_refl _) (by simp) ?_;(case hd=>rfl);(case hg=>rfl);(case hr=>first|(go_simp;done)|(go_simp;rfl));(case hp=>exact (Reps.one (show Kd.M (Kd.int .i64) _ _ _ 1 [.int .i64 1] from rfl) (Reps.one (show Kd.M (Kd.int .i64) _ _ _ 2 [.int .i64 2] from rfl) (Reps.none _ _))));intro v400 w16 ho17 hb hg_ hnew_;clear hg_ hnew_;(first|rw [← Ny69.out] at ho17|(simp only [Int.reduceToNat] at ho17;rw [← Ny69.out] at ho17));have HO401:=zA (Kd.R_lower (Kd.R_new' ho17 (Kd.R_lt (zR HO89))) (below_size zB));replace HO89:=zA (Kd.R_elder' (zR HO89) (Kd.R_base ho17) hb);replace BK43:=zA (zb BK43 hb);replace HB:=zA (below_step zB hb);clear hb ho17;obtain ⟨Ao18,co18,eo18⟩:=Kd.R_slice HO401.out;subst eo18;obtain ⟨Ao19,co19,eo19⟩:=Kd.R_slice HO89.out;subst eo19;have hcz20_0:w16.cell? ⟨gb43,0,none⟩=some (.slice none 0 0):=(blk_cell BK43.out 0).trans rfl;have hcz20_1:w16.cell? ⟨gb43,1,none⟩=some (.slice none 0 0):=(blk_cell BK43.out 1).trans rfl;have hfz20_0:=blk_frozen BK43.out 0;have hfz20_1:=blk_frozen BK43.out 1))
  refine bodyPost_ret (results_cell_row rfl _ _ gb43 34 #[.slice Ao19 y58.length co19,.slice Ao18 y69.length co18] (0,0) _ rfl (by refine zj ?_;refine blk_put (cs:=#[.slice Ao19 y58.length co19,.slice none 0 0]) ?_ 1 _ rfl;refine zj ?_;refine blk_put (cs:=#[.slice none 0 0,.slice none 0 0]) ?_ 0 _ rfl;refine zj ?_;exact BK43.out) Try.underlying34 rfl zK) rfl ?_;exact ⟨_,_,ze,by refine zr ?_;exact Kd.R_mono (Kd.R_far (p:=⟨gb43,1,none⟩) (Kd.R_far (p:=⟨gb43,0,none⟩) (Kd.R_types HO89.out BK43.out (by decide)) (fun _ hk=>hk.2) (.slice Ao19 y58.length co19)) (fun _ hk=>hk.2) (.slice Ao18 y69.length co18)) (fun _ hk=>hk.1.2),by refine zr ?_;exact Kd.R_mono (Kd.R_far (p:=⟨gb43,1,none⟩) (Kd.R_far (p:=⟨gb43,0,none⟩) (Kd.R_types HO401.out BK43.out (by decide)) (fun _ hk=>hk.2) (.slice Ao19 y58.length co19)) (fun _ hk=>hk.2) (.slice Ao18 y69.length co18)) (fun _ hk=>hk.1.2),zv1 HB GE43⟩
def shared_Linked_1_v1.f (k:Nat) (a0:Int) (l1_0:List (S34)):Option (Bool):=(shared_value.f k l1_0 a0).bind fun t83=>(some (t83 != 3))
theorem shared_Linked_1_v1.mono:∀ a0 a1 k,LeO (shared_Linked_1_v1.f k a0 a1) (shared_Linked_1_v1.f (k+1) a0 a1):=by
 intro a0 a1 k
 unfold shared_Linked_1_v1.f
 repeat' first
   | (with_reducible exact shared_value.mono _ _ _)
   | (with_reducible exact LeO.refl _)
   | (with_reducible exact LeO.none _)
   | (with_reducible refine LeO.ite ?_ ?_)
   | (with_reducible refine LeO.bind ?_ (fun _=>?_))
   | exact LeO.none _
   | refine LeO.ite ?_ ?_
   | refine LeO.bind ?_ (fun _=>?_)
set_option maxHeartbeats 8000000 in
set_option maxRecDepth 100000 in
theorem shared_Linked_1_v1.calls (k:Nat) (a0:Int) (gp1_0:Nat) (A1_0:Option Addr) (c1_0:Nat) (l1_0:List (S34)) (r:Bool) (w:World) (hr1_0:Kd.C k34 w A1_0 l1_0.length l1_0) (hc1_0:l1_0.length≤c1_0) (hb_gp1_0:w.heap[gp1_0]?=some (.cells #[.slice A1_0 l1_0.length c1_0] 22 (0,0))) (h:shared_Linked_1_v1.f k a0 l1_0=some r) :
  Calls Try.prog 44 #[.int .i64 a0,.pointer (some ⟨gp1_0,0,none⟩)] w fun e w'=>e=.returned (.bool r)∧Below w.heap.size w w':=by
 have hu22:=Try.underlying22;have HR1_0:=zA hr1_0;have HC1_0:=zA hc1_0;clear hr1_0 hc1_0;have BK91:=zA hb_gp1_0;clear hb_gp1_0;have HB:=zA (Below.refl w.heap.size w);have H:((shared_value.f k l1_0 a0).bind fun t83=>(some (t83 != 3)))=some r:=h;clear h;replace H:=Option.bind_eq_some_iff.mp H;obtain ⟨t83,A30,H⟩:=H;replace H:(some (t83 != 3))=some r:=H;have A3:=zA A30;clear A30;obtain rfl:=Option.some.inj H;have hcz4_0:w.cell? ⟨gp1_0,0,none⟩=some (.slice A1_0 l1_0.length c1_0):=(blk_cell BK91.out 0).trans rfl;have hfz4_0:=blk_frozen BK91.out 0
 go_enter Try.func44,Try.ntmps44
 go_wp2_with (first|((with_reducible refine gate_callee (f:=30) rfl ?_);refine goesL_ (some 6) rfl rfl Try.func30 zK rfl #[.slice A1_0 l1_0.length c1_0,.int .i64 a0] rfl zM ?_;(with_reducible refine (shared_value.calls k _ _ l1_0 a0 t83 _ ?side1 ?side2 A3.out).mono ?_);(case side1=>repeat (first|exact HR1_0.out|(with_reducible refine Kd.C_alloc ?_ _)|(with_reducible refine Kd.C_drewN ?_ _)|(with_reducible refine Kd.C_drew ?_)));(case side2=>exact HC1_0.out);rintro e w5 ⟨rfl,hb⟩;refine ⟨_,rfl,?_⟩;replace BK91:=zA (zb BK91 hb);replace HB:=zA (below_step zB hb);(try clear hb);(try clear hb2);(try clear hk);(try clear hi)))
 go_ret
 exact ⟨ze,zv0 HB⟩
def slices_IndexFunc_int_int_shared_Linked_1.l0:Nat→List Int→Int→Int→List (S34)→Option (Int)
 | 0,_,_,_,_=>none
 | k+1,x0,x7,x8,x92=>if x8<x7 then (if 0≤x8 then (if x8<(x0.length:Int) then ((shared_Linked_1_v1.f k (rd x0 x8) x92).bind fun t93=>(if t93=true then (some x8) else (slices_IndexFunc_int_int_shared_Linked_1.l0 k x0 x7 (wrap64 (x8+1)) x92))) else (none)) else (none)) else (some (-1))
def slices_IndexFunc_int_int_shared_Linked_1.f (k:Nat) (l0:List Int) (l1_0:List (S34)):Option (Int):=slices_IndexFunc_int_int_shared_Linked_1.l0 k l0 (l0.length:Int) 0 l1_0
theorem slices_IndexFunc_int_int_shared_Linked_1.mono_l:∀ k,(∀ y0 y1 y2 y3,LeO (slices_IndexFunc_int_int_shared_Linked_1.l0 k y0 y1 y2 y3) (slices_IndexFunc_int_int_shared_Linked_1.l0 (k+1) y0 y1 y2 y3))
 | 0=>fun _ _ _ _ r h=>by simp [slices_IndexFunc_int_int_shared_Linked_1.l0] at h
 | k+1=>by
  have ih0:=slices_IndexFunc_int_int_shared_Linked_1.mono_l k
  ·intro y0 y1 y2 y3
   unfold slices_IndexFunc_int_int_shared_Linked_1.l0
   repeat' first
   | (with_reducible exact ih0 _ _ _ _)
   | (with_reducible exact shared_Linked_1_v1.mono _ _ _)
   | (with_reducible exact LeO.refl _)
   | (with_reducible exact LeO.none _)
   | (with_reducible refine LeO.ite ?_ ?_)
   | (with_reducible refine LeO.bind ?_ (fun _=>?_))
   | exact LeO.none _
   | refine LeO.ite ?_ ?_
   | refine LeO.bind ?_ (fun _=>?_)
theorem slices_IndexFunc_int_int_shared_Linked_1.mono:∀ a0 a1 k,LeO (slices_IndexFunc_int_int_shared_Linked_1.f k a0 a1) (slices_IndexFunc_int_int_shared_Linked_1.f (k+1) a0 a1):=by
 intro a0 a1 k;have ih0:=slices_IndexFunc_int_int_shared_Linked_1.mono_l k
 unfold slices_IndexFunc_int_int_shared_Linked_1.f
 repeat' first
   | (with_reducible exact ih0 _ _ _ _)
   | (with_reducible exact shared_Linked_1_v1.mono _ _ _)
   | (with_reducible exact LeO.refl _)
   | (with_reducible exact LeO.none _)
   | (with_reducible refine LeO.ite ?_ ?_)
   | (with_reducible refine LeO.bind ?_ (fun _=>?_))
   | exact LeO.none _
   | refine LeO.ite ?_ ?_
   | refine LeO.bind ?_ (fun _=>?_)
set_option maxHeartbeats 8000000 in
set_option maxRecDepth 100000 in
theorem slices_IndexFunc_int_int_shared_Linked_1.calls (k:Nat) (A0:Option Addr) (c0:Nat) (l0:List Int) (gp1_0:Nat) (A1_0:Option Addr) (c1_0:Nat) (l1_0:List (S34)) (r:Int) (w:World) (hr0:Kd.C (Kd.int .i64) w A0 l0.length l0) (hc0:l0.length≤c0) (hr1_0:Kd.C k34 w A1_0 l1_0.length l1_0) (hc1_0:l1_0.length≤c1_0) (hb_gp1_0:w.heap[gp1_0]?=some (.cells #[.slice A1_0 l1_0.length c1_0] 22 (0,0))) (h:slices_IndexFunc_int_int_shared_Linked_1.f k l0 l1_0=some r) :
  Calls Try.prog 60 #[.slice A0 l0.length c0,.func (.func 44) #[] #[.pointer (some ⟨gp1_0,0,none⟩)]] w fun e w'=>e=.returned (.int .i64 r)∧Below w.heap.size w w':=by
 have hu3:=Try.underlying3;have HR0:=zA hr0;have HC0:=zA hc0;clear hr0 hc0;have HR1_0:=zA hr1_0;have HC1_0:=zA hc1_0;clear hr1_0 hc1_0;have BK77:=zA hb_gp1_0;clear hb_gp1_0;have HB:=zA (Below.refl w.heap.size w);have H:(slices_IndexFunc_int_int_shared_Linked_1.l0 k l0 (l0.length:Int) 0 l1_0)=some r:=h;clear h;have H':=zA H;clear H
 go_enter Try.func60,Try.ntmps60
 go_wp2
 go_loopg [8] k (fun kq v8 w'=>∃ (x8_1:Int),v8=.int .i64 x8_1∧Aside0 (slices_IndexFunc_int_int_shared_Linked_1.l0 kq l0 (l0.length:Int) x8_1 l1_0=some r)∧Aside0 (kq≤k)∧Aside0 (w'.heap[gp1_0]?=some (.cells #[(.slice A1_0 l1_0.length c1_0)] 22 (0,0)))∧Aside0 (Below w.heap.size w w'))
 case atStart=>exact ⟨(0),zT,H',⟨Nat.le_refl _⟩,⟨by refine zj ?_;exact BK77.out⟩,⟨zv0 HB⟩⟩
 case round=>
  clear H';obtain ⟨x8_1,rfl,HA,HK1,BK77,HB⟩:=hrel
  cases gk with
  | zero=>exact absurd HA.out (by simp [slices_IndexFunc_int_int_shared_Linked_1.l0])
  | succ k1=>
   have H:=HA.out;clear HA;simp only [slices_IndexFunc_int_int_shared_Linked_1.l0] at H
   by_cases c3:x8_1<(l0.length:Int)
   ·rw [if_pos c3] at H;have c3b0:decide (x8_1<(l0.length:Int))=true:=decide_eq_true c3;clear c3
    by_cases c4:0≤x8_1
    ·rw [if_pos c4] at H;have c4b0:decide (0≤x8_1)=true:=decide_eq_true c4;clear c4
     by_cases c5:x8_1<(l0.length:Int)
     ·rw [if_pos c5] at H;have c5b0:decide (x8_1<(l0.length:Int))=true:=decide_eq_true c5;clear c5;replace H:=Option.bind_eq_some_iff.mp H;obtain ⟨t93,A60,H⟩:=H;replace H:(if t93=true then (some x8_1) else (slices_IndexFunc_int_int_shared_Linked_1.l0 k1 l0 (l0.length:Int) (wrap64 (x8_1+1)) l1_0))=some r:=H;have A6:=zA A60;clear A60;have HC7:=zA H;clear H;have p63:0≤(x8_1:Int):=of_decide_eq_true zh;have q63:x8_1<(l0.length:Int):=of_decide_eq_true zh;obtain ⟨ad63,e63,hx63_0⟩:=Kd.at_int HR0.out x8_1 p63 q63
      cases e63
      replace hx63_0:=(HB.out.cell (World.block_lt_of_cell? w _ hx63_0)).trans hx63_0;replace p63:=eq_true p63;replace q63:=eq_true q63
      go_upto_if 16 with (first|(go_at_call 44;(with_reducible refine (shared_Linked_1_v1.calls k1 (rd l0 x8_1) gp1_0 A1_0 c1_0 l1_0 t93 _ ?side1 ?side2 ?side3 A6.out).mono ?_);(case side1=>exact zC (Kd.C_below HR1_0.out HB.out));(case side2=>exact HC1_0.out);(case side3=>refine zj ?_;exact BK77.out);rintro e w8 ⟨rfl,hb⟩;replace BK77:=zA (zb BK77 hb);replace HB:=zA (below_step zB hb);(try clear hb);(try clear hb2);(try clear hk);(try clear hi)))
      (try simp only [Act.put,zi,zs,zt]);have H:=HC7.out;clear HC7
      by_cases c9:t93=true
      ·subst c9
       have H1:(some x8_1)=some r:=by rw [if_pos rfl] at H;exact H
       clear H;have H:=H1;clear H1;obtain rfl:=Option.some.inj H
       go_wp2
       go_ret
       exact ⟨ze,zv0 HB⟩
      ·replace c9:=Bool.eq_false_iff.mpr c9;subst c9
       have H1:(slices_IndexFunc_int_int_shared_Linked_1.l0 k1 l0 (l0.length:Int) (wrap64 (x8_1+1)) l1_0)=some r:=by rw [if_neg (show ¬ (false=true) by decide)] at H;exact H
       clear H;have H:=H1;clear H1;have H':=zA H;clear H
       go_wp2
       go_roundg k1
       case measure=>have:=HK1.out;omega
       case rel=>exact ⟨(wrap64 (x8_1+1)),zT,H',⟨by have:=HK1.out;omega⟩,⟨by refine zj ?_;exact BK77.out⟩,⟨zv0 HB⟩⟩
     ·rw [if_neg c5] at H;exact absurd H (by simp)
    ·rw [if_neg c4] at H;exact absurd H (by simp)
   ·rw [if_neg c3] at H;have c3b0:decide (x8_1<(l0.length:Int))=false:=decide_eq_false c3;clear c3;obtain rfl:=Option.some.inj H
    go_wp2
    go_ret
    exact ⟨ze,zv0 HB⟩
section
open Go.Lib Go.Sort Go.Shelf
/-- What is left of a list behind a first element that was struck. -/
def delF (p:Int→Option Bool):List Int→Option (List Int)
 | []=>some []
 | x :: xs=>(p x).bind fun b=>(delF p xs).bind fun r=>some (if b=true then r else x :: r)
theorem kept_trans {w w1 w2:World} {S:Nat→Prop} (h:Kept w w1 S) (hb:Below w1.heap.size w1 w2):Kept w w2 S:=⟨Nat.le_trans h.1 hb.size,fun i hi hn=>(hb.block i (Nat.lt_of_lt_of_le hi h.1)).trans (h.2 i hi hn)⟩
theorem kept_set {w w1:World} {S:Nat→Prop} (h:Kept w w1 S) {g:Nat} (hg:S g) (j:Nat) (u:Value):Kept w (w1.setCell ⟨g,j,none⟩ u) S:=⟨by simpa [World.setCell] using h.1,fun i hi hn=>(Below.heap_setCell w1 ⟨g,j,none⟩ u i (fun e=>hn (e ▸ hg))).trans (h.2 i hi hn)⟩
theorem kept_cells {w:World} {S:Nat→Prop} {g:Nat} (hg:S g):∀ (vs:List Value) (j:Nat) (w1:World),Kept w w1 S→Kept w (w1.setCells g j vs) S
 | [],_,_,h=>h
 | v :: vs,j,w1,h=>kept_cells hg vs (j+1) _ (kept_set h hg j v)
theorem set_take (l:List Int) (i:Nat) (u:Int) (h:i<l.length):(l.set i u).take (i+1)=l.take i++[u]:=by
 rw [List.set_eq_take_append_cons_drop,if_pos h,List.take_append,List.length_take,Nat.min_eq_left (by omega),List.take_of_length_le (by rw [List.length_take];omega),show i+1 - i=1 by omega];rfl
theorem delF_cons {p:Int→Option Bool} {x:Int} {xs r:List Int} (h:delF p (x :: xs)=some r):∃ b r',p x=some b∧delF p xs=some r'∧r=if b=true then r' else x :: r':=by
 rw [delF] at h;obtain ⟨b,h1,h2⟩:=Option.bind_eq_some_iff.1 h;obtain ⟨r',h3,h4⟩:=Option.bind_eq_some_iff.1 h2;exact ⟨b,r',h1,h3,(Option.some.inj h4).symm⟩
theorem own_behindI {e base size n cap g:Nat} {w:World} {xs vs:List Value} (h:w.ownsRow base e size (.slice (some ⟨g,0,none⟩) n cap) n xs) (o:Nat) (ho:n * size≤o) (hv:o+vs.length≤cap * size):(w.setCells g o vs).ownsRow base e size (.slice (some ⟨g,0,none⟩) n cap) n xs:=by
 refine ⟨h.1,?_⟩
 rcases h.2 with ⟨h2,_⟩|⟨g',cap',cur,h1,h2,h3,h4,h5,h6,h7⟩
 ·cases h2
 ·injection h1 with h1 _ h1c
  injection h1 with h1
  injection h1 with h1
  subst h1 h1c;obtain ⟨cur',k1,k2,k3⟩:=setCells_row vs o w cur h3 (by omega);refine .inr ⟨g,cap,cur',rfl,h2,k1,h4,h5,by rw [k2];exact h6,?_⟩;rw [k3,List.append_assoc,List.take_append_of_le_length (by rw [List.length_take,Array.length_toList];omega),List.take_take,Nat.min_eq_left ho];exact h7
theorem below_cells {B:Nat} {w0 w1:World} (h:Below B w0 w1) {g:Nat} (hg:B≤g) (vs:List Value) (o:Nat):Below B w0 (w1.setCells g o vs):=by
 obtain ⟨s1,s2,s3,s4⟩:=setCells_same g vs o w1;exact ⟨by rw [s1];exact h.os,by rw [s2];exact h.tape,by rw [s3];exact h.output,by rw [s4];exact h.size,fun k hk=>(setCells_far _ _ k (by omega)).trans (h.block k hk)⟩
theorem int_cut {e base g i n c:Nat} {w:World} {P0_:Nat→Prop} {xs:List Int} (h:Kd.R (Kd.int .i64) e w base P0_ (.slice (some ⟨g,0,none⟩) n c) xs) (hi:i≤n):Kd.R (Kd.int .i64) e (w.setCells g i (List.replicate (n - i) (.int .i64 0))) base P0_ (.slice (some ⟨g,0,none⟩) i c) (xs.take i):=by
 have hn:n=xs.length:=(int_row h).2.2.2.1;have hc:xs.length≤c:=(int_row h).2.2.2.2.1;subst hn;have h1:=Kd.R_take h hi;have ho:=Kd.own_of_R (enc:=Value.int .i64) (h1:=fun _=>rfl) h1
 have hl:(xs.take i).length=i:=by rw [List.length_take];omega
 rw [hl] at ho;refine Kd.R_of_own (enc:=Value.int .i64) (h1:=fun _=>rfl) ?_ h1.1;rw [hl];exact own_behindI ho i (by omega) (by rw [List.length_replicate];omega)
set_option maxHeartbeats 4000000 in
set_option maxRecDepth 1000000 in
theorem deleteFunc_makes {P:Program} {ρ:Ren} (L:SlLaysH.n10 P ρ) (gf:Nat) (lb:Array Value) (eg:∀ args w,(callFunc gf args).run P w=.ok (.enter gf args) w) (pv:Int→Option Bool) {e base g c n i0:Nat} {P0_:Nat→Prop} {xs t:List Int} {w w0:World} (v23:∀ w,(zeroValue (ρ.t 23)).run P w=.ok (.int .i64 0) w)
  (hB:Below base w0 w) (hR:Kd.R (Kd.int .i64) e w base P0_ (.slice (some ⟨g,0,none⟩) n c) xs) (hi:i0<n) (hn:n≤9223372036854775807)
  (hIF:Calls P (ρ.f 6) #[.slice (some ⟨g,0,none⟩) n c,.func (.func gf) #[] lb] w fun e w'=>e=.returned (.int .i64 (i0:Int))∧Below w.heap.size w w')
  (hp:∀ (W:World) (x:Int) (b:Bool),Kept w W P0_→pv x=some b→Calls P gf (#[.int .i64 x]++lb) W fun e w'=>e=.returned (.bool b)∧Below W.heap.size W w')
  (ht:delF pv (xs.drop (i0+1))=some t) :
  Calls P (ρ.f 10) #[.slice (some ⟨g,0,none⟩) n c,.func (.func gf) #[] lb] w fun e_ w'=>e_=.returned (.slice (some ⟨g,0,none⟩) (i0+t.length) c)∧Kd.R (Kd.int .i64) e w' base P0_ (.slice (some ⟨g,0,none⟩) (i0+t.length) c) (xs.take i0++t)∧Below base w0 w'∧Kept w w' P0_:=by
 have mixed:=L.mixed;have t0:=L.t0;have a0:=L.a0;have z0:=L.z0;have v0:=L.v0;have t3:=L.t3;have a3:=L.a3;have z3:=L.z3;have v3:=L.v3;have t4:=L.t4;have a4:=L.a4;have z4:=L.z4;have v4:=L.v4;have t22:=L.t22;have a22:=L.a22;have z22:=L.z22;have v22:=L.v22;have a23:=L.a23;have z23:=L.z23;have t25:=L.t25;have a25:=L.a25;have z25:=L.z25;have v25:=L.v25;have e6:∀ args w,(callFunc (ρ.f 6) args).run P w=.ok (.enter (ρ.f 6) args) w:=L.f6.enters rfl;obtain ⟨hg1,hg2,hg3,hg4,hg5,hg6,hg7⟩:=int_row hR;have hne1:((i0:Int) == -1)=false:=beq_eq_false_iff_ne.2 (by omega)
 have hic:n≤c:=by omega
 have F0:Aside0 (Kd.R (Kd.int .i64) e w base P0_ (.slice (some ⟨g,0,none⟩) n c) xs∧Below base w0 w∧P0_ g∧base≤g∧g<w.heap.size∧xs.length=n∧delF pv (xs.drop (i0+1))=some t):=⟨hR,hB,hg1,hg2,hg3,hg4.symm,ht⟩
 have HP:=zA hp;clear hR hB hg1 hg2 hg3 hg4 hg5 hg6 hg7 ht hp;obtain ⟨_,_,FG⟩:=L.f10
 go_enter FG,SlBodyH.n10_ntmps ρ
 go_wp2_with (go_at_fn (ρ.f 6);refine hIF.mono ?_;rintro e w1 ⟨rfl,hb1⟩)
 go_loopg [5,6,7] n (fun gg s5 s6 _ wr=>∃ (i j:Nat) (dk:List Int) (rest:List Int),s5=.int .i64 i∧s6=.int .i64 j∧j≤n∧i<j∧n - j≤gg∧Aside0 (Kd.R (Kd.int .i64) e wr base P0_ (.slice (some ⟨g,0,none⟩) n c) dk∧Below base w0 wr∧Kept w wr P0_∧dk.length=n∧dk.drop j=xs.drop j∧delF pv (xs.drop j)=some rest∧dk.take i++rest=xs.take i0++t))
 case atStart=>
  obtain ⟨f1,f2,f3,f4,f5,f6,f7⟩:=F0.out;exact ⟨i0,i0+1,xs,t,rfl,by go_num,by omega,by omega,by omega,⟨Kd.R_below f1 hb1,f2.trans (hb1.mono (by omega)),kept_trans ⟨Nat.le_refl _,fun _ _ _=>rfl⟩ hb1,f6,rfl,f7,rfl⟩⟩
 case round=>
  obtain ⟨i,j,dk,rest,rfl,rfl,hjn,hij,hgg,F⟩:=hrel;obtain ⟨f1,f2,f3,f4,f5,f6,f7⟩:=F0.out
  by_cases hlt:j<n
  ·have hltz:(j:Int)<(n:Int):=by omega
   obtain ⟨u,b,r',hu,hpv,hr',hrest,hcell⟩:∃ u b r',xs.drop j=u :: xs.drop (j+1)∧pv u=some b∧delF pv (xs.drop (j+1))=some r'∧(rest=if b=true then r' else u :: r')∧wr.cell? ⟨g,j,none⟩=some (.int .i64 u):=by
    obtain ⟨q1,q2,q3,q4,q5,q6,q7⟩:=F.out;have hx:xs.drop j=xs[j] :: xs.drop (j+1):=List.drop_eq_getElem_cons (by omega);have h2:=q6;rw [hx] at h2;obtain ⟨b,r',k1,k2,k3⟩:=delF_cons h2;refine ⟨xs[j],b,r',hx,k1,k2,k3,?_⟩;have hh:=((int_row q1).2.2.2.2.2.2 j (by simpa using (show j<dk.length by omega))).1;rw [Nat.zero_add] at hh;rw [hh]
    have hd:dk[j]'(by omega)=xs[j]:=by
     have h3:=q5;rw [List.drop_eq_getElem_cons (by omega),hx] at h3;exact (List.cons.inj h3).1
    rw [getElem!_pos dk.toArray j (by simpa using (show j<dk.length by omega))]
    simpa using hd
   have hcall:=HP.out wr u b F.out.2.2.1 hpv
   have FF:Aside0 (xs.drop j=u :: xs.drop (j+1)∧delF pv (xs.drop (j+1))=some r'∧(rest=if b=true then r' else u :: r')):=⟨hu,hr',hrest⟩
   clear hu hpv hr' hrest f1 f2 f3 f4 f5 f6 f7
   cases b with
   | false=>
    go_wp2_with (go_at_fn gf;refine hcall.mono ?_;rintro e w2 ⟨rfl,hb2⟩;obtain ⟨ci,fi⟩:w2.cell? ⟨g,i,none⟩=some (.int .i64 dk.toArray[i]!)∧w2.frozen? ⟨g,i,none⟩=false:=(by have hh:=(int_row (Kd.R_below F.out.1 hb2)).2.2.2.2.2.2 i (by simpa using (show i<dk.length by have:=F.out.2.2.2.1;omega));rw [Nat.zero_add] at hh;exact hh))
    go_roundg (n - (j+1))
    case measure=>omega
    case rel=>
     obtain ⟨q1,q2,q3,q4,q5,q6,q7⟩:=F.out;obtain ⟨p1,p2,p3⟩:=FF.out;obtain ⟨f1,f2,f3,f4,f5,f6,f7⟩:=F0.out;have hw2:=q3.1;have hput:=Kd.R_putn (Kd.R_below q1 hb2) (i:Int) u;rw [Int.toNat_natCast] at hput;refine ⟨i+1,j+1,dk.set i u,r',by go_num,by go_num,by omega,by omega,Nat.le_refl _,⟨hput,(q2.trans (hb2.mono (by omega))).setCell f4 _,kept_set (kept_trans q3 hb2) f3 i _,by rw [List.length_set];exact q4,?_,p2,?_⟩⟩
     ·rw [List.drop_set_of_lt (by omega)];rw [List.drop_eq_getElem_cons (by omega),p1] at q5;exact (List.cons.inj q5).2
     ·rw [set_take _ _ _ (by omega),List.append_assoc,← q7,p3];rfl
   | true=>
    go_wp2_with (go_at_fn gf;refine hcall.mono ?_;rintro e w2 ⟨rfl,hb2⟩)
    go_roundg (n - (j+1))
    case measure=>omega
    case rel=>
     obtain ⟨q1,q2,q3,q4,q5,q6,q7⟩:=F.out;obtain ⟨p1,p2,p3⟩:=FF.out;obtain ⟨f1,f2,f3,f4,f5,f6,f7⟩:=F0.out;have hw2:=q3.1;refine ⟨i,j+1,dk,r',rfl,by go_num,by omega,by omega,Nat.le_refl _,⟨Kd.R_below q1 hb2,q2.trans (hb2.mono (by omega)),kept_trans q3 hb2,q4,?_,p2,?_⟩⟩
     ·rw [List.drop_eq_getElem_cons (by omega),p1] at q5;exact (List.cons.inj q5).2
     ·rw [← q7,p3];rfl
  ·obtain rfl:j=n:=by omega
   have hltz:¬ (j:Int)<(j:Int):=by omega
   have hcl:∀ ty,(Builtin.clear_ #[ρ.t 22] ty #[.slice (some ⟨g,i,none⟩) (j - i) (c - i)]).run P wr=.ok (.tuple #[]) (wr.setCells g i (List.replicate (j - i) (.int .i64 0))):=fun ty=>by
    obtain ⟨q1,q2,q3,q4,q5,q6,q7⟩:=F.out;have hh:=(int_row q1).2.2.2.2.2.2;refine Lib.run_clear_slice wr _ _ ty _ t22 v23 rfl rfl g i _ _ (by omega) (fun t ht=>?_) (fun t ht=>?_)
    ·have:=(hh (i+t) (by simpa using (show i+t<dk.length by omega))).1
     rw [Nat.zero_add] at this;rw [this];rfl
    ·have:=(hh (i+t) (by simpa using (show i+t<dk.length by omega))).2
     rwa [Nat.zero_add] at this
   have hice:i≤j:=by omega
   clear f1 f2 f3 f4 f5 f6 f7
   go_wp2
   go_ret
   obtain ⟨q1,q2,q3,q4,q5,q6,q7⟩:=F.out;obtain ⟨f1,f2,f3,f4,f5,f6,f7⟩:=F0.out;rw [List.drop_eq_nil_of_le (by omega)] at q6;obtain rfl:=Option.some.inj q6;rw [List.append_nil] at q7
   have hlen:i=i0+t.length:=by
    have:=congrArg List.length q7
    rw [List.length_append,List.length_take,List.length_take] at this
    omega
   have hcut:=int_cut q1 hice;rw [q7] at hcut;rw [← hlen];exact ⟨rfl,hcut,below_cells q2 f4 _ _,kept_cells f3 _ _ _ q3⟩
set_option maxHeartbeats 1000000 in
theorem deleteFunc_none {P:Program} {ρ:Ren} (L:SlLaysH.n10 P ρ) (A:Option Addr) (n c:Nat) (fv:Value) (w:World) (hIF:Calls P (ρ.f 6) #[.slice A n c,fv] w fun e w'=>e=.returned (.int .i64 (-1))∧Below w.heap.size w w') :
  Calls P (ρ.f 10) #[.slice A n c,fv] w fun e w'=>e=.returned (.slice A n c)∧Below w.heap.size w w':=by
 have mixed:=L.mixed;have t0:=L.t0;have a0:=L.a0;have z0:=L.z0;have v0:=L.v0;have t3:=L.t3;have a3:=L.a3;have z3:=L.z3;have v3:=L.v3;have t4:=L.t4;have a4:=L.a4;have z4:=L.z4;have v4:=L.v4;have t22:=L.t22;have a22:=L.a22;have z22:=L.z22;have v22:=L.v22;have a23:=L.a23;have z23:=L.z23;have t25:=L.t25;have a25:=L.a25;have z25:=L.z25;have v25:=L.v25;have e6:∀ args w,(callFunc (ρ.f 6) args).run P w=.ok (.enter (ρ.f 6) args) w:=L.f6.enters rfl;obtain ⟨_,_,FG⟩:=L.f10
 go_enter FG,SlBodyH.n10_ntmps ρ
 go_wp2_with (go_at_fn (ρ.f 6);refine hIF.mono ?_;rintro e w1 ⟨rfl,hb1⟩)
 go_ret
 exact ⟨rfl,hb1⟩
theorem delF_mono {p q:Int→Option Bool} (h:∀ x,LeO (p x) (q x)):∀ l,LeO (delF p l) (delF q l)
 | []=>LeO.refl _
 | x :: l=>LeO.bind (h x) (fun _=>LeO.bind (delF_mono h l) (fun _=>LeO.refl _))
def slices_DeleteFunc_int_int_shared_Linked_1.f (k:Nat) (l0:List Int) (l1_0:List (S34)):Option (List Int):=(slices_IndexFunc_int_int_shared_Linked_1.f k l0 l1_0).bind fun i=>(if i=-1 then some l0 else (if 0≤i then (if i<(l0.length:Int) then ((delF (fun x=>shared_Linked_1_v1.f k x l1_0) (l0.drop (i.toNat+1))).bind fun t=>some (l0.take i.toNat++t)) else none) else none))
theorem slices_DeleteFunc_int_int_shared_Linked_1.mono:∀ a0 a1 k,LeO (slices_DeleteFunc_int_int_shared_Linked_1.f k a0 a1) (slices_DeleteFunc_int_int_shared_Linked_1.f (k+1) a0 a1):=by
 intro a0 a1 k
 unfold slices_DeleteFunc_int_int_shared_Linked_1.f
 refine LeO.bind (slices_IndexFunc_int_int_shared_Linked_1.mono _ _ _) (fun _=>LeO.ite (LeO.refl _) (LeO.ite (LeO.ite (LeO.bind (delF_mono (fun x=>shared_Linked_1_v1.mono _ _ _) _) (fun _=>LeO.refl _)) (LeO.refl _)) (LeO.refl _)))
theorem slices_DeleteFunc_int_int_shared_Linked_1.calls (k:Nat) (P0_:Nat→Prop) (u96_:Value) (l0:List Int) (gp1_0:Nat) (A1_0:Option Addr) (c1_0:Nat) (l1_0:List (S34)) (r:List Int) (w0 w:World) (hB:Below w0.heap.size w0 w) (ho0:Kd.R (Kd.int .i64) 3 w w0.heap.size P0_ u96_ l0) (hr1_0:∀ W',Kept w W' (fun k_=>P0_ k_)→Kd.C k34 W' A1_0 l1_0.length l1_0) (hc1_0:l1_0.length≤c1_0) (hb_gp1_0:w.heap[gp1_0]?=some (.cells #[.slice A1_0 l1_0.length c1_0] 22 (0,0))) (hap:∀ k_,P0_ k_→k_≠gp1_0) (h:slices_DeleteFunc_int_int_shared_Linked_1.f k l0 l1_0=some r) :
 Calls Try.prog 43 #[u96_,.func (.func 44) #[] #[.pointer (some ⟨gp1_0,0,none⟩)]] w fun e w'=>∃ v0_:Value,e=.returned (v0_)∧Kd.R (Kd.int .i64) 3 w' w0.heap.size (fun k_=>(P0_ k_∨w.heap.size≤k_)) v0_ r∧Below w0.heap.size w0 w'∧Kept w w' (fun k_=>P0_ k_):=by
 unfold slices_DeleteFunc_int_int_shared_Linked_1.f at h
 obtain ⟨i,hi,h⟩:=Option.bind_eq_some_iff.1 h;obtain ⟨A,c,rfl⟩:=Kd.R_slice ho0;obtain ⟨_,hcl,hC⟩:=Kd.R_reads' ho0;have hgp:gp1_0<w.heap.size:=(Array.getElem?_eq_some_iff.1 hb_gp1_0).1;have hIF:=slices_IndexFunc_int_int_shared_Linked_1.calls k A c l0 gp1_0 A1_0 c1_0 l1_0 i w hC hcl (hr1_0 w ⟨Nat.le_refl _,fun _ _ _=>rfl⟩) hc1_0 hb_gp1_0 hi
 by_cases hm:i=-1
 ·rw [if_pos hm] at h;obtain rfl:=Option.some.inj h;subst hm;refine (deleteFunc_none laysDelete A l0.length c _ w hIF).mono ?_;rintro e w' ⟨rfl,hb⟩;exact ⟨_,rfl,Kd.R_mono (Kd.R_below ho0 hb) (fun k hk=>.inl hk),hB.trans (hb.mono hB.size),kept_trans ⟨Nat.le_refl _,fun _ _ _=>rfl⟩ hb⟩
 ·rw [if_neg hm] at h
  by_cases h0:0≤i
  case neg=>rw [if_neg h0] at h;cases h
  rw [if_pos h0] at h
  by_cases h1:i<(l0.length:Int)
  case neg=>rw [if_neg h1] at h;cases h
  rw [if_pos h1] at h;obtain ⟨t,ht,h⟩:=Option.bind_eq_some_iff.1 h;obtain rfl:=Option.some.inj h
  obtain ⟨i0,rfl⟩:∃ i0:Nat,i=i0:=⟨i.toNat,by omega⟩
  rw [Int.toNat_natCast] at ht ⊢
  obtain ⟨g,rfl⟩:∃ g,A=some ⟨g,0,none⟩:=by
   have ho:=Kd.own_of_R (enc:=Value.int .i64) (h1:=fun _=>rfl) ho0
   rcases ho.2 with ⟨_,h3⟩|⟨g,_,_,h3,_⟩
   ·omega
   ·injection h3 with h3;exact ⟨g,h3⟩
  have hmx:=(int_row ho0).2.2.2.2.2.1;refine (deleteFunc_makes laysDelete 44 #[.pointer (some ⟨gp1_0,0,none⟩)] (enters_of Try.func44 zK rfl) (fun x=>shared_Linked_1_v1.f k x l1_0) Try.zeroValue3 hB ho0 (by omega) (by unfold maxLen at hmx;omega) hIF (fun W x b hk hpv=>?_) ht).mono ?_
  ·exact shared_Linked_1_v1.calls k x gp1_0 A1_0 c1_0 l1_0 b W (hr1_0 W hk) hc1_0 ((hk.2 gp1_0 hgp (fun hp=>hap gp1_0 hp rfl)).trans hb_gp1_0) hpv
  ·rintro e w' ⟨rfl,k1,k2,k3⟩;exact ⟨_,rfl,Kd.R_mono k1 (fun k hk=>.inl hk),k2,k3⟩
end
end Go.Proofs.Ytngpkbbljnbojaa.I
