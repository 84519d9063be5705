import Derived.Test.YtngpkbbljnbojaaS0
import Derived.Test.YtngpkbbljnbojaaS5
import Derived.Test.YtngpkbbljnbojaaS11
import Derived.Test.YtngpkbbljnbojaaS12
import Derived.Test.YtngpkbbljnbojaaS13
namespace Go.Proofs.Ytngpkbbljnbojaa.S
open Go.RowKit Go.Proofs.YtngpkbbljnbojaaW.PrintWords Go.Proofs.YtngpkbbljnbojaaW.PrintLast Go.Proofs.YtngpkbbljnbojaaW.PrintMore
attribute [local go_sem] max2_int min2_int max_two min_two max_three min_three max_four min_four
set_option linter.unusedVariables false
set_option linter.unusedSimpArgs false
def ancepsref40_Given.f (k:Nat) (l0:List (S34)) (a1:Int) (a2:Int):Option ((List (S34))×Int):=(ancepsref40_Valid.f k l0).bind fun t666=>(if t666=0 then (if a1<0 then (some (([]:List (S34)),6)) else (if a1>23 then (some (([]:List (S34)),6)) else (if a2<0 then (some (([]:List (S34)),6)) else (if a2>1 then (some (([]:List (S34)),6)) else (if (l0.length:Int)=16 then (some (([]:List (S34)),3)) else ((some (([]:List (S34)):List (S34))).bind fun y667=>(if y667.length+l0.length<2932031007402 then ((some (y667++l0:List (S34))).bind fun y670=>(if y670.length<2932031007402 then (some ((y670++[(⟨(([a1]:List Int)),(([a2]:List Int))⟩:S34)]),0)) else (none))) else (none)))))))) else (some (([]:List (S34)),t666)))
theorem ancepsref40_Given.mono:∀ a0 a1 a2 k,LeO (ancepsref40_Given.f k a0 a1 a2) (ancepsref40_Given.f (k+1) a0 a1 a2):=by
 intro a0 a1 a2 k
 unfold ancepsref40_Given.f
 repeat' first
   | (with_reducible exact ancepsref40_Valid.mono _ _)
   | (with_reducible exact LeO.refl _)
   | (with_reducible exact LeO.none _)
   | (with_reducible refine LeO.ite ?_ ?_)
   | (with_reducible refine LeO.bind ?_ (fun _=>?_))
   | exact LeO.none _
   | refine LeO.ite ?_ ?_
   | refine LeO.bind ?_ (fun _=>?_)
set_option maxHeartbeats 8000000 in
set_option maxRecDepth 100000 in
theorem ancepsref40_Given.calls (k:Nat) (P0_:Nat→Prop) (A0:Option Addr) (c0:Nat) (l0:List (S34)) (a1:Int) (a2:Int) (r1:List (S34)) (r2:Int) (w:World) (hs0:Kd.V k34 34 w w.heap.size (fun k_=>P0_ k_) (.slice A0 l0.length c0) l0) (h:ancepsref40_Given.f k l0 a1 a2=some (r1,r2)) :
  Calls Try.prog 54 #[.slice A0 l0.length c0,.int .i64 a1,.int .i64 a2] w fun e w'=>∃ v0_:Value,e=.returned (.tuple #[v0_,.int .i64 r2])∧Kd.N k34 34 w' w.heap.size (fun k_=>(P0_ k_∨w.heap.size≤k_)) v0_ r1∧Below w.heap.size w w':=by
 have hu34:=Try.underlying34
 have HO0:=zA (show Kd.V k34 34 w w.heap.size (fun k_=>(P0_ k_∨w.heap.size≤k_)) (.slice A0 l0.length c0) l0 from Kd.V_mono hs0 (fun k_ hk=>.inl hk))
 have HB:=zA (Below.refl w.heap.size w)
 have H:((ancepsref40_Valid.f k l0).bind fun t666=>(if t666=0 then (if a1<0 then (some (([]:List (S34)),6)) else (if a1>23 then (some (([]:List (S34)),6)) else (if a2<0 then (some (([]:List (S34)),6)) else (if a2>1 then (some (([]:List (S34)),6)) else (if (l0.length:Int)=16 then (some (([]:List (S34)),3)) else ((some (([]:List (S34)):List (S34))).bind fun y667=>(if y667.length+l0.length<2932031007402 then ((some (y667++l0:List (S34))).bind fun y670=>(if y670.length<2932031007402 then (some ((y670++[(⟨(([a1]:List Int)),(([a2]:List Int))⟩:S34)]),0)) else (none))) else (none)))))))) else (some (([]:List (S34)),t666))))=some (r1,r2):=h
 clear h
 replace H:=Option.bind_eq_some_iff.mp H
 obtain ⟨t666,A40,H⟩:=H
 replace H:(if t666=0 then (if a1<0 then (some (([]:List (S34)),6)) else (if a1>23 then (some (([]:List (S34)),6)) else (if a2<0 then (some (([]:List (S34)),6)) else (if a2>1 then (some (([]:List (S34)),6)) else (if (l0.length:Int)=16 then (some (([]:List (S34)),3)) else ((some (([]:List (S34)):List (S34))).bind fun y667=>(if y667.length+l0.length<2932031007402 then ((some (y667++l0:List (S34))).bind fun y670=>(if y670.length<2932031007402 then (some ((y670++[(⟨(([a1]:List Int)),(([a2]:List Int))⟩:S34)]),0)) else (none))) else (none)))))))) else (some (([]:List (S34)),t666)))=some (r1,r2):=H
 have A4:=zA A40
 clear A40
 have HC5:=zA H
 clear H
 go_enter Try.func54,Try.ntmps54
 go_upto_if 12 with (first|((with_reducible refine gate_callee (f:=26) rfl ?_);refine goesL_ (some 10) rfl rfl Try.func26 zK rfl #[.slice A0 l0.length c0] rfl zM ?_;(with_reducible refine (ancepsref40_Valid.calls k _ _ l0 t666 _ ?side1 ?side2 A4.out).mono ?_);(case side1=>exact zC (Kd.V_reads' HO0.out).2.2);(case side2=>exact (Kd.V_reads' HO0.out).2.1);rintro e w6 ⟨rfl,hb⟩;refine ⟨_,rfl,?_⟩;replace HO0:=zA (Kd.V_below (zV HO0) hb);replace HB:=zA (below_step zB hb);(try clear hb);(try clear hb2);(try clear hk);(try clear hi)))
 (try simp only [Act.put,zi,zs,zt])
 have H:=HC5.out
 clear HC5
 by_cases c7:t666=0
 ·rw [if_pos c7] at H
  have c7b0:(t666 == 0)=true:=beq_iff_eq.mpr c7
  have c7b1:(t666 != 0)=false:=bne_eq_false_iff_eq.mpr c7
  clear c7
  (first|rw [c7b0]|(simp only [i64_w,i32_w];rw [c7b0])|skip)
  (try rw [c7b1])
  by_cases c8:a1<0
  ·rw [if_pos c8] at H
   have c8b0:decide (a1<0)=true:=decide_eq_true c8
   clear c8
   simp only [Option.some.injEq,Prod.mk.injEq] at H
   obtain ⟨rfl,rfl⟩:=H
   go_wp2
   go_ret2
   exact ⟨_,ze,by first|exact Kd.S_nil _ _ _ _ _|exact Kd.N_nil _ _ _ _ _|exact Kd.V_nil _ _ _ _ _|exact Kd.Q_nil _ _ _ _ _|exact Kd.R_nil _ _ _ _ _,by repeat (first|(with_reducible first|exact HB.out|apply below_alloc|apply pw_below_drewN|apply below_drew1)|exact HB.out)⟩
  ·rw [if_neg c8] at H
   have c8b0:decide (a1<0)=false:=decide_eq_false c8
   clear c8
   by_cases c9:a1>23
   ·rw [if_pos c9] at H
    have c9b0:decide (23<a1)=true:=decide_eq_true c9
    clear c9
    simp only [Option.some.injEq,Prod.mk.injEq] at H
    obtain ⟨rfl,rfl⟩:=H
    go_wp2
    go_ret2
    exact ⟨_,ze,by first|exact Kd.S_nil _ _ _ _ _|exact Kd.N_nil _ _ _ _ _|exact Kd.V_nil _ _ _ _ _|exact Kd.Q_nil _ _ _ _ _|exact Kd.R_nil _ _ _ _ _,by repeat (first|(with_reducible first|exact HB.out|apply below_alloc|apply pw_below_drewN|apply below_drew1)|exact HB.out)⟩
   ·rw [if_neg c9] at H
    have c9b0:decide (23<a1)=false:=decide_eq_false c9
    clear c9
    by_cases c10:a2<0
    ·rw [if_pos c10] at H
     have c10b0:decide (a2<0)=true:=decide_eq_true c10
     clear c10
     simp only [Option.some.injEq,Prod.mk.injEq] at H
     obtain ⟨rfl,rfl⟩:=H
     go_wp2
     go_ret2
     exact ⟨_,ze,by first|exact Kd.S_nil _ _ _ _ _|exact Kd.N_nil _ _ _ _ _|exact Kd.V_nil _ _ _ _ _|exact Kd.Q_nil _ _ _ _ _|exact Kd.R_nil _ _ _ _ _,by repeat (first|(with_reducible first|exact HB.out|apply below_alloc|apply pw_below_drewN|apply below_drew1)|exact HB.out)⟩
    ·rw [if_neg c10] at H
     have c10b0:decide (a2<0)=false:=decide_eq_false c10
     clear c10
     by_cases c11:a2>1
     ·rw [if_pos c11] at H
      have c11b0:decide (1<a2)=true:=decide_eq_true c11
      clear c11
      simp only [Option.some.injEq,Prod.mk.injEq] at H
      obtain ⟨rfl,rfl⟩:=H
      go_wp2
      go_ret2
      exact ⟨_,ze,by first|exact Kd.S_nil _ _ _ _ _|exact Kd.N_nil _ _ _ _ _|exact Kd.V_nil _ _ _ _ _|exact Kd.Q_nil _ _ _ _ _|exact Kd.R_nil _ _ _ _ _,by repeat (first|(with_reducible first|exact HB.out|apply below_alloc|apply pw_below_drewN|apply below_drew1)|exact HB.out)⟩
     ·rw [if_neg c11] at H
      have c11b0:decide (1<a2)=false:=decide_eq_false c11
      clear c11
      by_cases c12:(l0.length:Int)=16
      ·rw [if_pos c12] at H
       have c12b0:((l0.length:Int) == 16)=true:=beq_iff_eq.mpr c12
       have c12b1:((l0.length:Int) != 16)=false:=bne_eq_false_iff_eq.mpr c12
       clear c12
       simp only [Option.some.injEq,Prod.mk.injEq] at H
       obtain ⟨rfl,rfl⟩:=H
       go_wp2
       go_ret2
       exact ⟨_,ze,by first|exact Kd.S_nil _ _ _ _ _|exact Kd.N_nil _ _ _ _ _|exact Kd.V_nil _ _ _ _ _|exact Kd.Q_nil _ _ _ _ _|exact Kd.R_nil _ _ _ _ _,by repeat (first|(with_reducible first|exact HB.out|apply below_alloc|apply pw_below_drewN|apply below_drew1)|exact HB.out)⟩
      ·rw [if_neg c12] at H
       have c12b0:((l0.length:Int) == 16)=false:=beq_eq_false_iff_ne.mpr c12
       have c12b1:((l0.length:Int) != 16)=true:=bne_iff_ne.mpr c12
       obtain ⟨y667,hy667⟩:∃ y_:List (S34),y_=(([]:List (S34))):=⟨_,rfl⟩
       replace H:(if y667.length+l0.length<2932031007402 then ((some (y667++l0:List (S34))).bind fun y670=>(if y670.length<2932031007402 then (some ((y670++[(⟨(([a1]:List Int)),(([a2]:List Int))⟩:S34)]),0)) else (none))) else (none))=some (r1,r2):=by first|(rw [hy667];with_reducible exact H)|(have H2_:=(Option.bind_some _ _).symm.trans H;rw [hy667];with_reducible exact H2_)|(have H2_:=(Option.bind_some _ _).symm.trans H;with_reducible exact H2_)|with_reducible exact H|(rw [hy667];exact H)|exact H
       have Ny667:=zA hy667
       clear hy667
       by_cases c13:y667.length+l0.length<2932031007402
       ·rw [if_pos c13] at H
        have LMc13:=zA c13
        clear c13
        obtain ⟨y670,hy670⟩:∃ y_:List (S34),y_=(y667++l0):=⟨_,rfl⟩
        replace H:(if y670.length<2932031007402 then (some ((y670++[(⟨(([a1]:List Int)),(([a2]:List Int))⟩:S34)]),0)) else (none))=some (r1,r2):=by first|(rw [hy670];with_reducible exact H)|(have H2_:=(Option.bind_some _ _).symm.trans H;rw [hy670];with_reducible exact H2_)|(have H2_:=(Option.bind_some _ _).symm.trans H;with_reducible exact H2_)|with_reducible exact H|(rw [hy670];exact H)|exact H
        have Ny670:=zA hy670
        clear hy670
        obtain ⟨y673,hy673⟩:∃ y_:List Int,y_=(([a1]:List Int)):=⟨_,rfl⟩
        replace H:(if y670.length<2932031007402 then (some ((y670++[(⟨y673,(([a2]:List Int))⟩:S34)]),0)) else (none))=some (r1,r2):=by first|(rw [hy673];with_reducible exact H)|(have H2_:=(Option.bind_some _ _).symm.trans H;rw [hy673];with_reducible exact H2_)|(have H2_:=(Option.bind_some _ _).symm.trans H;with_reducible exact H2_)|with_reducible exact H|(rw [hy673];exact H)|exact H
        have Ny673:=zA hy673
        clear hy673
        obtain ⟨y676,hy676⟩:∃ y_:List Int,y_=(([a2]:List Int)):=⟨_,rfl⟩
        replace H:(if y670.length<2932031007402 then (some ((y670++[(⟨y673,y676⟩:S34)]),0)) else (none))=some (r1,r2):=by first|(rw [hy676];with_reducible exact H)|(have H2_:=(Option.bind_some _ _).symm.trans H;rw [hy676];with_reducible exact H2_)|(have H2_:=(Option.bind_some _ _).symm.trans H;with_reducible exact H2_)|with_reducible exact H|(rw [hy676];exact H)|exact H
        have Ny676:=zA hy676
        clear hy676
        by_cases c14:y670.length<2932031007402
        ·rw [if_pos c14] at H
         have LMc14:=zA c14
         clear c14
         obtain ⟨y679,hy679⟩:∃ y_:List (S34),y_=(y670++[(⟨y673,y676⟩:S34)]):=⟨_,rfl⟩
         replace H:(some (y679,0))=some (r1,r2):=by first|(rw [hy679];with_reducible exact H)|(have H2_:=(Option.bind_some _ _).symm.trans H;rw [hy679];with_reducible exact H2_)|(have H2_:=(Option.bind_some _ _).symm.trans H;with_reducible exact H2_)|with_reducible exact H|(rw [hy679];exact H)|exact H
         have Ny679:=zA hy679
         clear hy679
         simp only [Option.some.injEq,Prod.mk.injEq] at H
         obtain ⟨rfl,rfl⟩:=H
         go_wp2_with (first|((with_reducible refine gate_dst (N:=31) rfl ?_);refine Kd.N_lit k34 _ 34 ?hg (N':=31) ?hd (xs:=([]:List (S34))) (inner:=[]) (ok:=(fun k_=>(P0_ k_∨w.heap.size≤k_))) (okp:=(fun k_=>(P0_ k_∨w.heap.size≤k_))) ?hr ?hp (fun _ hk=>hk) ((show ∀ k_,w6.heap.size≤k_→(fun k_=>(P0_ k_∨w.heap.size≤k_)) k_ from fun k_ hk=>(.inr (Nat.le_trans (below_size zB) hk))) _ (Nat.le_refl _)) (Below.refl _ _) (Nat.le_refl _) (by simp) ?_;(case hd=>rfl);(case hg=>rfl);(case hr=>first|(go_simp;done)|(go_simp;rfl));(case hp=>exact (Reps.none _ _));intro v668 w15 ho16 hb hg_ hnew_;clear hg_ hnew_;(first|rw [← Ny667.out] at ho16|(simp only [Int.reduceToNat] at ho16;rw [← Ny667.out] at ho16));have HO669:=zA (Kd.N_lower ho16 (below_size zB));replace HO0:=zA (Kd.V_elder' (zV HO0) (Kd.N_base ho16) hb);replace HB:=zA (below_step zB hb);clear hb ho16)|((with_reducible refine gate_builtin (b:=.append) (xs:=#[.tmp 31,.tmp 32]) rfl ?_);at_builtin;refine Kd.N_append_rows k34 (w0:=w) w.heap.size rfl (.tmp 31) (.tmp 32) 22 34 (.agg #[(.slice none 0 0),(.slice none 0 0)]) 48 rfl Try.underlying22 info34 rfl (by decide) (by omega) v668 y667 l0 _ _ _ (fun k_=>(P0_ k_∨w.heap.size≤k_)) (fun k_=>((fun k_=>(P0_ k_∨w.heap.size≤k_))) k_∧some k_≠(v668:Value).ownBlock) rfl rfl ?aO ?aR (fun _ hk=>hk) ?aF ?aB ?aS ?aL ?_;(case aR=>exact (by skip;exact Kd.V_F (Kd.V_mono (ok':=(fun k_=>((fun k_=>(P0_ k_∨w.heap.size≤k_))) k_∧some k_≠(v668:Value).ownBlock)) (HO0.out) (fun k_ hk=>⟨hk.1,hk.2⟩))));(case aB=>exact zB);(case aF=>exact (fun k_ hk=>(.inr (Nat.le_trans (below_size zB) hk))));(case aO=>exact (zN HO669));(case aS=>exact (below_size zB));(case aL=>have:=LMc13.out;omega);intro v671 w17 ho hb hg hat;rw [← Ny670.out] at ho;have HO672:=zA (ho);replace HO0:=zA (Kd.V_afterv (ok:=(fun k_=>(P0_ k_∨w.heap.size≤k_))) (zV HO0) hg hat);replace HB:=zA (hb);clear HO669;clear ho hb hg hat)|((with_reducible refine gate_dst (N:=35) rfl ?_);refine Kd.R_lit (Kd.int .i64) _ 3 ?hg (N:=35) ?hd (xs:=([a1]:List Int)) (inner:=[.int .i64 a1]) (ok:=fun _=>True) (okp:=fun _=>True) ?hr ?hp (fun _ hk=>hk) trivial (Below.refl _ _) (Nat.le_refl _) (by simp) ?_;(case hd=>rfl);(case hg=>rfl);(case hr=>first|(go_simp;done)|(go_simp;rfl));(case hp=>exact (Reps.one (show Kd.M (Kd.int .i64) _ _ _ a1 [.int .i64 a1] from rfl) (Reps.none _ _)));intro v674 w18 ho19 hb hg_ hnew_;clear hg_ hnew_;(first|rw [← Ny673.out] at ho19|(simp only [Int.reduceToNat] at ho19;rw [← Ny673.out] at ho19));have HO675:=zA (Kd.R_lower (Kd.R_newM (M:=fun k_=>(w.heap.size≤k_)) ho19 (below_size zB) (fun k_ h_=>h_)) (below_size zB));replace HO0:=zA (Kd.V_elder' (zV HO0) (Kd.R_base ho19) hb);replace HO672:=zA (Kd.N_elder' (zN HO672) (Kd.R_base ho19) hb);replace HB:=zA (below_step zB hb);clear hb ho19)|((with_reducible refine gate_dst (N:=37) rfl ?_);refine Kd.R_lit (Kd.int .i64) _ 3 ?hg (N:=37) ?hd (xs:=([a2]:List Int)) (inner:=[.int .i64 a2]) (ok:=fun _=>True) (okp:=fun _=>True) ?hr ?hp (fun _ hk=>hk) trivial (Below.refl _ _) (Nat.le_refl _) (by simp) ?_;(case hd=>rfl);(case hg=>rfl);(case hr=>first|(go_simp;done)|(go_simp;rfl));(case hp=>exact (Reps.one (show Kd.M (Kd.int .i64) _ _ _ a2 [.int .i64 a2] from rfl) (Reps.none _ _)));intro v677 w20 ho21 hb hg_ hnew_;clear hg_ hnew_;(first|rw [← Ny676.out] at ho21|(simp only [Int.reduceToNat] at ho21;rw [← Ny676.out] at ho21));have HO678:=zA (Kd.R_lower (Kd.R_new' (Kd.R_newM (M:=fun k_=>(w.heap.size≤k_)) ho21 (below_size zB) (fun k_ h_=>h_)) (Kd.R_lt (zR HO675))) (below_size zB));replace HO0:=zA (Kd.V_elder' (zV HO0) (Kd.R_base ho21) hb);replace HO672:=zA (Kd.N_elder' (zN HO672) (Kd.R_base ho21) hb);replace HO675:=zA (Kd.R_elder' (zR HO675) (Kd.R_base ho21) hb);replace HB:=zA (below_step zB hb);clear hb ho21;obtain ⟨Ao22,co22,eo22⟩:=Kd.R_slice HO678.out;subst eo22;obtain ⟨Ao23,co23,eo23⟩:=Kd.R_slice HO675.out;subst eo23)|((with_reducible refine gate_builtin (b:=.append) (xs:=#[.tmp 33,.tmp 39]) rfl ?_);at_builtin;refine Kd.N_append k34 (w0:=w) w.heap.size rfl (.tmp 33) (.tmp 39) 22 34 (.agg #[(.slice none 0 0),(.slice none 0 0)]) 48 rfl Try.underlying22 info34 rfl (by decide) (by omega) v671 y670 (⟨y673,y676⟩:S34) [.slice Ao23 y673.length co23,.slice Ao22 y676.length co22] (fun k_=>(P0_ k_∨w.heap.size≤k_)) (fun k_=>((fun k_=>(P0_ k_∨w.heap.size≤k_))) k_∧some k_≠(v671:Value).ownBlock) rfl rfl ?aP (fun _ hk=>hk) ?aF ?aO ?aB ?aS ?aL ?_;(case aP=>exact (k34_mkF _ _ (⟨y673,y676⟩:S34) (Kd.R_reads' (Kd.R_mono (ok':=(fun k_=>((fun k_=>(P0_ k_∨w.heap.size≤k_))) k_∧some k_≠(v671:Value).ownBlock)) (Kd.R_apart' (HO675.out) (Kd.N_typed HO672.out) (by decide)) (fun k_ hk=>⟨(.inr (hk.1.1.1)),hk.2⟩))).2.1 (Kd.R_F (Kd.R_mono (ok':=(fun k_=>((fun k_=>(P0_ k_∨w.heap.size≤k_))) k_∧some k_≠(v671:Value).ownBlock)) (Kd.R_apart' (HO675.out) (Kd.N_typed HO672.out) (by decide)) (fun k_ hk=>⟨(.inr (hk.1.1.1)),hk.2⟩))) (Kd.R_reads' (Kd.R_mono (ok':=(fun k_=>((fun k_=>(P0_ k_∨w.heap.size≤k_))) k_∧some k_≠(v671:Value).ownBlock)) (Kd.R_apart' (HO678.out) (Kd.N_typed HO672.out) (by decide)) (fun k_ hk=>⟨(.inr (hk.1.1.1)),hk.2⟩))).2.1 (Kd.R_F (Kd.R_mono (ok':=(fun k_=>((fun k_=>(P0_ k_∨w.heap.size≤k_))) k_∧some k_≠(v671:Value).ownBlock)) (Kd.R_apart' (HO678.out) (Kd.N_typed HO672.out) (by decide)) (fun k_ hk=>⟨(.inr (hk.1.1.1)),hk.2⟩)))));(case aB=>exact zB);(case aF=>exact (fun k_ hk=>(.inr (Nat.le_trans (below_size zB) hk))));(case aO=>exact (by (with_reducible repeat (first|apply Kd.N_alloc|apply Kd.N_drewN|apply Kd.N_drew));exact Kd.N_mono HO672.out (fun _ hk=>hk.1.1)));(case aS=>exact (below_size zB));(case aL=>have:=LMc14.out;omega);intro v680 w24 ho hb hg hat;rw [← Ny679.out] at ho;have HO681:=zA (ho);replace HO0:=zA (Kd.V_afterv (ok:=(fun k_=>(P0_ k_∨w.heap.size≤k_)∧some k_≠(.slice Ao23 y673.length co23:Value).ownBlock∧some k_≠(.slice Ao22 y676.length co22:Value).ownBlock)) (by (with_reducible repeat (first|apply Kd.V_alloc|apply Kd.V_drewN|apply Kd.V_drew));exact Kd.V_mono HO0.out (fun _ hk=>⟨⟨hk.1.1.1,⟨hk.1.2,hk.2⟩⟩,hk.1.1.2⟩)) hg hat);replace HB:=zA (hb);clear HO672 HO675 HO678;clear ho hb hg hat))
         go_ret2
         exact ⟨_,ze,by (with_reducible repeat (first|apply Kd.N_alloc|apply Kd.N_drewN|apply Kd.N_drew));exact HO681.out,by repeat (first|(with_reducible first|exact HB.out|apply below_alloc|apply pw_below_drewN|apply below_drew1)|exact HB.out)⟩
        ·rw [if_neg c14] at H
         exact absurd H (by simp)
       ·rw [if_neg c13] at H
        exact absurd H (by simp)
 ·rw [if_neg c7] at H
  have c7b0:(t666 == 0)=false:=beq_eq_false_iff_ne.mpr c7
  have c7b1:(t666 != 0)=true:=bne_iff_ne.mpr c7
  (first|rw [c7b0]|(simp only [i64_w,i32_w];rw [c7b0])|skip)
  (try rw [c7b1])
  simp only [Option.some.injEq,Prod.mk.injEq] at H
  obtain ⟨rfl,rfl⟩:=H
  go_wp2
  go_ret2
  exact ⟨_,ze,by first|exact Kd.S_nil _ _ _ _ _|exact Kd.N_nil _ _ _ _ _|exact Kd.V_nil _ _ _ _ _|exact Kd.Q_nil _ _ _ _ _|exact Kd.R_nil _ _ _ _ _,by repeat (first|(with_reducible first|exact HB.out|apply below_alloc|apply pw_below_drewN|apply below_drew1)|exact HB.out)⟩
def ancepsref41_with.f (k:Nat) (l0:List (S34)) (a1:Int) (a2:Int):Option (Int×Bool):=(ancepsref40_Given.f k l0 a1 a2).bind fun bt682=>((ancepsref40_First.f k bt682.1).bind fun bt686=>(some (bt686.1,(bt686.2 == 0))))
theorem ancepsref41_with.mono:∀ a0 a1 a2 k,LeO (ancepsref41_with.f k a0 a1 a2) (ancepsref41_with.f (k+1) a0 a1 a2):=by
 intro a0 a1 a2 k
 unfold ancepsref41_with.f
 repeat' first
   | (with_reducible exact ancepsref40_First.mono _ _)
   | (with_reducible exact ancepsref40_Given.mono _ _ _ _)
   | (with_reducible exact LeO.refl _)
   | (with_reducible exact LeO.none _)
   | (with_reducible refine LeO.ite ?_ ?_)
   | (with_reducible refine LeO.bind ?_ (fun _=>?_))
   | exact LeO.none _
   | refine LeO.ite ?_ ?_
   | refine LeO.bind ?_ (fun _=>?_)
set_option maxHeartbeats 8000000 in
set_option maxRecDepth 100000 in
theorem ancepsref41_with.calls (k:Nat) (A0:Option Addr) (c0:Nat) (l0:List (S34)) (a1:Int) (a2:Int) (r1:Int) (r2:Bool) (w:World) (hr0:Kd.C k34 w A0 l0.length l0) (hc0:l0.length≤c0) (h:ancepsref41_with.f k l0 a1 a2=some (r1,r2)) :
  Calls Try.prog 35 #[.slice A0 l0.length c0,.int .i64 a1,.int .i64 a2] w fun e w'=>e=.returned (.tuple #[.int .i64 r1,.bool r2])∧Below w.heap.size w w':=by
 have HR0:=zA hr0
 have HC0:=zA hc0
 clear hr0 hc0
 have HB:=zA (Below.refl w.heap.size w)
 have H:((ancepsref40_Given.f k l0 a1 a2).bind fun bt682=>((ancepsref40_First.f k bt682.1).bind fun bt686=>(some (bt686.1,(bt686.2 == 0)))))=some (r1,r2):=h
 clear h
 replace H:=Option.bind_eq_some_iff.mp H
 obtain ⟨⟨t682,t685⟩,A40,H⟩:=H
 replace H:((ancepsref40_First.f k t682).bind fun bt686=>(some (bt686.1,(bt686.2 == 0))))=some (r1,r2):=H
 have A4:=zA A40
 clear A40
 replace H:=Option.bind_eq_some_iff.mp H
 obtain ⟨⟨t686,t687⟩,A50,H⟩:=H
 replace H:(some (t686,(t687 == 0)))=some (r1,r2):=H
 have A5:=zA A50
 clear A50
 simp only [Option.some.injEq,Prod.mk.injEq] at H
 obtain ⟨rfl,rfl⟩:=H
 go_enter Try.func35,Try.ntmps35
 go_wp2_with (first|((with_reducible refine gate_callee (f:=54) rfl ?_);refine goesL_ (some 16) rfl rfl Try.func54 zK rfl #[.slice A0 l0.length c0,.int .i64 a1,.int .i64 a2] rfl zM ?_;(with_reducible refine (ancepsref40_Given.calls k (fun k_=>k_<w.heap.size) _ _ l0 a1 a2 t682 t685 _ ?side1 A4.out).mono ?_);(case side1=>exact Kd.V_mk HC0.out (Kd.F_below (Kd.C_F k34_heap HR0.out) zB));rintro e w6 ⟨v683,rfl,ho0,hb⟩;refine ⟨_,rfl,?_⟩;have HO684:=zA (Kd.N_lower (Kd.N_mono (ok':=fun k_=>True) ho0 (fun k_ hk_=>trivial)) (below_size zB));replace HB:=zA (below_step zB hb);(try clear hb);(try clear hb2);(try clear hk);(try clear hi);(try clear ho0);obtain ⟨Ao7,co7,eo7⟩:=Kd.N_slice HO684.out;subst eo7)|((with_reducible refine gate_callee (f:=53) rfl ?_);refine goesL_ (some 21) rfl rfl Try.func53 zK rfl #[.slice Ao7 t682.length co7] rfl zM ?_;(with_reducible refine (ancepsref40_First.calls k _ _ t682 t686 t687 _ ?side1 ?side2 A5.out).mono ?_);(case side1=>exact zC (Kd.N_reads' HO684.out).2.2);(case side2=>exact (Kd.N_reads' HO684.out).2.1);rintro e w8 ⟨rfl,hb⟩;refine ⟨_,rfl,?_⟩;replace HO684:=zA (Kd.N_below (zN HO684) hb);replace HB:=zA (below_step zB hb);(try clear hb);(try clear hb2);(try clear hk);(try clear hi)))
 go_ret2
 exact ⟨ze,by repeat (first|(with_reducible first|exact HB.out|apply below_alloc|apply pw_below_drewN|apply below_drew1)|exact HB.out)⟩
def ancepsref41_Value.f (k:Nat) (l0:List (S34)) (a1:Int):Option (Int×Int):=(ancepsref41_given.f k l0).bind fun t688=>(if t688=0 then (if a1<0 then (some (0,6)) else (if a1≥24 then (some (0,6)) else ((ancepsref41_solvable.f k l0).bind fun t689=>(if t689=true then ((ancepsref40_Vars.f k l0).bind fun t690=>((ancepsref41_has.f k t690 a1).bind fun t693=>(if t693=true then ((ancepsref41_with.f k l0 a1 0).bind fun bt694=>((ancepsref41_with.f k l0 a1 1).bind fun bt696=>(if bt694.2=true then (if bt696.2=true then (some (3,0)) else (some (1,0))) else (if bt696.2=true then (some (2,0)) else (some (1,0)))))) else (some (0,4))))) else (some (0,12)))))) else (some (0,t688)))
theorem ancepsref41_Value.mono:∀ a0 a1 k,LeO (ancepsref41_Value.f k a0 a1) (ancepsref41_Value.f (k+1) a0 a1):=by
 intro a0 a1 k
 unfold ancepsref41_Value.f
 repeat' first
   | (with_reducible exact ancepsref40_Vars.mono _ _)
   | (with_reducible exact ancepsref41_given.mono _ _)
   | (with_reducible exact ancepsref41_has.mono _ _ _)
   | (with_reducible exact ancepsref41_solvable.mono _ _)
   | (with_reducible exact ancepsref41_with.mono _ _ _ _)
   | (with_reducible exact LeO.refl _)
   | (with_reducible exact LeO.none _)
   | (with_reducible refine LeO.ite ?_ ?_)
   | (with_reducible refine LeO.bind ?_ (fun _=>?_))
   | exact LeO.none _
   | refine LeO.ite ?_ ?_
   | refine LeO.bind ?_ (fun _=>?_)
set_option maxHeartbeats 8000000 in
set_option maxRecDepth 100000 in
theorem ancepsref41_Value.calls (k:Nat) (A0:Option Addr) (c0:Nat) (l0:List (S34)) (a1:Int) (r1:Int) (r2:Int) (w:World) (hr0:Kd.C k34 w A0 l0.length l0) (hc0:l0.length≤c0) (h:ancepsref41_Value.f k l0 a1=some (r1,r2)) :
  Calls Try.prog 10 #[.slice A0 l0.length c0,.int .i64 a1] w fun e w'=>e=.returned (.tuple #[.int .i64 r1,.int .i64 r2])∧Below w.heap.size w w':=by
 have HR0:=zA hr0
 have HC0:=zA hc0
 clear hr0 hc0
 have HB:=zA (Below.refl w.heap.size w)
 have H:((ancepsref41_given.f k l0).bind fun t688=>(if t688=0 then (if a1<0 then (some (0,6)) else (if a1≥24 then (some (0,6)) else ((ancepsref41_solvable.f k l0).bind fun t689=>(if t689=true then ((ancepsref40_Vars.f k l0).bind fun t690=>((ancepsref41_has.f k t690 a1).bind fun t693=>(if t693=true then ((ancepsref41_with.f k l0 a1 0).bind fun bt694=>((ancepsref41_with.f k l0 a1 1).bind fun bt696=>(if bt694.2=true then (if bt696.2=true then (some (3,0)) else (some (1,0))) else (if bt696.2=true then (some (2,0)) else (some (1,0)))))) else (some (0,4))))) else (some (0,12)))))) else (some (0,t688))))=some (r1,r2):=h
 clear h
 replace H:=Option.bind_eq_some_iff.mp H
 obtain ⟨t688,A30,H⟩:=H
 replace H:(if t688=0 then (if a1<0 then (some (0,6)) else (if a1≥24 then (some (0,6)) else ((ancepsref41_solvable.f k l0).bind fun t689=>(if t689=true then ((ancepsref40_Vars.f k l0).bind fun t690=>((ancepsref41_has.f k t690 a1).bind fun t693=>(if t693=true then ((ancepsref41_with.f k l0 a1 0).bind fun bt694=>((ancepsref41_with.f k l0 a1 1).bind fun bt696=>(if bt694.2=true then (if bt696.2=true then (some (3,0)) else (some (1,0))) else (if bt696.2=true then (some (2,0)) else (some (1,0)))))) else (some (0,4))))) else (some (0,12)))))) else (some (0,t688)))=some (r1,r2):=H
 have A3:=zA A30
 clear A30
 have HC4:=zA H
 clear H
 go_enter Try.func10,Try.ntmps10
 go_upto_if 14 with (first|((with_reducible refine gate_callee (f:=32) rfl ?_);refine goesL_ (some 12) rfl rfl Try.func32 zK rfl #[.slice A0 l0.length c0] rfl zM ?_;(with_reducible refine (ancepsref41_given.calls k _ _ l0 t688 _ ?side1 ?side2 A3.out).mono ?_);(case side1=>repeat (first|exact HR0.out|(with_reducible refine Kd.C_alloc ?_ _)|(with_reducible refine Kd.C_drewN ?_ _)|(with_reducible refine Kd.C_drew ?_)));(case side2=>exact HC0.out);rintro e w5 ⟨rfl,hb⟩;refine ⟨_,rfl,?_⟩;replace HB:=zA (below_step zB hb);(try clear hb);(try clear hb2);(try clear hk);(try clear hi)))
 (try simp only [Act.put,zi,zs,zt])
 have H:=HC4.out
 clear HC4
 by_cases c6:t688=0
 ·rw [if_pos c6] at H
  have c6b0:(t688 == 0)=true:=beq_iff_eq.mpr c6
  have c6b1:(t688 != 0)=false:=bne_eq_false_iff_eq.mpr c6
  clear c6
  (first|rw [c6b0]|(simp only [i64_w,i32_w];rw [c6b0])|skip)
  (try rw [c6b1])
  by_cases c7:a1<0
  ·rw [if_pos c7] at H
   have c7b0:decide (a1<0)=true:=decide_eq_true c7
   clear c7
   simp only [Option.some.injEq,Prod.mk.injEq] at H
   obtain ⟨rfl,rfl⟩:=H
   go_wp2
   go_ret2
   exact ⟨ze,by repeat (first|(with_reducible first|exact HB.out|apply below_alloc|apply pw_below_drewN|apply below_drew1)|exact HB.out)⟩
  ·rw [if_neg c7] at H
   have c7b0:decide (a1<0)=false:=decide_eq_false c7
   clear c7
   by_cases c8:a1≥24
   ·rw [if_pos c8] at H
    have c8b0:decide (24≤a1)=true:=decide_eq_true c8
    clear c8
    simp only [Option.some.injEq,Prod.mk.injEq] at H
    obtain ⟨rfl,rfl⟩:=H
    go_wp2
    go_ret2
    exact ⟨ze,by repeat (first|(with_reducible first|exact HB.out|apply below_alloc|apply pw_below_drewN|apply below_drew1)|exact HB.out)⟩
   ·rw [if_neg c8] at H
    have c8b0:decide (24≤a1)=false:=decide_eq_false c8
    clear c8
    replace H:=Option.bind_eq_some_iff.mp H
    obtain ⟨t689,A90,H⟩:=H
    replace H:(if t689=true then ((ancepsref40_Vars.f k l0).bind fun t690=>((ancepsref41_has.f k t690 a1).bind fun t693=>(if t693=true then ((ancepsref41_with.f k l0 a1 0).bind fun bt694=>((ancepsref41_with.f k l0 a1 1).bind fun bt696=>(if bt694.2=true then (if bt696.2=true then (some (3,0)) else (some (1,0))) else (if bt696.2=true then (some (2,0)) else (some (1,0)))))) else (some (0,4))))) else (some (0,12)))=some (r1,r2):=H
    have A9:=zA A90
    clear A90
    have HC10:=zA H
    clear H
    go_upto_if 24 with (first|((with_reducible refine gate_callee (f:=33) rfl ?_);refine goesL_ (some 23) rfl rfl Try.func33 zK rfl #[.slice A0 l0.length c0] rfl zM ?_;(with_reducible refine (ancepsref41_solvable.calls k _ _ l0 t689 _ ?side1 ?side2 A9.out).mono ?_);(case side1=>exact zC (Kd.C_below HR0.out HB.out));(case side2=>exact HC0.out);rintro e w11 ⟨rfl,hb⟩;refine ⟨_,rfl,?_⟩;replace HB:=zA (below_step zB hb);(try clear hb);(try clear hb2);(try clear hk);(try clear hi)))
    (try simp only [Act.put,zi,zs,zt])
    have H:=HC10.out
    clear HC10
    by_cases c12:t689=true
    ·subst c12
     have H1:((ancepsref40_Vars.f k l0).bind fun t690=>((ancepsref41_has.f k t690 a1).bind fun t693=>(if t693=true then ((ancepsref41_with.f k l0 a1 0).bind fun bt694=>((ancepsref41_with.f k l0 a1 1).bind fun bt696=>(if bt694.2=true then (if bt696.2=true then (some (3,0)) else (some (1,0))) else (if bt696.2=true then (some (2,0)) else (some (1,0)))))) else (some (0,4)))))=some (r1,r2):=by rw [if_pos rfl] at H;exact H
     clear H
     have H:=H1
     clear H1
     replace H:=Option.bind_eq_some_iff.mp H
     obtain ⟨t690,A130,H⟩:=H
     replace H:((ancepsref41_has.f k t690 a1).bind fun t693=>(if t693=true then ((ancepsref41_with.f k l0 a1 0).bind fun bt694=>((ancepsref41_with.f k l0 a1 1).bind fun bt696=>(if bt694.2=true then (if bt696.2=true then (some (3,0)) else (some (1,0))) else (if bt696.2=true then (some (2,0)) else (some (1,0)))))) else (some (0,4))))=some (r1,r2):=H
     have A13:=zA A130
     clear A130
     replace H:=Option.bind_eq_some_iff.mp H
     obtain ⟨t693,A140,H⟩:=H
     replace H:(if t693=true then ((ancepsref41_with.f k l0 a1 0).bind fun bt694=>((ancepsref41_with.f k l0 a1 1).bind fun bt696=>(if bt694.2=true then (if bt696.2=true then (some (3,0)) else (some (1,0))) else (if bt696.2=true then (some (2,0)) else (some (1,0)))))) else (some (0,4)))=some (r1,r2):=H
     have A14:=zA A140
     clear A140
     have HC15:=zA H
     clear H
     go_upto_if 29 with (first|((with_reducible refine gate_callee (f:=16) rfl ?_);refine goesL_ (some 26) rfl rfl Try.func16 zK rfl #[.slice A0 l0.length c0] rfl zM ?_;(with_reducible refine (ancepsref40_Vars.calls k _ _ l0 t690 _ ?side1 ?side2 A13.out).mono ?_);(case side1=>exact zC (Kd.C_below HR0.out HB.out));(case side2=>exact HC0.out);rintro e w16 ⟨v691,rfl,ho0,hb⟩;refine ⟨_,rfl,?_⟩;have HO692:=zA (Kd.R_lower ho0 (below_size zB));replace HB:=zA (below_step zB hb);(try clear hb);(try clear hb2);(try clear hk);(try clear hi);(try clear ho0);obtain ⟨Ao17,co17,eo17⟩:=Kd.R_slice HO692.out;subst eo17)|((with_reducible refine gate_callee (f:=34) rfl ?_);refine goesL_ (some 28) rfl rfl Try.func34 zK rfl #[.slice Ao17 t690.length co17,.int .i64 a1] rfl zM ?_;(with_reducible refine (ancepsref41_has.calls k _ _ t690 a1 t693 _ ?side1 ?side2 A14.out).mono ?_);(case side1=>exact zC (Kd.R_reads' HO692.out).2.2);(case side2=>exact (Kd.R_reads' HO692.out).2.1);rintro e w' ⟨rfl,⟨nd,rfl⟩⟩;refine ⟨_,rfl,?_⟩))
     (try simp only [Act.put,zi,zs,zt])
     have H:=HC15.out
     clear HC15
     by_cases c18:t693=true
     ·subst c18
      have H1:((ancepsref41_with.f k l0 a1 0).bind fun bt694=>((ancepsref41_with.f k l0 a1 1).bind fun bt696=>(if bt694.2=true then (if bt696.2=true then (some (3,0)) else (some (1,0))) else (if bt696.2=true then (some (2,0)) else (some (1,0))))))=some (r1,r2):=by rw [if_pos rfl] at H;exact H
      clear H
      have H:=H1
      clear H1
      replace H:=Option.bind_eq_some_iff.mp H
      obtain ⟨⟨t694,t695⟩,A190,H⟩:=H
      replace H:((ancepsref41_with.f k l0 a1 1).bind fun bt696=>(if t695=true then (if bt696.2=true then (some (3,0)) else (some (1,0))) else (if bt696.2=true then (some (2,0)) else (some (1,0)))))=some (r1,r2):=H
      have A19:=zA A190
      clear A190
      replace H:=Option.bind_eq_some_iff.mp H
      obtain ⟨⟨t696,t697⟩,A200,H⟩:=H
      replace H:(if t695=true then (if t697=true then (some (3,0)) else (some (1,0))) else (if t697=true then (some (2,0)) else (some (1,0))))=some (r1,r2):=H
      have A20:=zA A200
      clear A200
      have HC21:=zA H
      clear H
      go_upto_region 12 with (first|((with_reducible refine gate_callee (f:=35) rfl ?_);refine goesL_ (some 33) rfl rfl Try.func35 zK rfl #[.slice A0 l0.length c0,.int .i64 a1,.int .i64 0] rfl zM ?_;(with_reducible refine (ancepsref41_with.calls k _ _ l0 a1 0 t694 t695 _ ?side1 ?side2 A19.out).mono ?_);(case side1=>exact zC (Kd.C_below HR0.out HB.out));(case side2=>exact HC0.out);rintro e w22 ⟨rfl,hb⟩;refine ⟨_,rfl,?_⟩;replace HO692:=zA (Kd.R_below (zR HO692) hb);replace HB:=zA (below_step zB hb);(try clear hb);(try clear hb2);(try clear hk);(try clear hi))|((with_reducible refine gate_callee (f:=35) rfl ?_);refine goesL_ (some 39) rfl rfl Try.func35 zK rfl #[.slice A0 l0.length c0,.int .i64 a1,.int .i64 1] rfl zM ?_;(with_reducible refine (ancepsref41_with.calls k _ _ l0 a1 1 t696 t697 _ ?side1 ?side2 A20.out).mono ?_);(case side1=>exact zC (Kd.C_below HR0.out HB.out));(case side2=>exact HC0.out);rintro e w23 ⟨rfl,hb⟩;refine ⟨_,rfl,?_⟩;replace HO692:=zA (Kd.R_below (zR HO692) hb);replace HB:=zA (below_step zB hb);(try clear hb);(try clear hb2);(try clear hk);(try clear hi)))
      (try simp only [Act.put,zi,zs,zt])
      have H:=HC21.out
      clear HC21
      by_cases c24:t695=true
      ·subst c24
       have H1:(if t697=true then (some (3,0)) else (some (1,0)))=some (r1,r2):=by rw [if_pos rfl] at H;exact H
       clear H
       have H:=H1
       clear H1
       by_cases c25:t697=true
       ·subst c25
        have H1:(some (3,0))=some (r1,r2):=by rw [if_pos rfl] at H;exact H
        clear H
        have H:=H1
        clear H1
        simp only [Option.some.injEq,Prod.mk.injEq] at H
        obtain ⟨rfl,rfl⟩:=H
        go_wp2
        go_ret2
        exact ⟨ze,by repeat (first|(with_reducible first|exact HB.out|apply below_alloc|apply pw_below_drewN|apply below_drew1)|exact HB.out)⟩
       ·replace c25:=Bool.eq_false_iff.mpr c25
        subst c25
        have H1:(some (1,0))=some (r1,r2):=by rw [if_neg (show ¬ (false=true) by decide)] at H;exact H
        clear H
        have H:=H1
        clear H1
        simp only [Option.some.injEq,Prod.mk.injEq] at H
        obtain ⟨rfl,rfl⟩:=H
        go_wp2
        go_ret2
        exact ⟨ze,by repeat (first|(with_reducible first|exact HB.out|apply below_alloc|apply pw_below_drewN|apply below_drew1)|exact HB.out)⟩
      ·replace c24:=Bool.eq_false_iff.mpr c24
       subst c24
       have H1:(if t697=true then (some (2,0)) else (some (1,0)))=some (r1,r2):=by rw [if_neg (show ¬ (false=true) by decide)] at H;exact H
       clear H
       have H:=H1
       clear H1
       by_cases c26:t697=true
       ·subst c26
        have H1:(some (2,0))=some (r1,r2):=by rw [if_pos rfl] at H;exact H
        clear H
        have H:=H1
        clear H1
        simp only [Option.some.injEq,Prod.mk.injEq] at H
        obtain ⟨rfl,rfl⟩:=H
        go_wp2
        go_ret2
        exact ⟨ze,by repeat (first|(with_reducible first|exact HB.out|apply below_alloc|apply pw_below_drewN|apply below_drew1)|exact HB.out)⟩
       ·replace c26:=Bool.eq_false_iff.mpr c26
        subst c26
        have H1:(some (1,0))=some (r1,r2):=by rw [if_neg (show ¬ (false=true) by decide)] at H;exact H
        clear H
        have H:=H1
        clear H1
        simp only [Option.some.injEq,Prod.mk.injEq] at H
        obtain ⟨rfl,rfl⟩:=H
        go_wp2
        go_ret2
        exact ⟨ze,by repeat (first|(with_reducible first|exact HB.out|apply below_alloc|apply pw_below_drewN|apply below_drew1)|exact HB.out)⟩
     ·replace c18:=Bool.eq_false_iff.mpr c18
      subst c18
      have H1:(some (0,4))=some (r1,r2):=by rw [if_neg (show ¬ (false=true) by decide)] at H;exact H
      clear H
      have H:=H1
      clear H1
      simp only [Option.some.injEq,Prod.mk.injEq] at H
      obtain ⟨rfl,rfl⟩:=H
      go_wp2
      go_ret2
      exact ⟨ze,by repeat (first|(with_reducible first|exact HB.out|apply below_alloc|apply pw_below_drewN|apply below_drew1)|exact HB.out)⟩
    ·replace c12:=Bool.eq_false_iff.mpr c12
     subst c12
     have H1:(some (0,12))=some (r1,r2):=by rw [if_neg (show ¬ (false=true) by decide)] at H;exact H
     clear H
     have H:=H1
     clear H1
     simp only [Option.some.injEq,Prod.mk.injEq] at H
     obtain ⟨rfl,rfl⟩:=H
     go_wp2
     go_ret2
     exact ⟨ze,by repeat (first|(with_reducible first|exact HB.out|apply below_alloc|apply pw_below_drewN|apply below_drew1)|exact HB.out)⟩
 ·rw [if_neg c6] at H
  have c6b0:(t688 == 0)=false:=beq_eq_false_iff_ne.mpr c6
  have c6b1:(t688 != 0)=true:=bne_iff_ne.mpr c6
  (first|rw [c6b0]|(simp only [i64_w,i32_w];rw [c6b0])|skip)
  (try rw [c6b1])
  simp only [Option.some.injEq,Prod.mk.injEq] at H
  obtain ⟨rfl,rfl⟩:=H
  go_wp2
  go_ret2
  exact ⟨ze,by repeat (first|(with_reducible first|exact HB.out|apply below_alloc|apply pw_below_drewN|apply below_drew1)|exact HB.out)⟩
def ancepslaw41_SharedValue.l0:Nat→Int→Int→Int→List Int→Int→Int→Option (Bool)
 | 0,_,_,_,_,_,_=>none
 | k+1,x1,x5,x11,x64,x65,x66=>if x66<x65 then (if 0≤x66 then (if x66<(x64.length:Int) then (if 0≤x1 then (if 0≤(Go.bits .and .i64 (shr .i64 (rd x64 x66) x1) 1) then (ancepslaw41_SharedValue.l0 k x1 x5 (Go.bits .or .i64 x11 (shl .i64 1 (Go.bits .and .i64 (shr .i64 (rd x64 x66) x1) 1))) x64 x65 (wrap64 (x66+1))) else (none)) else (none)) else (none)) else (none)) else (some (x11 == x5))
def ancepslaw41_SharedValue.f (k:Nat) (l0:List (S34)) (a1:Int):Option (Bool):=(ancepslaw41_awake.f k).bind fun t702=>(if t702=true then ((ancepsref41_FewTables.f k l0).bind fun t703=>(if t703=true then ((ancepslaw41_own.f k l0).bind fun t704=>((shared_Value.f k t704 a1).bind fun bt707=>((ancepsref41_Value.f k l0 a1).bind fun bt709=>(if bt707.1=bt709.1 then (if bt707.2=bt709.2 then (if bt707.2=0 then ((ancepsref40_All.f k l0).bind fun bt711=>(if bt711.2=0 then (ancepslaw41_SharedValue.l0 k a1 bt707.1 0 bt711.1 (bt711.1.length:Int) 0) else (some (bt711.2 == 3)))) else (some (bt707.2 == bt709.2))) else (some (bt707.2 == bt709.2))) else (none))))) else ((ancepslaw41_awake.f k).bind fun t716=>(some t716)))) else ((ancepslaw41_awake.f k).bind fun t717=>(some t717)))
theorem ancepslaw41_SharedValue.mono_l:∀ k,(∀ y0 y1 y2 y3 y4 y5,LeO (ancepslaw41_SharedValue.l0 k y0 y1 y2 y3 y4 y5) (ancepslaw41_SharedValue.l0 (k+1) y0 y1 y2 y3 y4 y5))
 | 0=>fun _ _ _ _ _ _ r h=>by simp [ancepslaw41_SharedValue.l0] at h
 | k+1=>by
  have ih0:=ancepslaw41_SharedValue.mono_l k
  ·intro y0 y1 y2 y3 y4 y5
   unfold ancepslaw41_SharedValue.l0
   repeat' first
   | (with_reducible exact ih0 _ _ _ _ _ _)
   | (with_reducible exact ancepslaw41_awake.mono _)
   | (with_reducible exact ancepslaw41_own.mono _ _)
   | (with_reducible exact ancepsref40_All.mono _ _)
   | (with_reducible exact ancepsref41_FewTables.mono _ _)
   | (with_reducible exact ancepsref41_Value.mono _ _ _)
   | (with_reducible exact shared_Value.mono _ _ _)
   | (with_reducible exact LeO.refl _)
   | (with_reducible exact LeO.none _)
   | (with_reducible refine LeO.ite ?_ ?_)
   | (with_reducible refine LeO.bind ?_ (fun _=>?_))
   | exact LeO.none _
   | refine LeO.ite ?_ ?_
   | refine LeO.bind ?_ (fun _=>?_)
theorem ancepslaw41_SharedValue.mono:∀ a0 a1 k,LeO (ancepslaw41_SharedValue.f k a0 a1) (ancepslaw41_SharedValue.f (k+1) a0 a1):=by
 intro a0 a1 k
 have ih0:=ancepslaw41_SharedValue.mono_l k
 unfold ancepslaw41_SharedValue.f
 repeat' first
   | (with_reducible exact ih0 _ _ _ _ _ _)
   | (with_reducible exact ancepslaw41_awake.mono _)
   | (with_reducible exact ancepslaw41_own.mono _ _)
   | (with_reducible exact ancepsref40_All.mono _ _)
   | (with_reducible exact ancepsref41_FewTables.mono _ _)
   | (with_reducible exact ancepsref41_Value.mono _ _ _)
   | (with_reducible exact shared_Value.mono _ _ _)
   | (with_reducible exact LeO.refl _)
   | (with_reducible exact LeO.none _)
   | (with_reducible refine LeO.ite ?_ ?_)
   | (with_reducible refine LeO.bind ?_ (fun _=>?_))
   | exact LeO.none _
   | refine LeO.ite ?_ ?_
   | refine LeO.bind ?_ (fun _=>?_)
set_option maxHeartbeats 8000000 in
set_option maxRecDepth 100000 in
theorem ancepslaw41_SharedValue.calls (k:Nat) (A0:Option Addr) (c0:Nat) (l0:List (S34)) (a1:Int) (r:Bool) (w:World) (hr0:Kd.C k34 w A0 l0.length l0) (hc0:l0.length≤c0) (h:ancepslaw41_SharedValue.f k l0 a1=some r) :
  Calls Try.prog 3 #[.slice A0 l0.length c0,.int .i64 a1] w fun e w'=>e=.returned (.bool r)∧Below w.heap.size w w':=by
 have hu3:=Try.underlying3
 have HR0:=zA hr0
 have HC0:=zA hc0
 clear hr0 hc0
 have HB:=zA (Below.refl w.heap.size w)
 have H:((ancepslaw41_awake.f k).bind fun t702=>(if t702=true then ((ancepsref41_FewTables.f k l0).bind fun t703=>(if t703=true then ((ancepslaw41_own.f k l0).bind fun t704=>((shared_Value.f k t704 a1).bind fun bt707=>((ancepsref41_Value.f k l0 a1).bind fun bt709=>(if bt707.1=bt709.1 then (if bt707.2=bt709.2 then (if bt707.2=0 then ((ancepsref40_All.f k l0).bind fun bt711=>(if bt711.2=0 then (ancepslaw41_SharedValue.l0 k a1 bt707.1 0 bt711.1 (bt711.1.length:Int) 0) else (some (bt711.2 == 3)))) else (some (bt707.2 == bt709.2))) else (some (bt707.2 == bt709.2))) else (none))))) else ((ancepslaw41_awake.f k).bind fun t716=>(some t716)))) else ((ancepslaw41_awake.f k).bind fun t717=>(some t717))))=some r:=h
 clear h
 replace H:=Option.bind_eq_some_iff.mp H
 obtain ⟨t702,A30,H⟩:=H
 replace H:(if t702=true then ((ancepsref41_FewTables.f k l0).bind fun t703=>(if t703=true then ((ancepslaw41_own.f k l0).bind fun t704=>((shared_Value.f k t704 a1).bind fun bt707=>((ancepsref41_Value.f k l0 a1).bind fun bt709=>(if bt707.1=bt709.1 then (if bt707.2=bt709.2 then (if bt707.2=0 then ((ancepsref40_All.f k l0).bind fun bt711=>(if bt711.2=0 then (ancepslaw41_SharedValue.l0 k a1 bt707.1 0 bt711.1 (bt711.1.length:Int) 0) else (some (bt711.2 == 3)))) else (some (bt707.2 == bt709.2))) else (some (bt707.2 == bt709.2))) else (none))))) else ((ancepslaw41_awake.f k).bind fun t716=>(some t716)))) else ((ancepslaw41_awake.f k).bind fun t717=>(some t717)))=some r:=H
 have A3:=zA A30
 clear A30
 by_cases c4:t702=true
 ·subst c4
  have H1:((ancepsref41_FewTables.f k l0).bind fun t703=>(if t703=true then ((ancepslaw41_own.f k l0).bind fun t704=>((shared_Value.f k t704 a1).bind fun bt707=>((ancepsref41_Value.f k l0 a1).bind fun bt709=>(if bt707.1=bt709.1 then (if bt707.2=bt709.2 then (if bt707.2=0 then ((ancepsref40_All.f k l0).bind fun bt711=>(if bt711.2=0 then (ancepslaw41_SharedValue.l0 k a1 bt707.1 0 bt711.1 (bt711.1.length:Int) 0) else (some (bt711.2 == 3)))) else (some (bt707.2 == bt709.2))) else (some (bt707.2 == bt709.2))) else (none))))) else ((ancepslaw41_awake.f k).bind fun t716=>(some t716))))=some r:=by rw [if_pos rfl] at H;exact H
  clear H
  have H:=H1
  clear H1
  replace H:=Option.bind_eq_some_iff.mp H
  obtain ⟨t703,A50,H⟩:=H
  replace H:(if t703=true then ((ancepslaw41_own.f k l0).bind fun t704=>((shared_Value.f k t704 a1).bind fun bt707=>((ancepsref41_Value.f k l0 a1).bind fun bt709=>(if bt707.1=bt709.1 then (if bt707.2=bt709.2 then (if bt707.2=0 then ((ancepsref40_All.f k l0).bind fun bt711=>(if bt711.2=0 then (ancepslaw41_SharedValue.l0 k a1 bt707.1 0 bt711.1 (bt711.1.length:Int) 0) else (some (bt711.2 == 3)))) else (some (bt707.2 == bt709.2))) else (some (bt707.2 == bt709.2))) else (none))))) else ((ancepslaw41_awake.f k).bind fun t716=>(some t716)))=some r:=H
  have A5:=zA A50
  clear A50
  have HC6:=zA H
  clear H
  go_enter Try.func3,Try.ntmps3
  go_upto_if 20 with (first|((with_reducible refine gate_callee (f:=6) rfl ?_);refine goesL_ (some 14) rfl rfl Try.func6 zK rfl #[] rfl zM ?_;(with_reducible refine (ancepslaw41_awake.calls k  true _ A3.out).mono ?_);rintro e w7 ⟨rfl,hb⟩;refine ⟨_,rfl,?_⟩;replace HB:=zA (below_step zB hb);(try clear hb);(try clear hb2);(try clear hk);(try clear hi))|(go_at_call 7;(with_reducible refine (ancepsref41_FewTables.calls k _ _ l0 t703 _ ?side1 ?side2 A5.out).mono ?_);(case side1=>exact zC (Kd.C_below HR0.out HB.out));(case side2=>exact HC0.out);rintro e w8 ⟨rfl,hb⟩;replace HB:=zA (below_step zB hb);(try clear hb);(try clear hb2);(try clear hk);(try clear hi)))
  (try simp only [Act.put,zi,zs,zt])
  have H:=HC6.out
  clear HC6
  by_cases c9:t703=true
  ·subst c9
   have H1:((ancepslaw41_own.f k l0).bind fun t704=>((shared_Value.f k t704 a1).bind fun bt707=>((ancepsref41_Value.f k l0 a1).bind fun bt709=>(if bt707.1=bt709.1 then (if bt707.2=bt709.2 then (if bt707.2=0 then ((ancepsref40_All.f k l0).bind fun bt711=>(if bt711.2=0 then (ancepslaw41_SharedValue.l0 k a1 bt707.1 0 bt711.1 (bt711.1.length:Int) 0) else (some (bt711.2 == 3)))) else (some (bt707.2 == bt709.2))) else (some (bt707.2 == bt709.2))) else (none)))))=some r:=by rw [if_pos rfl] at H;exact H
   clear H
   have H:=H1
   clear H1
   replace H:=Option.bind_eq_some_iff.mp H
   obtain ⟨t704,A100,H⟩:=H
   replace H:((shared_Value.f k t704 a1).bind fun bt707=>((ancepsref41_Value.f k l0 a1).bind fun bt709=>(if bt707.1=bt709.1 then (if bt707.2=bt709.2 then (if bt707.2=0 then ((ancepsref40_All.f k l0).bind fun bt711=>(if bt711.2=0 then (ancepslaw41_SharedValue.l0 k a1 bt707.1 0 bt711.1 (bt711.1.length:Int) 0) else (some (bt711.2 == 3)))) else (some (bt707.2 == bt709.2))) else (some (bt707.2 == bt709.2))) else (none))))=some r:=H
   have A10:=zA A100
   clear A100
   replace H:=Option.bind_eq_some_iff.mp H
   obtain ⟨⟨t707,t708⟩,A110,H⟩:=H
   replace H:((ancepsref41_Value.f k l0 a1).bind fun bt709=>(if t707=bt709.1 then (if t708=bt709.2 then (if t708=0 then ((ancepsref40_All.f k l0).bind fun bt711=>(if bt711.2=0 then (ancepslaw41_SharedValue.l0 k a1 t707 0 bt711.1 (bt711.1.length:Int) 0) else (some (bt711.2 == 3)))) else (some (t708 == bt709.2))) else (some (t708 == bt709.2))) else (none)))=some r:=H
   have A11:=zA A110
   clear A110
   replace H:=Option.bind_eq_some_iff.mp H
   obtain ⟨⟨t709,t710⟩,A120,H⟩:=H
   replace H:(if t707=t709 then (if t708=t710 then (if t708=0 then ((ancepsref40_All.f k l0).bind fun bt711=>(if bt711.2=0 then (ancepslaw41_SharedValue.l0 k a1 t707 0 bt711.1 (bt711.1.length:Int) 0) else (some (bt711.2 == 3)))) else (some (t708 == t710))) else (some (t708 == t710))) else (none))=some r:=H
   have A12:=zA A120
   clear A120
   have HC13:=zA H
   clear H
   go_upto_region 5 with (first|((with_reducible refine gate_callee (f:=9) rfl ?_);refine goesL_ (some 24) rfl rfl Try.func9 zK rfl #[.slice A0 l0.length c0] rfl zM ?_;(with_reducible refine (ancepslaw41_own.calls k _ _ l0 t704 _ ?side1 ?side2 A10.out).mono ?_);(case side1=>exact zC (Kd.C_below HR0.out HB.out));(case side2=>exact HC0.out);rintro e w14 ⟨v705,rfl,ho0,hb⟩;refine ⟨_,rfl,?_⟩;have HO706:=zA (Kd.S_lower ho0 (below_size zB));replace HB:=zA (below_step zB hb);(try clear hb);(try clear hb2);(try clear hk);(try clear hi);(try clear ho0);obtain ⟨Ao15,co15,eo15⟩:=Kd.S_slice HO706.out;subst eo15)|((with_reducible refine gate_callee (f:=8) rfl ?_);refine goesL_ (some 26) rfl rfl Try.func8 zK rfl #[.slice Ao15 t704.length co15,.int .i64 a1] rfl zM ?_;(with_reducible refine (shared_Value.calls k _ _ t704 a1 t707 t708 _ ?side1 ?side2 A11.out).mono ?_);(case side1=>exact zC (Kd.S_reads' HO706.out).2.2);(case side2=>exact (Kd.S_reads' HO706.out).2.1);rintro e w16 ⟨rfl,hb⟩;refine ⟨_,rfl,?_⟩;replace HO706:=zA (Kd.S_below (zS HO706) hb);replace HB:=zA (below_step zB hb);(try clear hb);(try clear hb2);(try clear hk);(try clear hi))|((with_reducible refine gate_callee (f:=10) rfl ?_);refine goesL_ (some 32) rfl rfl Try.func10 zK rfl #[.slice A0 l0.length c0,.int .i64 a1] rfl zM ?_;(with_reducible refine (ancepsref41_Value.calls k _ _ l0 a1 t709 t710 _ ?side1 ?side2 A12.out).mono ?_);(case side1=>exact zC (Kd.C_below HR0.out HB.out));(case side2=>exact HC0.out);rintro e w17 ⟨rfl,hb⟩;refine ⟨_,rfl,?_⟩;replace HO706:=zA (Kd.S_below (zS HO706) hb);replace HB:=zA (below_step zB hb);(try clear hb);(try clear hb2);(try clear hk);(try clear hi)))
   (try simp only [Act.put,zi,zs,zt])
   have H:=HC13.out
   clear HC13
   by_cases c18:t707=t709
   ·rw [if_pos c18] at H
    have c18b0:(t707 == t709)=true:=beq_iff_eq.mpr c18
    have c18b1:(t707 != t709)=false:=bne_eq_false_iff_eq.mpr c18
    clear c18
    (first|rw [c18b0]|(simp only [i64_w,i32_w];rw [c18b0])|skip)
    (try rw [c18b1])
    by_cases c19:t708=t710
    ·rw [if_pos c19] at H
     have c19b0:(t708 == t710)=true:=beq_iff_eq.mpr c19
     have c19b1:(t708 != t710)=false:=bne_eq_false_iff_eq.mpr c19
     clear c19
     by_cases c20:t708=0
     ·rw [if_pos c20] at H
      have c20b0:(t708 == 0)=true:=beq_iff_eq.mpr c20
      have c20b1:(t708 != 0)=false:=bne_eq_false_iff_eq.mpr c20
      clear c20
      replace H:=Option.bind_eq_some_iff.mp H
      obtain ⟨⟨t711,t712⟩,A210,H⟩:=H
      replace H:(if t712=0 then (ancepslaw41_SharedValue.l0 k a1 t707 0 t711 (t711.length:Int) 0) else (some (t712 == 3)))=some r:=H
      have A21:=zA A210
      clear A210
      have HC22:=zA H
      clear H
      go_upto_if 61 with (first|((with_reducible refine gate_callee (f:=11) rfl ?_);refine goesL_ (some 57) rfl rfl Try.func11 zK rfl #[.slice A0 l0.length c0] rfl zM ?_;(with_reducible refine (ancepsref40_All.calls k _ _ l0 t711 t712 _ ?side1 ?side2 A21.out).mono ?_);(case side1=>exact zC (Kd.C_below HR0.out HB.out));(case side2=>exact HC0.out);rintro e w23 ⟨v713,rfl,ho0,hb⟩;refine ⟨_,rfl,?_⟩;have HO714:=zA (Kd.R_lower ho0 (below_size zB));replace HO706:=zA (Kd.S_elder' (zS HO706) (Kd.R_base ho0) hb);replace HB:=zA (below_step zB hb);(try clear hb);(try clear hb2);(try clear hk);(try clear hi);(try clear ho0)))
      (try simp only [Act.put,zi,zs,zt])
      have H:=HC22.out
      clear HC22
      by_cases c24:t712=0
      ·rw [if_pos c24] at H
       have c24b0:(t712 == 0)=true:=beq_iff_eq.mpr c24
       have c24b1:(t712 != 0)=false:=bne_eq_false_iff_eq.mpr c24
       clear c24
       (first|rw [c24b0]|(simp only [i64_w,i32_w];rw [c24b0])|skip)
       (try rw [c24b1])
       have H':=zA H
       clear H
       obtain ⟨Ao25,co25,eo25⟩:=Kd.R_slice HO714.out
       subst eo25
       go_wp2
       go_loopg [11,66] k (fun kq v11 v66 w'=>∃ (x11_1:Int) (x66_1:Int),v11=.int .i64 x11_1∧v66=.int .i64 x66_1∧Aside0 (ancepslaw41_SharedValue.l0 kq a1 t707 x11_1 t711 (t711.length:Int) x66_1=some r)∧Aside0 (kq≤k)∧Aside0 (Kd.R (Kd.int .i64) 3 w' w.heap.size (fun _=>True) (.slice Ao25 t711.length co25) t711)∧Aside0 (Below w.heap.size w w'))
       case atStart=>exact ⟨(0),(0),zT,zT,H',⟨Nat.le_refl _⟩,⟨by refine zr ?_;exact HO714.out⟩,⟨by repeat (first|(with_reducible first|exact HB.out|apply below_alloc|apply pw_below_drewN|apply below_drew1)|exact HB.out)⟩⟩
       case round=>
        clear H'
        try clear c4
        try clear c9
        try clear c18
        try clear c18b0
        try clear c18b1
        try clear c19
        try clear c19b0
        try clear c19b1
        try clear c20
        try clear c20b0
        try clear c20b1
        try clear c24
        try clear c24b0
        try clear c24b1
        obtain ⟨x11_1,x66_1,rfl,rfl,HA,HK1,HO_64,HB⟩:=hrel
        cases gk with
        | zero=>exact absurd HA.out (by simp [ancepslaw41_SharedValue.l0])
        | succ k1=>
         have H:=HA.out
         clear HA
         simp only [ancepslaw41_SharedValue.l0] at H
         by_cases c26:x66_1<(t711.length:Int)
         ·rw [if_pos c26] at H
          have c26b0:decide (x66_1<(t711.length:Int))=true:=decide_eq_true c26
          clear c26
          by_cases c27:0≤x66_1
          ·rw [if_pos c27] at H
           have c27b0:decide (0≤x66_1)=true:=decide_eq_true c27
           clear c27
           by_cases c28:x66_1<(t711.length:Int)
           ·rw [if_pos c28] at H
            have c28b0:decide (x66_1<(t711.length:Int))=true:=decide_eq_true c28
            clear c28
            by_cases c29:0≤a1
            ·rw [if_pos c29] at H
             have c29b0:=eq_true c29
             have c29b1:decide (0≤a1)=true:=decide_eq_true c29
             clear c29
             obtain ⟨ji30,hji30⟩:∃ j_:Int,(shr .i64 (rd t711 x66_1) a1)=j_:=⟨_,rfl⟩
             replace H:(if 0≤(Go.bits .and .i64 (ji30) 1) then (ancepslaw41_SharedValue.l0 k1 a1 t707 (Go.bits .or .i64 x11_1 (shl .i64 1 (Go.bits .and .i64 (ji30) 1))) t711 (t711.length:Int) (wrap64 (x66_1+1))) else (none))=some r:=by first|(rw [hji30] at H;exact H)|(simp only [hji30] at H ⊢;exact H)
             have hji30_:((rd t711 x66_1) / 2 ^ min a1.toNat 64)=ji30:=hji30
             have hji30z:a1≤64→((rd t711 x66_1) / 2 ^ a1.toNat)=ji30:=shr_small hji30
             by_cases c31:0≤(Go.bits .and .i64 (ji30) 1)
             ·rw [if_pos c31] at H
              have c31b0:=eq_true c31
              have c31b1:decide (0≤(Go.bits .and .i64 (ji30) 1))=true:=decide_eq_true c31
              clear c31
              obtain ⟨ji32,hji32⟩:∃ j_:Int,(shl .i64 1 (Go.bits .and .i64 (ji30) 1))=j_:=⟨_,rfl⟩
              replace H:(ancepslaw41_SharedValue.l0 k1 a1 t707 (Go.bits .or .i64 x11_1 (ji32)) t711 (t711.length:Int) (wrap64 (x66_1+1)))=some r:=by first|(rw [hji32] at H;exact H)|(simp only [hji32] at H ⊢;exact H)
              have hji32_:(IntKind.i64.wrap (1 * 2 ^ min (Go.bits .and .i64 (ji30) 1).toNat 64))=ji32:=hji32
              have hji32z:(Go.bits .and .i64 (ji30) 1)≤64→(IntKind.i64.wrap (1 * 2 ^ (Go.bits .and .i64 (ji30) 1).toNat))=ji32:=shl_small hji32
              have hji32u:(IntKind.i64.wrap (2 ^ min (Go.bits .and .i64 (ji30) 1).toNat 64))=ji32:=by have h_:=hji32_;rw [Int.one_mul] at h_;exact h_
              have hji32v:(Go.bits .and .i64 (ji30) 1)≤64→(IntKind.i64.wrap (2 ^ (Go.bits .and .i64 (ji30) 1).toNat))=ji32:=fun hle_=>by have h_:=hji32z hle_;rw [Int.one_mul] at h_;exact h_
              have hji32y:(wrap64 (1 * 2 ^ min (Go.bits .and .i64 (ji30) 1).toNat 64))=ji32:=(i64_w _).symm.trans hji32_
              have hji32x:(Go.bits .and .i64 (ji30) 1)≤64→(wrap64 (1 * 2 ^ (Go.bits .and .i64 (ji30) 1).toNat))=ji32:=fun h_=>(i64_w _).symm.trans (hji32z h_)
              have H':=zA H
              clear H
              have p715:0≤(x66_1:Int):=of_decide_eq_true zh
              have q715:x66_1<(t711.length:Int):=of_decide_eq_true zh
              obtain ⟨ad715,e715,hx715_0⟩:=Kd.at_int (Kd.R_reads' HO_64.out).2.2 x66_1 p715 q715
              cases e715
              replace p715:=eq_true p715
              replace q715:=eq_true q715
              go_wp2
              go_roundg k1
              case measure=>have:=HK1.out;omega
              case rel=>exact ⟨(Go.bits .or .i64 x11_1 (ji32)),(wrap64 (x66_1+1)),(by first|rfl|(simp;done)|(simp only [← hji32] <;> (first|rfl|simp))|(simp [*];done)),zT,H',⟨by have:=HK1.out;omega⟩,⟨by refine zr ?_;exact HO_64.out⟩,⟨by repeat (first|(with_reducible first|exact HB.out|apply below_alloc|apply pw_below_drewN|apply below_drew1)|exact HB.out)⟩⟩
             ·rw [if_neg c31] at H
              exact absurd H (by simp)
            ·rw [if_neg c29] at H
             exact absurd H (by simp)
           ·rw [if_neg c28] at H
            exact absurd H (by simp)
          ·rw [if_neg c27] at H
           exact absurd H (by simp)
         ·rw [if_neg c26] at H
          have c26b0:decide (x66_1<(t711.length:Int))=false:=decide_eq_false c26
          clear c26
          obtain rfl:=Option.some.inj H
          go_wp2
          go_ret
          exact ⟨ze,by repeat (first|(with_reducible first|exact HB.out|apply below_alloc|apply pw_below_drewN|apply below_drew1)|exact HB.out)⟩
      ·rw [if_neg c24] at H
       have c24b0:(t712 == 0)=false:=beq_eq_false_iff_ne.mpr c24
       have c24b1:(t712 != 0)=true:=bne_iff_ne.mpr c24
       (first|rw [c24b0]|(simp only [i64_w,i32_w];rw [c24b0])|skip)
       (try rw [c24b1])
       obtain rfl:=Option.some.inj H
       go_wp2
       go_ret
       exact ⟨ze,by repeat (first|(with_reducible first|exact HB.out|apply below_alloc|apply pw_below_drewN|apply below_drew1)|exact HB.out)⟩
     ·rw [if_neg c20] at H
      have c20b0:(t708 == 0)=false:=beq_eq_false_iff_ne.mpr c20
      have c20b1:(t708 != 0)=true:=bne_iff_ne.mpr c20
      obtain rfl:=Option.some.inj H
      go_wp2
      go_ret
      exact ⟨ze,by repeat (first|(with_reducible first|exact HB.out|apply below_alloc|apply pw_below_drewN|apply below_drew1)|exact HB.out)⟩
    ·rw [if_neg c19] at H
     have c19b0:(t708 == t710)=false:=beq_eq_false_iff_ne.mpr c19
     have c19b1:(t708 != t710)=true:=bne_iff_ne.mpr c19
     obtain rfl:=Option.some.inj H
     go_wp2
     go_ret
     exact ⟨ze,by repeat (first|(with_reducible first|exact HB.out|apply below_alloc|apply pw_below_drewN|apply below_drew1)|exact HB.out)⟩
   ·rw [if_neg c18] at H
    exact absurd H (by simp)
  ·replace c9:=Bool.eq_false_iff.mpr c9
   subst c9
   have H1:((ancepslaw41_awake.f k).bind fun t716=>(some t716))=some r:=by rw [if_neg (show ¬ (false=true) by decide)] at H;exact H
   clear H
   have H:=H1
   clear H1
   replace H:=Option.bind_eq_some_iff.mp H
   obtain ⟨t716,A330,H⟩:=H
   replace H:(some t716)=some r:=H
   have A33:=zA A330
   clear A330
   obtain rfl:=Option.some.inj H
   go_wp2_with (first|((with_reducible refine gate_callee (f:=6) rfl ?_);refine goesL_ (some 21) rfl rfl Try.func6 zK rfl #[] rfl zM ?_;(with_reducible refine (ancepslaw41_awake.calls k  t716 _ A33.out).mono ?_);rintro e w34 ⟨rfl,hb⟩;refine ⟨_,rfl,?_⟩;replace HB:=zA (below_step zB hb);(try clear hb);(try clear hb2);(try clear hk);(try clear hi)))
   go_ret
   exact ⟨ze,by repeat (first|(with_reducible first|exact HB.out|apply below_alloc|apply pw_below_drewN|apply below_drew1)|exact HB.out)⟩
 ·replace c4:=Bool.eq_false_iff.mpr c4
  subst c4
  have H1:((ancepslaw41_awake.f k).bind fun t717=>(some t717))=some r:=by rw [if_neg (show ¬ (false=true) by decide)] at H;exact H
  clear H
  have H:=H1
  clear H1
  replace H:=Option.bind_eq_some_iff.mp H
  obtain ⟨t717,A350,H⟩:=H
  replace H:(some t717)=some r:=H
  have A35:=zA A350
  clear A350
  obtain rfl:=Option.some.inj H
  go_enter Try.func3,Try.ntmps3
  go_wp2_with (first|((with_reducible refine gate_callee (f:=6) rfl ?_);refine goesL_ (some 14) rfl rfl Try.func6 zK rfl #[] rfl zM ?_;(with_reducible refine (ancepslaw41_awake.calls k  false _ A3.out).mono ?_);rintro e w36 ⟨rfl,hb⟩;refine ⟨_,rfl,?_⟩;replace HB:=zA (below_step zB hb);(try clear hb);(try clear hb2);(try clear hk);(try clear hi))|((with_reducible refine gate_callee (f:=6) rfl ?_);refine goesL_ (some 21) rfl rfl Try.func6 zK rfl #[] rfl zM ?_;(with_reducible refine (ancepslaw41_awake.calls k  t717 _ A35.out).mono ?_);rintro e w37 ⟨rfl,hb⟩;refine ⟨_,rfl,?_⟩;replace HB:=zA (below_step zB hb);(try clear hb);(try clear hb2);(try clear hk);(try clear hi)))
  go_ret
  exact ⟨ze,by repeat (first|(with_reducible first|exact HB.out|apply below_alloc|apply pw_below_drewN|apply below_drew1)|exact HB.out)⟩
end Go.Proofs.Ytngpkbbljnbojaa.S
