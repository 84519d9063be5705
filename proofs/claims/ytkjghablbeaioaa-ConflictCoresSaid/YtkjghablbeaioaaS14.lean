import Derived.Test.YtkjghablbeaioaaS0
namespace Go.Proofs.Ytkjghablbeaioaa.S
open Go.RowKit Go.Proofs.YtkjghablbeaioaaW.PrintWords Go.Proofs.YtkjghablbeaioaaW.PrintLast Go.Proofs.YtkjghablbeaioaaW.PrintMore
attribute [local go_sem] max2_int min2_int max_two min_two max_three min_three max_four min_four
set_option linter.unusedVariables false
set_option linter.unusedSimpArgs false
mutual
def ancepsref42_Sets.l0:Nat→Int→Int→List (List Int)→Int→Option ((List (List Int)))
 | 0,_,_,_,_=>none
 | k+1,x0,x1,x5,x6=>if x6<x0 then ((ancepsref42_Sets.f k (wrap64 ((wrap64 (x0 - x6)) - 1)) (wrap64 (x1 - 1))).bind fun t594=>(ancepsref42_Sets.l1 k x0 x1 x5 x6 t594 0)) else (some x5)
def ancepsref42_Sets.l1:Nat→Int→Int→List (List Int)→Int→List (List Int)→Int→Option ((List (List Int)))
 | 0,_,_,_,_,_,_=>none
 | k+1,x0,x1,x5,x6,x7,x8=>if x8<(x7.length:Int) then (ancepsref42_Sets.l2 k x0 x1 x5 x6 x7 x8 (([x6]:List Int)) 0) else (ancepsref42_Sets.l0 k x0 x1 x5 (wrap64 (x6+1)))
def ancepsref42_Sets.l2:Nat→Int→Int→List (List Int)→Int→List (List Int)→Int→List Int→Int→Option ((List (List Int)))
 | 0,_,_,_,_,_,_,_,_=>none
 | k+1,x0,x1,x5,x6,x7,x8,x9,x10=>if 0≤x8 then (if x8<(x7.length:Int) then (if x10<((rd_L1 x7 x8).length:Int) then (if 0≤x10 then (if x9.length<17592186044416 then (ancepsref42_Sets.l2 k x0 x1 x5 x6 x7 x8 (x9++[wrap64 ((wrap64 ((rd (rd_L1 x7 x8) x10)+x6))+1)]) (wrap64 (x10+1))) else (none)) else (none)) else (if x5.length<5864062014805 then (ancepsref42_Sets.l1 k x0 x1 (x5++[x9]) x6 x7 (wrap64 (x8+1))) else (none))) else (none)) else (none)
def ancepsref42_Sets.f:Nat→Int→Int→Option ((List (List Int)))
 | 0,_,_=>none
 | k+1,a0,a1=>if a1=0 then (some (([[]]:List (List Int)))) else (ancepsref42_Sets.l0 k a0 a1 ([]:List (List Int)) 0)
end
theorem ancepsref42_Sets.mono_l:∀ k,(∀ y0 y1,LeO (ancepsref42_Sets.f k y0 y1) (ancepsref42_Sets.f (k+1) y0 y1))∧(∀ y0 y1 y2 y3,LeO (ancepsref42_Sets.l0 k y0 y1 y2 y3) (ancepsref42_Sets.l0 (k+1) y0 y1 y2 y3))∧(∀ y0 y1 y2 y3 y4 y5,LeO (ancepsref42_Sets.l1 k y0 y1 y2 y3 y4 y5) (ancepsref42_Sets.l1 (k+1) y0 y1 y2 y3 y4 y5))∧(∀ y0 y1 y2 y3 y4 y5 y6 y7,LeO (ancepsref42_Sets.l2 k y0 y1 y2 y3 y4 y5 y6 y7) (ancepsref42_Sets.l2 (k+1) y0 y1 y2 y3 y4 y5 y6 y7))
 | 0=>⟨fun _ _ r h=>by simp [ancepsref42_Sets.f] at h,fun _ _ _ _ r h=>by simp [ancepsref42_Sets.l0] at h,fun _ _ _ _ _ _ r h=>by simp [ancepsref42_Sets.l1] at h,fun _ _ _ _ _ _ _ _ r h=>by simp [ancepsref42_Sets.l2] at h⟩
 | k+1=>by
  obtain ⟨ih0,ih1,ih2,ih3⟩:=ancepsref42_Sets.mono_l k
  refine ⟨?_,?_,?_,?_⟩
  ·intro y0 y1
   unfold ancepsref42_Sets.f
   repeat' first
   | (with_reducible exact ih0 _ _)
   | (with_reducible exact ih1 _ _ _ _)
   | (with_reducible exact ih2 _ _ _ _ _ _)
   | (with_reducible exact ih3 _ _ _ _ _ _ _ _)
   | (with_reducible exact LeO.refl _)
   | (with_reducible exact LeO.none _)
   | (with_reducible refine LeO.ite ?_ ?_)
   | (with_reducible refine LeO.bind ?_ (fun _=>?_))
   | exact LeO.none _
   | refine LeO.ite ?_ ?_
   | refine LeO.bind ?_ (fun _=>?_)
  ·intro y0 y1 y2 y3
   unfold ancepsref42_Sets.l0
   repeat' first
   | (with_reducible exact ih0 _ _)
   | (with_reducible exact ih1 _ _ _ _)
   | (with_reducible exact ih2 _ _ _ _ _ _)
   | (with_reducible exact ih3 _ _ _ _ _ _ _ _)
   | (with_reducible exact LeO.refl _)
   | (with_reducible exact LeO.none _)
   | (with_reducible refine LeO.ite ?_ ?_)
   | (with_reducible refine LeO.bind ?_ (fun _=>?_))
   | exact LeO.none _
   | refine LeO.ite ?_ ?_
   | refine LeO.bind ?_ (fun _=>?_)
  ·intro y0 y1 y2 y3 y4 y5
   unfold ancepsref42_Sets.l1
   repeat' first
   | (with_reducible exact ih0 _ _)
   | (with_reducible exact ih1 _ _ _ _)
   | (with_reducible exact ih2 _ _ _ _ _ _)
   | (with_reducible exact ih3 _ _ _ _ _ _ _ _)
   | (with_reducible exact LeO.refl _)
   | (with_reducible exact LeO.none _)
   | (with_reducible refine LeO.ite ?_ ?_)
   | (with_reducible refine LeO.bind ?_ (fun _=>?_))
   | exact LeO.none _
   | refine LeO.ite ?_ ?_
   | refine LeO.bind ?_ (fun _=>?_)
  ·intro y0 y1 y2 y3 y4 y5 y6 y7
   unfold ancepsref42_Sets.l2
   repeat' first
   | (with_reducible exact ih0 _ _)
   | (with_reducible exact ih1 _ _ _ _)
   | (with_reducible exact ih2 _ _ _ _ _ _)
   | (with_reducible exact ih3 _ _ _ _ _ _ _ _)
   | (with_reducible exact LeO.refl _)
   | (with_reducible exact LeO.none _)
   | (with_reducible refine LeO.ite ?_ ?_)
   | (with_reducible refine LeO.bind ?_ (fun _=>?_))
   | exact LeO.none _
   | refine LeO.ite ?_ ?_
   | refine LeO.bind ?_ (fun _=>?_)
theorem ancepsref42_Sets.mono:∀ a0 a1 k,LeO (ancepsref42_Sets.f k a0 a1) (ancepsref42_Sets.f (k+1) a0 a1):=by
 intro a0 a1 k
 obtain ⟨ih0,ih1,ih2,ih3⟩:=ancepsref42_Sets.mono_l k
 exact ih0 a0 a1
set_option maxHeartbeats 8000000 in
set_option maxRecDepth 100000 in
theorem ancepsref42_Sets.calls (k:Nat):∀ (a0:Int) (a1:Int) (r:List (List Int)) (w:World) (h:ancepsref42_Sets.f k a0 a1=some r),
  Calls Try.prog 44 #[.int .i64 a0,.int .i64 a1] w fun e w'=>∃ v0_:Value,e=.returned (v0_)∧Kd.S (Kd.slice 3 (Kd.int .i64)) 30 w' w.heap.size (fun _=>True) v0_ r∧Below w.heap.size w w':=by
 induction k using Nat.strongRecOn with
 | _ k ih=>
 intro a0 a1 r w h
 cases k with
 | zero=>exact absurd h (by simp [ancepsref42_Sets.f])
 | succ k=>
 simp only [ancepsref42_Sets.f] at h
 have hu30:=Try.underlying30
 have hu3:=Try.underlying3
 have HB:=zA (Below.refl w.heap.size w)
 have H:(if a1=0 then (some (([[]]:List (List Int)))) else (ancepsref42_Sets.l0 k a0 a1 ([]:List (List Int)) 0))=some r:=h
 clear h
 by_cases c3:a1=0
 ·rw [if_pos c3] at H
  have c3b0:(a1 == 0)=true:=beq_iff_eq.mpr c3
  have c3b1:(a1 != 0)=false:=bne_eq_false_iff_eq.mpr c3
  clear c3
  obtain ⟨y591,hy591⟩:∃ y_:List (List Int),y_=(([[]]:List (List Int))):=⟨_,rfl⟩
  replace H:(some y591)=some r:=by first|(rw [hy591];with_reducible exact H)|(have H2_:=(Option.bind_some _ _).symm.trans H;rw [hy591];with_reducible exact H2_)|(have H2_:=(Option.bind_some _ _).symm.trans H;with_reducible exact H2_)|with_reducible exact H|(rw [hy591];exact H)|exact H
  have Ny591:=zA hy591
  clear hy591
  obtain rfl:=Option.some.inj H
  go_enter Try.func44,Try.ntmps44
  go_wp2_with (first|((with_reducible refine gate_dst (N:=13) rfl ?_);refine Kd.S_lit (Kd.slice 3 (Kd.int .i64)) _ 30 ?hg (N:=13) ?hd (xs:=([[]]:List (List Int))) (inner:=[.slice none 0 0]) (ok:=fun _=>True) (okp:=fun _=>True) ?hr ?hp (fun _ hk=>hk) trivial (Below.refl _ _) (Nat.le_refl _) (by simp) ?_;(case hd=>rfl);(case hg=>rfl);(case hr=>first|(go_simp;done)|(go_simp;rfl));(case hp=>exact (Reps.one (show Kd.M (Kd.slice 3 (Kd.int .i64)) _ _ _ [] [.slice none 0 0] from ⟨_,rfl,Kd.R_nil _ _ _ _ _⟩) (Reps.none _ _)));intro v592 w4 ho5 hb hg_ hnew_;clear hg_ hnew_;(first|rw [← Ny591.out] at ho5|(simp only [Int.reduceToNat] at ho5;rw [← Ny591.out] at ho5));have HO593:=zA (Kd.S_lower ho5 (below_size zB));replace HB:=zA (below_step zB hb);clear hb ho5))
  go_ret
  exact ⟨_,ze,by (with_reducible repeat (first|apply Kd.S_alloc|apply Kd.S_drewN|apply Kd.S_drew));exact HO593.out,by repeat (first|(with_reducible first|exact HB.out|apply below_alloc|apply pw_below_drewN|apply below_drew1)|exact HB.out)⟩
 ·rw [if_neg c3] at H
  have c3b0:(a1 == 0)=false:=beq_eq_false_iff_ne.mpr c3
  have c3b1:(a1 != 0)=true:=bne_iff_ne.mpr c3
  have H':=zA H
  clear H
  go_enter Try.func44,Try.ntmps44
  go_wp2
  go_loopg [5,6] k (fun kq v5 v6 w'=>∃ (x5_1:List (List Int)) (x6_1:Int),v6=.int .i64 x6_1∧Aside0 (ancepsref42_Sets.l0 kq a0 a1 x5_1 x6_1=some r)∧Aside0 (kq≤k)∧Aside0 (Kd.S (Kd.slice 3 (Kd.int .i64)) 30 w' w.heap.size (fun _=>True) v5 x5_1)∧Aside0 (Below w.heap.size w w'))
  case atStart=>exact ⟨(([]:List (List Int))),(0),zT,H',⟨Nat.le_refl _⟩,⟨by first|exact Kd.S_nil _ _ _ _ _|exact Kd.N_nil _ _ _ _ _|exact Kd.V_nil _ _ _ _ _|exact Kd.Q_nil _ _ _ _ _|exact Kd.R_nil _ _ _ _ _⟩,⟨by repeat (first|(with_reducible first|exact HB.out|apply below_alloc|apply pw_below_drewN|apply below_drew1)|exact HB.out)⟩⟩
  case round=>
   clear H'
   try clear c3
   try clear c3b0
   try clear c3b1
   obtain ⟨x5_1,x6_1,rfl,HA,HK1,HO_5,HB⟩:=hrel
   cases gk with
   | zero=>exact absurd HA.out (by simp [ancepsref42_Sets.l0])
   | succ k1=>
    have H:=HA.out
    clear HA
    simp only [ancepsref42_Sets.l0] at H
    by_cases c6:x6_1<a0
    ·rw [if_pos c6] at H
     have c6b0:decide (x6_1<a0)=true:=decide_eq_true c6
     clear c6
     replace H:=Option.bind_eq_some_iff.mp H
     obtain ⟨t594,A70,H⟩:=H
     replace H:(ancepsref42_Sets.l1 k1 a0 a1 x5_1 x6_1 t594 0)=some r:=H
     have A7:=zA A70
     clear A70
     have H':=zA H
     clear H
     go_wp2_with (first|((with_reducible refine gate_callee (f:=44) rfl ?_);refine goesL_ (some 25) rfl rfl Try.func44 zK rfl #[.int .i64 (wrap64 ((wrap64 (a0 - x6_1)) - 1)),.int .i64 (wrap64 (a1 - 1))] rfl zM ?_;(with_reducible refine (ih k1 (by have:=HK1.out;omega) (wrap64 ((wrap64 (a0 - x6_1)) - 1)) (wrap64 (a1 - 1)) t594 _ A7.out).mono ?_);rintro e w8 ⟨v595,rfl,ho0,hb⟩;refine ⟨_,rfl,?_⟩;have HO596:=zA (Kd.S_lower (Kd.S_new' ho0 (Kd.S_lt (zS HO_5))) (below_size zB));replace HO_5:=zA (Kd.S_elder' (zS HO_5) (Kd.S_base ho0) hb);replace HB:=zA (below_step zB hb);(try clear hb);(try clear hb2);(try clear hk);(try clear hi);(try clear ho0)))
     go_loopg [5,8] k1 (fun kq v5 v8 w'=>∃ (x5_2:List (List Int)) (x8_2:Int),v8=.int .i64 x8_2∧Aside0 (ancepsref42_Sets.l1 kq a0 a1 x5_2 x6_1 t594 x8_2=some r)∧Aside0 (kq≤k1)∧Aside0 (Kd.S (Kd.slice 3 (Kd.int .i64)) 30 w' w.heap.size (fun k_=>some k_≠(v595:Value).ownBlock) v5 x5_2)∧Aside0 (Kd.S (Kd.slice 3 (Kd.int .i64)) 30 w' w.heap.size (fun k_=>some k_≠(v5:Value).ownBlock) v595 t594)∧Aside0 (Below w.heap.size w w'))
     case atStart=>exact ⟨(x5_1),(0),zT,H',⟨Nat.le_refl _⟩,⟨by (with_reducible repeat (first|apply Kd.S_alloc|apply Kd.S_drewN|apply Kd.S_drew));exact Kd.S_mono HO_5.out (fun _ hk=>hk.2)⟩,⟨by (with_reducible repeat (first|apply Kd.S_alloc|apply Kd.S_drewN|apply Kd.S_drew));exact Kd.S_mono HO596.out (fun _ hk=>hk.2)⟩,⟨by repeat (first|(with_reducible first|exact HB.out|apply below_alloc|apply pw_below_drewN|apply below_drew1)|exact HB.out)⟩⟩
     case round=>
      clear H'
      try clear c3
      try clear c3b0
      try clear c3b1
      try clear c6
      try clear c6b0
      obtain ⟨x5_2,x8_2,rfl,HA,HK2,HO_5,HO_7,HB⟩:=hrel
      cases gk with
      | zero=>exact absurd HA.out (by simp [ancepsref42_Sets.l1])
      | succ k2=>
       have H:=HA.out
       clear HA
       simp only [ancepsref42_Sets.l1] at H
       by_cases c9:x8_2<(t594.length:Int)
       ·rw [if_pos c9] at H
        have c9b0:decide (x8_2<(t594.length:Int))=true:=decide_eq_true c9
        clear c9
        obtain ⟨y597,hy597⟩:∃ y_:List Int,y_=(([x6_1]:List Int)):=⟨_,rfl⟩
        replace H:(ancepsref42_Sets.l2 k2 a0 a1 x5_2 x6_1 t594 x8_2 y597 0)=some r:=by first|(rw [hy597];with_reducible exact H)|(have H2_:=(Option.bind_some _ _).symm.trans H;rw [hy597];with_reducible exact H2_)|(have H2_:=(Option.bind_some _ _).symm.trans H;with_reducible exact H2_)|with_reducible exact H|(rw [hy597];exact H)|exact H
        have Ny597:=zA hy597
        clear hy597
        have H':=zA H
        clear H
        obtain ⟨Ao10,co10,eo10⟩:=Kd.S_slice HO_7.out
        subst eo10
        go_wp2_with (first|((with_reducible refine gate_dst (N:=33) rfl ?_);refine Kd.R_lit (Kd.int .i64) _ 3 ?hg (N:=33) ?hd (xs:=([x6_1]:List Int)) (inner:=[.int .i64 x6_1]) (ok:=fun _=>True) (okp:=fun _=>True) ?hr ?hp (fun _ hk=>hk) trivial (Below.refl _ _) (Nat.le_refl _) (by simp) ?_;(case hd=>rfl);(case hg=>rfl);(case hr=>first|(go_simp;done)|(go_simp;rfl));(case hp=>exact (Reps.one (show Kd.M (Kd.int .i64) _ _ _ x6_1 [.int .i64 x6_1] from rfl) (Reps.none _ _)));intro v598 w11 ho12 hb hg_ hnew_;clear hg_ hnew_;(first|rw [← Ny597.out] at ho12|(simp only [Int.reduceToNat] at ho12;rw [← Ny597.out] at ho12));have HO599:=zA (Kd.R_lower ho12 (below_size zB));replace HO_5:=zA (Kd.S_elder' (zS HO_5) (Kd.R_base ho12) hb);replace HO_7:=zA (Kd.S_elder' (zS HO_7) (Kd.R_base ho12) hb);replace HB:=zA (below_step zB hb);clear hb ho12))
        go_loopg [9,10] k2 (fun kq v9 v10 w'=>∃ (x9_3:List Int) (x10_3:Int),v10=.int .i64 x10_3∧Aside0 (ancepsref42_Sets.l2 kq a0 a1 x5_2 x6_1 t594 x8_2 x9_3 x10_3=some r)∧Aside0 (kq≤k2)∧Aside0 (Kd.S (Kd.slice 3 (Kd.int .i64)) 30 w' w.heap.size (fun k_=>some k_≠((.slice Ao10 t594.length co10):Value).ownBlock∧some k_≠(v9:Value).ownBlock) u5 x5_2)∧Aside0 (Kd.S (Kd.slice 3 (Kd.int .i64)) 30 w' w.heap.size (fun k_=>some k_≠(u5:Value).ownBlock∧some k_≠(v9:Value).ownBlock) (.slice Ao10 t594.length co10) t594)∧Aside0 (Kd.R (Kd.int .i64) 3 w' w.heap.size (fun _=>True) v9 x9_3)∧Aside0 (Below w.heap.size w w'))
        case atStart=>exact ⟨(y597),(0),zT,H',⟨Nat.le_refl _⟩,⟨by (with_reducible repeat (first|apply Kd.S_alloc|apply Kd.S_drewN|apply Kd.S_drew));exact HO_5.out⟩,⟨by (with_reducible repeat (first|apply Kd.S_alloc|apply Kd.S_drewN|apply Kd.S_drew));exact HO_7.out⟩,⟨by refine zr ?_;exact HO599.out⟩,⟨by repeat (first|(with_reducible first|exact HB.out|apply below_alloc|apply pw_below_drewN|apply below_drew1)|exact HB.out)⟩⟩
        case round=>
         clear H'
         try clear c3
         try clear c3b0
         try clear c3b1
         try clear c6
         try clear c6b0
         try clear c9
         try clear c9b0
         obtain ⟨x9_3,x10_3,rfl,HA,HK3,HO_5,HO_7,HO_9,HB⟩:=hrel
         cases gk with
         | zero=>exact absurd HA.out (by simp [ancepsref42_Sets.l2])
         | succ k3=>
          have H:=HA.out
          clear HA
          simp only [ancepsref42_Sets.l2] at H
          by_cases c13:0≤x8_2
          ·rw [if_pos c13] at H
           have c13b0:decide (0≤x8_2)=true:=decide_eq_true c13
           clear c13
           by_cases c14:x8_2<(t594.length:Int)
           ·rw [if_pos c14] at H
            have c14b0:decide (x8_2<(t594.length:Int))=true:=decide_eq_true c14
            clear c14
            by_cases c15:x10_3<((rd_L1 t594 x8_2).length:Int)
            ·rw [if_pos c15] at H
             have c15b0:decide (x10_3<((rd_L1 t594 x8_2).length:Int))=true:=decide_eq_true c15
             clear c15
             by_cases c16:0≤x10_3
             ·rw [if_pos c16] at H
              have c16b0:decide (0≤x10_3)=true:=decide_eq_true c16
              clear c16
              by_cases c17:x9_3.length<17592186044416
              ·rw [if_pos c17] at H
               have LMc17:=zA c17
               clear c17
               obtain ⟨y603,hy603⟩:∃ y_:List Int,y_=(x9_3++[wrap64 ((wrap64 ((rd (rd_L1 t594 x8_2) x10_3)+x6_1))+1)]):=⟨_,rfl⟩
               replace H:(ancepsref42_Sets.l2 k3 a0 a1 x5_2 x6_1 t594 x8_2 y603 (wrap64 (x10_3+1)))=some r:=by first|(rw [hy603];with_reducible exact H)|(have H2_:=(Option.bind_some _ _).symm.trans H;rw [hy603];with_reducible exact H2_)|(have H2_:=(Option.bind_some _ _).symm.trans H;with_reducible exact H2_)|with_reducible exact H|(rw [hy603];exact H)|exact H
               have Ny603:=zA hy603
               clear hy603
               have H':=zA H
               clear H
               have p600:0≤(x8_2:Int):=of_decide_eq_true zh
               have q600:x8_2<(t594.length:Int):=of_decide_eq_true zh
               obtain ⟨ad600,A600_0,c600_0,e600,hx600_0,hl600_0,hi600_0⟩:=at_L1 (Kd.S_reads' HO_7.out).2.2 x8_2 p600 q600
               cases e600
               obtain ⟨ce600,hce600,hMe600,hcc600⟩:=Kd.S_get HO_7.out [] x8_2 p600 (by first|exact q600|exact of_decide_eq_true zh|(have e_:=(Kd.S_reads' HO_7.out).1;omega))
               obtain ⟨ve600_0,rfl,ge600_0⟩:=hMe600
               have hv600_0:=hcc600 0 _ rfl
               rw [Nat.add_zero,show ((Kd.slice 3 (Kd.int .i64))).sz=1 from rfl,Nat.mul_one] at hv600_0
               replace hv600_0:=Option.some.inj (hv600_0.symm.trans hx600_0)
               rw [hv600_0] at ge600_0
               have HL600_0:=zA (show Kd.R (Kd.int .i64) 3 _ _ _ _ (rd_L1 t594 x8_2) from ge600_0)
               clear hv600_0 ge600_0
               clear hcc600 hce600
               have HR600_0:=zA hi600_0
               have HC600_0:=zA hl600_0
               clear hi600_0 hl600_0
               replace p600:=eq_true p600
               replace q600:=eq_true q600
               have p601:0≤(x8_2:Int):=of_decide_eq_true zh
               have q601:x8_2<(t594.length:Int):=of_decide_eq_true zh
               obtain ⟨ad601,A601_0,c601_0,e601,hx601_0,hl601_0,hi601_0⟩:=at_L1 (Kd.S_reads' HO_7.out).2.2 x8_2 p601 q601
               obtain rfl:ad600=ad601:=(by injection e601)
               obtain ⟨ce601,hce601,hMe601,hcc601⟩:=Kd.S_get HO_7.out [] x8_2 p601 (by first|exact q601|exact of_decide_eq_true zh|(have e_:=(Kd.S_reads' HO_7.out).1;omega))
               obtain ⟨ve601_0,rfl,ge601_0⟩:=hMe601
               have hv601_0:=hcc601 0 _ rfl
               rw [Nat.add_zero,show ((Kd.slice 3 (Kd.int .i64))).sz=1 from rfl,Nat.mul_one] at hv601_0
               replace hv601_0:=Option.some.inj (hv601_0.symm.trans hx601_0)
               rw [hv601_0] at ge601_0
               have HL601_0:=zA (show Kd.R (Kd.int .i64) 3 _ _ _ _ (rd_L1 t594 x8_2) from ge601_0)
               clear hv601_0 ge601_0
               clear hcc601 hce601
               have HR601_0:=zA hi601_0
               have HC601_0:=zA hl601_0
               clear hi601_0 hl601_0
               replace p601:=eq_true p601
               replace q601:=eq_true q601
               have ea_:=Option.some.inj (hx600_0.symm.trans hx601_0)
               injection ea_ with ea_ en_ ec_
               subst ea_
               subst ec_
               clear en_
               have p602:0≤(x10_3:Int):=of_decide_eq_true zh
               have q602:x10_3<((rd_L1 t594 x8_2).length:Int):=of_decide_eq_true zh
               obtain ⟨ad602,e602,hx602_0⟩:=Kd.at_int ((Kd.R_reads' HL601_0.out).2.2) x10_3 p602 q602
               cases e602
               replace p602:=eq_true p602
               replace q602:=eq_true q602
               go_wp2_with (first|((with_reducible refine gate_builtin (b:=.append) (xs:=#[.tmp 43,.tmp 54]) rfl ?_);at_builtin;refine Kd.R_append (Kd.int .i64) (w0:=w) w.heap.size rfl (.tmp 43) (.tmp 54) 30 3 (.int .i64 0) 8 rfl Try.underlying30 info3 rfl (by decide) (by omega) u9 x9_3 (wrap64 ((wrap64 ((rd (rd_L1 t594 x8_2) x10_3)+x6_1))+1)) [.int .i64 (wrap64 ((wrap64 ((rd (rd_L1 t594 x8_2) x10_3)+x6_1))+1))] (fun _=>True) (fun _=>False) rfl rfl ?aP (fun _ hk=>hk.elim) ?aF ?aO ?aB ?aS ?aL ?_;(case aP=>exact rfl);(case aB=>exact zB);(case aF=>exact (fun _ _=>trivial));(case aO=>exact (zR HO_9));(case aS=>exact (below_size zB));(case aL=>have:=LMc17.out;omega);intro v604 w18 ho hb hg hat;rw [← Ny603.out] at ho;have HO605:=zA (ho);replace HO_5:=zA (Kd.S_after (ok:=(fun k_=>some k_≠(.slice (some ad600) t594.length co10:Value).ownBlock)) (zS HO_5) hg hat);replace HO_7:=zA (Kd.S_after (ok:=(fun k_=>some k_≠(u5:Value).ownBlock)) (zS HO_7) hg hat);replace HL600_0:=zA (Kd.R_after (ok:=(fun k_=>some k_≠(u5:Value).ownBlock∧some k_≠(.slice (some ad600) t594.length co10:Value).ownBlock)) (by refine zr ?_;exact Kd.R_mono HL600_0.out (fun _ hk=>⟨⟨hk.1.1,hk.2⟩,hk.1.2⟩)) hg hat);replace HL601_0:=zA (Kd.R_after (ok:=(fun k_=>some k_≠(u5:Value).ownBlock∧some k_≠(.slice (some ad600) t594.length co10:Value).ownBlock)) (by refine zr ?_;exact Kd.R_mono HL601_0.out (fun _ hk=>⟨⟨hk.1.1,hk.2⟩,hk.1.2⟩)) hg hat);replace HB:=zA (hb);clear HO_9;clear ho hb hg hat))
               go_roundg k3
               case measure=>have:=HK1.out;have:=HK2.out;have:=HK3.out;omega
               case rel=>exact ⟨(y603),(wrap64 (x10_3+1)),zT,H',⟨by have:=HK1.out;have:=HK2.out;have:=HK3.out;omega⟩,⟨by (with_reducible repeat (first|apply Kd.S_alloc|apply Kd.S_drewN|apply Kd.S_drew));exact HO_5.out⟩,⟨by (with_reducible repeat (first|apply Kd.S_alloc|apply Kd.S_drewN|apply Kd.S_drew));exact HO_7.out⟩,⟨by refine zr ?_;exact HO605.out⟩,⟨by repeat (first|(with_reducible first|exact HB.out|apply below_alloc|apply pw_below_drewN|apply below_drew1)|exact HB.out)⟩⟩
              ·rw [if_neg c17] at H
               exact absurd H (by simp)
             ·rw [if_neg c16] at H
              exact absurd H (by simp)
            ·rw [if_neg c15] at H
             have c15b0:decide (x10_3<((rd_L1 t594 x8_2).length:Int))=false:=decide_eq_false c15
             clear c15
             by_cases c19:x5_2.length<5864062014805
             ·rw [if_pos c19] at H
              have LMc19:=zA c19
              clear c19
              obtain ⟨y606,hy606⟩:∃ y_:List (List Int),y_=(x5_2++[x9_3]):=⟨_,rfl⟩
              replace H:(ancepsref42_Sets.l1 k3 a0 a1 y606 x6_1 t594 (wrap64 (x8_2+1)))=some r:=by first|(rw [hy606];with_reducible exact H)|(have H2_:=(Option.bind_some _ _).symm.trans H;rw [hy606];with_reducible exact H2_)|(have H2_:=(Option.bind_some _ _).symm.trans H;with_reducible exact H2_)|with_reducible exact H|(rw [hy606];exact H)|exact H
              have Ny606:=zA hy606
              clear hy606
              have H':=zA H
              clear H
              have p600:0≤(x8_2:Int):=of_decide_eq_true zh
              have q600:x8_2<(t594.length:Int):=of_decide_eq_true zh
              obtain ⟨ad600,A600_0,c600_0,e600,hx600_0,hl600_0,hi600_0⟩:=at_L1 (Kd.S_reads' HO_7.out).2.2 x8_2 p600 q600
              cases e600
              obtain ⟨ce600,hce600,hMe600,hcc600⟩:=Kd.S_get HO_7.out [] x8_2 p600 (by first|exact q600|exact of_decide_eq_true zh|(have e_:=(Kd.S_reads' HO_7.out).1;omega))
              obtain ⟨ve600_0,rfl,ge600_0⟩:=hMe600
              have hv600_0:=hcc600 0 _ rfl
              rw [Nat.add_zero,show ((Kd.slice 3 (Kd.int .i64))).sz=1 from rfl,Nat.mul_one] at hv600_0
              replace hv600_0:=Option.some.inj (hv600_0.symm.trans hx600_0)
              rw [hv600_0] at ge600_0
              have HL600_0:=zA (show Kd.R (Kd.int .i64) 3 _ _ _ _ (rd_L1 t594 x8_2) from ge600_0)
              clear hv600_0 ge600_0
              clear hcc600 hce600
              have HR600_0:=zA hi600_0
              have HC600_0:=zA hl600_0
              clear hi600_0 hl600_0
              replace p600:=eq_true p600
              replace q600:=eq_true q600
              obtain ⟨Ao21,co21,eo21⟩:=Kd.R_slice HO_9.out
              subst eo21
              go_wp2_with (first|((with_reducible refine gate_builtin (b:=.append) (xs:=#[.tmp 56,.tmp 58]) rfl ?_);at_builtin;refine Kd.S_append (Kd.slice 3 (Kd.int .i64)) (w0:=w) w.heap.size rfl (.tmp 56) (.tmp 58) 25 30 (.slice none 0 0) 24 rfl Try.underlying25 info30 rfl (by decide) (by omega) u5 x5_2 x9_3 [.slice Ao21 x9_3.length co21] (fun k_=>some k_≠(.slice (some ad600) t594.length co10:Value).ownBlock) (fun k_=>some k_=(.slice Ao21 x9_3.length co21:Value).ownBlock) rfl rfl ?aP (fun k_ hk_=>((Kd.R_mono (ok':=fun k_=>((fun k_=>some k_≠(.slice (some ad600) t594.length co10:Value).ownBlock)) k_∧some k_≠(u5:Value).ownBlock) (Kd.R_apart' (Kd.R_apart' (HO_9.out) (Kd.S_typed HO_7.out) (by decide)) (Kd.S_typed HO_5.out) (by decide)) (fun k_ hk=>⟨hk.1.2,hk.2⟩))).1 k_ hk_.symm) ?aF ?aO ?aB ?aS ?aL ?_;(case aP=>exact Kd.M_row (Kd.R_mono (Kd.R_tight rfl (Kd.R_mono (ok':=fun k_=>((fun k_=>some k_≠(.slice (some ad600) t594.length co10:Value).ownBlock)) k_∧some k_≠(u5:Value).ownBlock) (Kd.R_apart' (Kd.R_apart' (HO_9.out) (Kd.S_typed HO_7.out) (by decide)) (Kd.S_typed HO_5.out) (by decide)) (fun k_ hk=>⟨hk.1.2,hk.2⟩))) (fun _ h_=>h_)));(case aB=>exact zB);(case aF=>exact (fun k_ hk=>Kd.fresh' (Kd.S_lt (zS HO_7)) k_ hk));(case aO=>exact (by (with_reducible repeat (first|apply Kd.S_alloc|apply Kd.S_drewN|apply Kd.S_drew));exact Kd.S_mono HO_5.out (fun k_ hk=>⟨hk.1,fun e_=>hk.2 e_⟩)));(case aS=>exact (below_size zB));(case aL=>have:=LMc19.out;omega);intro v607 w20 ho hb hg hat;rw [← Ny606.out] at ho;have HO608:=zA (ho);replace HO_7:=zA (Kd.S_after (ok:=(fun k_=>some k_≠(.slice Ao21 x9_3.length co21:Value).ownBlock)) (by (with_reducible repeat (first|apply Kd.S_alloc|apply Kd.S_drewN|apply Kd.S_drew));exact Kd.S_mono HO_7.out (fun _ hk=>⟨hk.2,hk.1⟩)) hg hat);replace HL600_0:=zA (Kd.R_after (ok:=(fun k_=>some k_≠(.slice (some ad600) t594.length co10:Value).ownBlock∧some k_≠(.slice Ao21 x9_3.length co21:Value).ownBlock)) (by refine zr ?_;exact Kd.R_mono HL600_0.out (fun _ hk=>⟨⟨hk.2,hk.1.2⟩,hk.1.1⟩)) hg hat);replace HB:=zA (hb);clear HO_5 HO_9;clear ho hb hg hat))
              go_roundg k3
              case measure=>have:=HK1.out;have:=HK2.out;have:=HK3.out;omega
              case rel=>exact ⟨(y606),(wrap64 (x8_2+1)),zT,H',⟨by have:=HK1.out;have:=HK2.out;have:=HK3.out;omega⟩,⟨by (with_reducible repeat (first|apply Kd.S_alloc|apply Kd.S_drewN|apply Kd.S_drew));exact HO608.out⟩,⟨by (with_reducible repeat (first|apply Kd.S_alloc|apply Kd.S_drewN|apply Kd.S_drew));exact Kd.S_mono HO_7.out (fun _ hk=>hk.2)⟩,⟨by repeat (first|(with_reducible first|exact HB.out|apply below_alloc|apply pw_below_drewN|apply below_drew1)|exact HB.out)⟩⟩
             ·rw [if_neg c19] at H
              exact absurd H (by simp)
           ·rw [if_neg c14] at H
            exact absurd H (by simp)
          ·rw [if_neg c13] at H
           exact absurd H (by simp)
       ·rw [if_neg c9] at H
        have c9b0:decide (x8_2<(t594.length:Int))=false:=decide_eq_false c9
        clear c9
        have H':=zA H
        clear H
        obtain ⟨Ao22,co22,eo22⟩:=Kd.S_slice HO_7.out
        subst eo22
        go_wp2
        go_roundg k2
        case measure=>have:=HK1.out;have:=HK2.out;omega
        case rel=>exact ⟨(x5_2),(wrap64 (x6_1+1)),zT,H',⟨by have:=HK1.out;have:=HK2.out;omega⟩,⟨by (with_reducible repeat (first|apply Kd.S_alloc|apply Kd.S_drewN|apply Kd.S_drew));exact Kd.S_mono HO_5.out (fun _ hk=>trivial)⟩,⟨by repeat (first|(with_reducible first|exact HB.out|apply below_alloc|apply pw_below_drewN|apply below_drew1)|exact HB.out)⟩⟩
    ·rw [if_neg c6] at H
     have c6b0:decide (x6_1<a0)=false:=decide_eq_false c6
     clear c6
     obtain rfl:=Option.some.inj H
     go_wp2
     go_ret
     exact ⟨_,ze,by (with_reducible repeat (first|apply Kd.S_alloc|apply Kd.S_drewN|apply Kd.S_drew));exact HO_5.out,by repeat (first|(with_reducible first|exact HB.out|apply below_alloc|apply pw_below_drewN|apply below_drew1)|exact HB.out)⟩
end Go.Proofs.Ytkjghablbeaioaa.S
