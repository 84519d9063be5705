import Derived.Test.YthcfmdkhkikbcaaT0
import Derived.Test.YthcfmdkhkikbcaaT7
import Derived.Test.YthcfmdkhkikbcaaT9
import Derived.Test.YthcfmdkhkikbcaaT13
namespace Go.Proofs.Ythcfmdkhkikbcaa.T
open Go.RowKit Go.Proofs.YthcfmdkhkikbcaaW.PrintWords Go.Proofs.YthcfmdkhkikbcaaW.PrintLast Go.Proofs.YthcfmdkhkikbcaaW.PrintMore
attribute [local go_sem] max2_int min2_int max_two min_two max_three min_three max_four min_four
set_option linter.unusedVariables false
set_option linter.unusedSimpArgs false
def ancepsref38_Vital.l0:Nat→List Int→Int→List Int→List Int→Option (List Int×List Int×Int)
 | 0,_,_,_,_=>none
 | k+1,x5,x6,x483000,x483001=>if x6<(x483000.length:Int) then (if 0≤x6 then ((ancepsref38_Matters.f k x483000 x483001 (rd x483000 x6)).bind fun t486=>(if t486=true then (if x5.length<17592186044416 then (ancepsref38_Vital.l0 k (x5++[rd x483000 x6]) (wrap64 (x6+1)) x483000 x483001) else (none)) else (ancepsref38_Vital.l0 k x5 (wrap64 (x6+1)) x483000 x483001))) else (none)) else ((ancepsref38_projected.f k x483000 x483001 x5).bind fun bt491=>(some (bt491.1,bt491.2,0)))
def ancepsref38_Vital.f (k:Nat) (l0_0:List Int) (l0_1:List Int):Option (List Int×List Int×Int):=(ancepsref38_Valid.f k l0_0 l0_1).bind fun t484=>(if t484=0 then (ancepsref38_Vital.l0 k ([]:List Int) 0 l0_0 l0_1) else (some (([]:List Int),([]:List Int),t484)))
theorem ancepsref38_Vital.mono_l:∀ k,(∀ y0 y1 y2 y3,LeO (ancepsref38_Vital.l0 k y0 y1 y2 y3) (ancepsref38_Vital.l0 (k+1) y0 y1 y2 y3))
 | 0=>fun _ _ _ _ r h=>by simp [ancepsref38_Vital.l0] at h
 | k+1=>by
  have ih0:=ancepsref38_Vital.mono_l k
  ·intro y0 y1 y2 y3
   unfold ancepsref38_Vital.l0
   repeat' first
   | (with_reducible exact ih0 _ _ _ _)
   | (with_reducible exact ancepsref38_Matters.mono _ _ _ _)
   | (with_reducible exact ancepsref38_Valid.mono _ _ _)
   | (with_reducible exact ancepsref38_projected.mono _ _ _ _)
   | (with_reducible exact LeO.refl _)
   | (with_reducible exact LeO.none _)
   | (with_reducible refine LeO.ite ?_ ?_)
   | (with_reducible refine LeO.bind ?_ (fun _=>?_))
   | exact LeO.none _
   | refine LeO.ite ?_ ?_
   | refine LeO.bind ?_ (fun _=>?_)
theorem ancepsref38_Vital.mono:∀ a0 a1 k,LeO (ancepsref38_Vital.f k a0 a1) (ancepsref38_Vital.f (k+1) a0 a1):=by
 intro a0 a1 k
 have ih0:=ancepsref38_Vital.mono_l k
 unfold ancepsref38_Vital.f
 repeat' first
   | (with_reducible exact ih0 _ _ _ _)
   | (with_reducible exact ancepsref38_Matters.mono _ _ _ _)
   | (with_reducible exact ancepsref38_Valid.mono _ _ _)
   | (with_reducible exact ancepsref38_projected.mono _ _ _ _)
   | (with_reducible exact LeO.refl _)
   | (with_reducible exact LeO.none _)
   | (with_reducible refine LeO.ite ?_ ?_)
   | (with_reducible refine LeO.bind ?_ (fun _=>?_))
   | exact LeO.none _
   | refine LeO.ite ?_ ?_
   | refine LeO.bind ?_ (fun _=>?_)
set_option maxHeartbeats 8000000 in
set_option maxRecDepth 100000 in
theorem ancepsref38_Vital.calls (k:Nat) (A0_0:Option Addr) (c0_0:Nat) (l0_0:List Int) (A0_1:Option Addr) (c0_1:Nat) (l0_1:List Int) (r1:List Int) (r2:List Int) (r3:Int) (w:World) (hr0_0:Kd.C (Kd.int .i64) w A0_0 l0_0.length l0_0) (hc0_0:l0_0.length≤c0_0) (hr0_1:Kd.C (Kd.int .i64) w A0_1 l0_1.length l0_1) (hc0_1:l0_1.length≤c0_1) (h:ancepsref38_Vital.f k l0_0 l0_1=some (r1,r2,r3)) :
  Calls Try.prog 24 #[.agg #[.slice A0_0 l0_0.length c0_0,.slice A0_1 l0_1.length c0_1]] w fun e w'=>∃ v0_ v1_:Value,e=.returned (.tuple #[.agg #[v0_,v1_],.int .i64 r3])∧Kd.R (Kd.int .i64) 3 w' w.heap.size (fun k_=>some k_≠(v1_:Value).ownBlock) v0_ r1∧Kd.R (Kd.int .i64) 3 w' w.heap.size (fun k_=>some k_≠(v0_:Value).ownBlock) v1_ r2∧Below w.heap.size w w':=by
 have hu29:=Try.underlying29
 have hu27:=Try.underlying27
 have hu3:=Try.underlying3
 have HR0_0:=zA hr0_0
 have HC0_0:=zA hc0_0
 clear hr0_0 hc0_0
 have HR0_1:=zA hr0_1
 have HC0_1:=zA hc0_1
 clear hr0_1 hc0_1
 have HB:=zA (Below.refl w.heap.size w)
 have H:((ancepsref38_Valid.f k l0_0 l0_1).bind fun t484=>(if t484=0 then (ancepsref38_Vital.l0 k ([]:List Int) 0 l0_0 l0_1) else (some (([]:List Int),([]:List Int),t484))))=some (r1,r2,r3):=h
 clear h
 replace H:=Option.bind_eq_some_iff.mp H
 obtain ⟨t484,A20,H⟩:=H
 replace H:(if t484=0 then (ancepsref38_Vital.l0 k ([]:List Int) 0 l0_0 l0_1) else (some (([]:List Int),([]:List Int),t484)))=some (r1,r2,r3):=H
 have A2:=zA A20
 clear A20
 have HC3:=zA H
 clear H
 go_enter Try.func24,Try.ntmps24
 go_upto_if 10 with (first|((with_reducible refine gate_dst (N:=1) rfl ?_);refine box_event ?hg (N:=1) ?hd (cs:=#[.slice A0_0 l0_0.length c0_0,.slice A0_1 l0_1.length c0_1]) (t:=29) ?hr ?_;(case hd=>rfl);(case hg=>rfl);(case hr=>first|(go_simp;done)|(go_simp;rfl));intro gb482 hg w4 hbox hb;have BK482:=zA (hbox);have GW482:=zA (zG hg (below_size zB):w.heap.size≤gb482);have GE482:=GW482;replace HB:=zA (below_step zB hb);clear hb hbox hg)|((with_reducible refine gate_dst (N:=2) rfl ?_);refine box_event ?hg (N:=2) ?hd (cs:=#[.slice none 0 0,.slice none 0 0]) (t:=29) ?hr ?_;(case hd=>rfl);(case hg=>rfl);(case hr=>first|(go_simp;done)|(go_simp;rfl));intro gb483 hg w5 hbox hb;have BK483:=zA (hbox);have GW483:=zA (zG hg (below_size zB):w.heap.size≤gb483);have GE483:=GW483;have NB482_483:=zA ((zl hg (zk BK482):gb482≠gb483));have NB483_482:=zA ((zg hg (zk BK482):gb483≠gb482));replace BK482:=zA (zb BK482 hb);replace HB:=zA (below_step zB hb);clear hb hbox hg;have hnb6:=NB482_483.out;have hnc6:=NB483_482.out;have hcz7_0:w5.cell? ⟨gb482,0,none⟩=some (.slice A0_0 l0_0.length c0_0):=(blk_cell BK482.out 0).trans rfl;have hcz7_1:w5.cell? ⟨gb482,1,none⟩=some (.slice A0_1 l0_1.length c0_1):=(blk_cell BK482.out 1).trans rfl;have hfz7_0:=blk_frozen BK482.out 0;have hfz7_1:=blk_frozen BK482.out 1)|((with_reducible refine gate_callee (f:=26) rfl ?_);refine goesL_ (some 8) rfl rfl Try.func26 zK rfl #[.agg #[.slice A0_0 l0_0.length c0_0,.slice A0_1 l0_1.length c0_1]] rfl zM ?_;(with_reducible refine (ancepsref38_Valid.calls k _ _ l0_0 _ _ l0_1 t484 _ ?side1 ?side2 ?side3 ?side4 A2.out).mono ?_);(case side1=>exact zC (Kd.C_below HR0_0.out HB.out));(case side2=>exact HC0_0.out);(case side3=>exact zC (Kd.C_below HR0_1.out HB.out));(case side4=>exact HC0_1.out);rintro e w8 ⟨rfl,hb⟩;refine ⟨_,rfl,?_⟩;replace BK482:=zA (zb BK482 hb);replace BK483:=zA (zb BK483 hb);replace HB:=zA (below_step zB hb);(try clear hb);(try clear hb2);(try clear hk);(try clear hi)))
 (try simp only [Act.put,zi,zs,zt])
 have H:=HC3.out
 clear HC3
 by_cases c9:t484=0
 ·rw [if_pos c9] at H
  have c9b0:(t484 == 0)=true:=beq_iff_eq.mpr c9
  have c9b1:(t484 != 0)=false:=bne_eq_false_iff_eq.mpr c9
  clear c9
  (first|rw [c9b0]|(simp only [i64_w,i32_w];rw [c9b0])|skip)
  (try rw [c9b1])
  have H':=zA H
  clear H
  go_wp2
  go_loopg [5,6] k (fun kq v5 v6 w'=>∃ (x5_1:List Int) (x6_1:Int),v6=.int .i64 x6_1∧Aside0 (ancepsref38_Vital.l0 kq x5_1 x6_1 l0_0 l0_1=some (r1,r2,r3))∧Aside0 (kq≤k)∧Aside0 (Kd.R (Kd.int .i64) 3 w' w.heap.size (fun _=>True) v5 x5_1)∧Aside0 (w'.heap[gb482]?=some (.cells #[(.slice A0_0 l0_0.length c0_0),(.slice A0_1 l0_1.length c0_1)] 29 (0,0)))∧Aside0 (w'.heap[gb483]?=some (.cells #[(.slice none 0 0),(.slice none 0 0)] 29 (0,0)))∧Aside0 (Below w.heap.size w w'))
  case atStart=>exact ⟨(([]:List Int)),(0),zT,H',⟨Nat.le_refl _⟩,⟨by first|exact Kd.R_nil _ _ _ _ _|exact Kd.N_nil _ _ _ _ _|exact Kd.V_nil _ _ _ _ _|exact Kd.Q_nil _ _ _ _ _|exact Kd.S_nil _ _ _ _ _⟩,⟨by refine zj ?_;exact BK482.out⟩,⟨by refine zj ?_;exact BK483.out⟩,⟨by repeat (first|(with_reducible first|exact HB.out|apply below_alloc|apply pw_below_drewN|apply below_drew1|refine below_set ?_ GE482.out|refine below_set ?_ GE483.out)|exact HB.out)⟩⟩
  case round=>
   clear H'
   try clear c9
   try clear c9b0
   try clear c9b1
   try clear hcz7_0
   try clear hcz7_1
   try clear hfz7_0
   try clear hfz7_1
   obtain ⟨x5_1,x6_1,rfl,HA,HK1,HO_5,BK482,BK483,HB⟩:=hrel
   cases gk with
   | zero=>exact absurd HA.out (by simp [ancepsref38_Vital.l0])
   | succ k1=>
    have H:=HA.out
    clear HA
    simp only [ancepsref38_Vital.l0] at H
    by_cases c10:x6_1<(l0_0.length:Int)
    ·rw [if_pos c10] at H
     have c10b0:decide (x6_1<(l0_0.length:Int))=true:=decide_eq_true c10
     clear c10
     by_cases c11:0≤x6_1
     ·rw [if_pos c11] at H
      have c11b0:decide (0≤x6_1)=true:=decide_eq_true c11
      clear c11
      replace H:=Option.bind_eq_some_iff.mp H
      obtain ⟨t486,A120,H⟩:=H
      replace H:(if t486=true then (if x5_1.length<17592186044416 then (ancepsref38_Vital.l0 k1 (x5_1++[rd l0_0 x6_1]) (wrap64 (x6_1+1)) l0_0 l0_1) else (none)) else (ancepsref38_Vital.l0 k1 x5_1 (wrap64 (x6_1+1)) l0_0 l0_1))=some (r1,r2,r3):=H
      have A12:=zA A120
      clear A120
      have HC13:=zA H
      clear H
      have hnb14:=NB482_483.out
      have hnc14:=NB483_482.out
      have hcz15_0:wr.cell? ⟨gb482,0,none⟩=some (.slice A0_0 l0_0.length c0_0):=(blk_cell BK482.out 0).trans rfl
      have hcz15_1:wr.cell? ⟨gb482,1,none⟩=some (.slice A0_1 l0_1.length c0_1):=(blk_cell BK482.out 1).trans rfl
      have hfz15_0:=blk_frozen BK482.out 0
      have hfz15_1:=blk_frozen BK482.out 1
      try go_wp2
      replace HO_5:=zA (Kd.R_drew HO_5.out)
      replace BK482:=zA (blk_drew BK482.out)
      replace BK483:=zA (blk_drew BK483.out)
      replace HB:=zA (below_drew1 HB.out)
      have p485:0≤(x6_1:Int):=of_decide_eq_true zh
      have q485:x6_1<(l0_0.length:Int):=of_decide_eq_true zh
      obtain ⟨ad485,e485,hx485_0⟩:=Kd.at_int HR0_0.out x6_1 p485 q485
      have hw485_0:=hx485_0
      cases e485
      replace hx485_0:=(HB.out.cell (World.block_lt_of_cell? w _ hx485_0)).trans hx485_0
      replace p485:=eq_true p485
      replace q485:=eq_true q485
      refine start_ (n:=7) (S:=fun w'=>w'.cell? ⟨gb482,0,none⟩=some (.slice (some ad485) l0_0.length c0_0)∧w'.cell? ⟨gb482,1,none⟩=some (.slice A0_1 l0_1.length c0_1)∧w'.cell? (ad485.add (x6_1).toNat)=some (.int .i64 (rd l0_0 x6_1))) (ds:=[]) #[false,false,false,false,false,false,false] zK rfl rfl ⟨(blk_cell BK482.out 0).trans rfl,(blk_cell BK482.out 1).trans rfl,((HB.out.cell (World.block_lt_of_cell? w _ hw485_0)).trans hw485_0)⟩ (fun hHeld=>?_)
      generalize wr.drew=w16 at HO_5 BK482 BK483 HB hx485_0 hHeld ⊢
      refine pure_ (i:=1) (N:=some 21) (v:=?_) (a':=?_) #[false,true,false,false,false,false,false] rfl rfl zK (fun _ _ _ h=>h) (Or.inl ⟨by rfl,?_⟩) ?_ ?_
      rotate_left
      ·intro w'
       go_simp
       with_reducible rfl
      rotate_left
      ·simp only [Act.put,zi,zs,zt,i64_w,i32_w]
       rfl
      refine pure_ (i:=3) (N:=some 23) (v:=?_) (a':=?_) #[false,true,false,true,false,false,false] rfl rfl zK (fun _ _ _ h=>h) (Or.inl ⟨by rfl,?_⟩) ?_ ?_
      rotate_left
      ·intro w'
       go_simp
       with_reducible rfl
      rotate_left
      ·simp only [Act.put,zi,zs,zt,i64_w,i32_w]
       rfl
      refine take_ (i:=0) (N:=some 20) (v:=?_) (a':=?_) #[true,true,false,true,false,false,false] rfl rfl zK (fun _ _ _ h=>h) (Or.inl ⟨by rfl,?_⟩) hHeld ?_ ?_
      rotate_left
      ·rintro w' ⟨s0,s1,s2⟩
       go_simp
       with_reducible rfl
      rotate_left
      ·simp only [Act.put,zi,zs,zt,i64_w,i32_w]
       rfl
      refine take_ (i:=2) (N:=some 22) (v:=?_) (a':=?_) #[true,true,true,true,false,false,false] rfl rfl zK (fun _ _ _ h=>h) (Or.inl ⟨by rfl,?_⟩) hHeld ?_ ?_
      rotate_left
      ·rintro w' ⟨s0,s1,s2⟩
       go_simp
       with_reducible rfl
      rotate_left
      ·simp only [Act.put,zi,zs,zt,i64_w,i32_w]
       rfl
      refine pure_ (i:=4) (N:=some 24) (v:=?_) (a':=?_) #[true,true,true,true,true,false,false] rfl rfl zK (fun _ _ _ h=>h) (Or.inl ⟨by rfl,?_⟩) ?_ ?_
      rotate_left
      ·intro w'
       go_simp
       with_reducible rfl
      rotate_left
      ·simp only [Act.put,zi,zs,zt,i64_w,i32_w]
       rfl
      refine take_ (i:=5) (N:=some 25) (v:=?_) (a':=?_) #[true,true,true,true,true,true,false] rfl rfl zK (fun _ _ _ h=>h) (Or.inl ⟨by rfl,?_⟩) hHeld ?_ ?_
      rotate_left
      ·rintro w' ⟨s0,s1,s2⟩
       go_simp
       with_reducible rfl
      rotate_left
      ·simp only [Act.put,zi,zs,zt,i64_w,i32_w]
       rfl
      refine one_ (i:=6) (N:=some 26) #[true,true,true,true,true,true,true] rfl rfl zK (by decide) (fun K hK=>?_)
      refine goes_ Try.func37 zK rfl #[.agg #[.slice (some ad485) l0_0.length c0_0,.slice A0_1 l0_1.length c0_1],.int .i64 (rd l0_0 x6_1)] (by rfl) rfl rfl zM ?_
      with_reducible refine (ancepsref38_Matters.calls k1 _ _ l0_0 _ _ l0_1 (rd l0_0 x6_1) t486 _ ?side1 ?side2 ?side3 ?side4 A12.out).mono ?_
      (case side1=>exact zC (Kd.C_below HR0_0.out HB.out))
      (case side2=>exact HC0_0.out)
      (case side3=>exact zC (Kd.C_below HR0_1.out HB.out))
      (case side4=>exact HC0_1.out)
      rintro e w17 ⟨rfl,hb⟩
      refine ⟨_,rfl,?_⟩
      replace HO_5:=zA (Kd.R_below (zR HO_5) hb)
      replace BK482:=zA (zb BK482 hb)
      replace BK483:=zA (zb BK483 hb)
      replace HB:=zA (below_step zB hb)
      (try clear hb)
      (try clear hb2)
      (try clear hk)
      (try clear hi)
      refine hK.out _ _ ⟨(blk_cell BK482.out 0).trans rfl,(blk_cell BK482.out 1).trans rfl,((HB.out.cell (World.block_lt_of_cell? w _ hw485_0)).trans hw485_0)⟩ (fun hHeld=>?_)
      clear hK K
      refine norm_ (a':=?_) ?_ ?_
      rotate_left
      ·show Act.put _ (some 26) _=_
       simp only [Act.put,zi,zs,zt,i64_w,i32_w]
       rfl
      refine done_ zK ?_
      go_upto_if 26 with (fail)
      (try simp only [Act.put,zi,zs,zt])
      have H:=HC13.out
      clear HC13
      by_cases c18:t486=true
      ·subst c18
       have H1:(if x5_1.length<17592186044416 then (ancepsref38_Vital.l0 k1 (x5_1++[rd l0_0 x6_1]) (wrap64 (x6_1+1)) l0_0 l0_1) else (none))=some (r1,r2,r3):=by rw [if_pos rfl] at H;exact H
       clear H
       have H:=H1
       clear H1
       by_cases c19:x5_1.length<17592186044416
       ·rw [if_pos c19] at H
        have LMc19:=zA c19
        clear c19
        obtain ⟨y488,hy488⟩:∃ y_:List Int,y_=(x5_1++[rd l0_0 x6_1]):=⟨_,rfl⟩
        replace H:(ancepsref38_Vital.l0 k1 y488 (wrap64 (x6_1+1)) l0_0 l0_1)=some (r1,r2,r3):=by first|(rw [hy488];with_reducible exact H)|(have H2_:=(Option.bind_some _ _).symm.trans H;rw [hy488];with_reducible exact H2_)|(have H2_:=(Option.bind_some _ _).symm.trans H;with_reducible exact H2_)|with_reducible exact H|(rw [hy488];exact H)|exact H
        have Ny488:=zA hy488
        clear hy488
        have H':=zA H
        clear H
        have hnb20:=NB482_483.out
        have hnc20:=NB483_482.out
        have hcz21_0:w17.cell? ⟨gb482,0,none⟩=some (.slice (some ad485) l0_0.length c0_0):=(blk_cell BK482.out 0).trans rfl
        have hcz21_1:w17.cell? ⟨gb482,1,none⟩=some (.slice A0_1 l0_1.length c0_1):=(blk_cell BK482.out 1).trans rfl
        have hfz21_0:=blk_frozen BK482.out 0
        have hfz21_1:=blk_frozen BK482.out 1
        have p487:0≤(x6_1:Int):=of_decide_eq_true zh
        have q487:x6_1<(l0_0.length:Int):=of_decide_eq_true zh
        obtain ⟨ad487,e487,hx487_0⟩:=Kd.at_int HR0_0.out x6_1 p487 q487
        obtain rfl:ad485=ad487:=(by injection e487)
        replace hx487_0:=(HB.out.cell (World.block_lt_of_cell? w _ hx487_0)).trans hx487_0
        replace p487:=eq_true p487
        replace q487:=eq_true q487
        go_wp2_with (first|((with_reducible refine gate_builtin (b:=.append) (xs:=#[.tmp 27,.tmp 33]) rfl ?_);at_builtin;refine Kd.R_append (Kd.int .i64) (w0:=w) w.heap.size rfl (.tmp 27) (.tmp 33) 27 3 (.int .i64 0) 8 rfl Try.underlying27 info3 rfl (by decide) (by omega) u5 x5_1 (rd l0_0 x6_1) [.int .i64 (rd l0_0 x6_1)] (fun _=>True) (fun _=>False) rfl rfl ?aP (fun _ hk=>hk.elim) ?aF ?aO ?aB ?aS ?aL ?_;(case aP=>exact rfl);(case aB=>exact zB);(case aF=>exact (fun _ _=>trivial));(case aO=>exact (zR HO_5));(case aS=>exact (below_size zB));(case aL=>have:=LMc19.out;omega);intro v489 w22 ho hb hg hat;rw [← Ny488.out] at ho;have HO490:=zA (ho);replace BK482:=zA (blk_grown (g:=gb482) (o:=.cells #[.slice (some ad485) l0_0.length c0_0,.slice A0_1 l0_1.length c0_1] 29 (0,0)) (zk BK482) hg (Kd.R_ne HO_5.out BK482.out (by decide)));replace BK483:=zA (blk_grown (g:=gb483) (o:=.cells #[.slice none 0 0,.slice none 0 0] 29 (0,0)) (zk BK483) hg (Kd.R_ne HO_5.out BK483.out (by decide)));replace HB:=zA (hb);clear HO_5;clear ho hb hg hat))
        go_roundg k1
        case measure=>have:=HK1.out;omega
        case rel=>exact ⟨(y488),(wrap64 (x6_1+1)),zT,H',⟨by have:=HK1.out;omega⟩,⟨by refine zr ?_;exact HO490.out⟩,⟨by refine zj ?_;exact BK482.out⟩,⟨by refine zj ?_;exact BK483.out⟩,⟨by repeat (first|(with_reducible first|exact HB.out|apply below_alloc|apply pw_below_drewN|apply below_drew1|refine below_set ?_ GE482.out|refine below_set ?_ GE483.out)|exact HB.out)⟩⟩
       ·rw [if_neg c19] at H
        exact absurd H (by simp)
      ·replace c18:=Bool.eq_false_iff.mpr c18
       subst c18
       have H1:(ancepsref38_Vital.l0 k1 x5_1 (wrap64 (x6_1+1)) l0_0 l0_1)=some (r1,r2,r3):=by rw [if_neg (show ¬ (false=true) by decide)] at H;exact H
       clear H
       have H:=H1
       clear H1
       have H':=zA H
       clear H
       go_wp2
       go_roundg k1
       case measure=>have:=HK1.out;omega
       case rel=>exact ⟨(x5_1),(wrap64 (x6_1+1)),zT,H',⟨by have:=HK1.out;omega⟩,⟨by refine zr ?_;exact HO_5.out⟩,⟨by refine zj ?_;exact BK482.out⟩,⟨by refine zj ?_;exact BK483.out⟩,⟨by repeat (first|(with_reducible first|exact HB.out|apply below_alloc|apply pw_below_drewN|apply below_drew1|refine below_set ?_ GE482.out|refine below_set ?_ GE483.out)|exact HB.out)⟩⟩
     ·rw [if_neg c11] at H
      exact absurd H (by simp)
    ·rw [if_neg c10] at H
     have c10b0:decide (x6_1<(l0_0.length:Int))=false:=decide_eq_false c10
     clear c10
     replace H:=Option.bind_eq_some_iff.mp H
     obtain ⟨⟨t491,t494⟩,A230,H⟩:=H
     replace H:(some (t491,t494,0))=some (r1,r2,r3):=H
     have A23:=zA A230
     clear A230
     simp only [Option.some.injEq,Prod.mk.injEq] at H
     obtain ⟨rfl,rfl,rfl⟩:=H
     have hnb24:=NB482_483.out
     have hnc24:=NB483_482.out
     have hcz25_0:wr.cell? ⟨gb482,0,none⟩=some (.slice A0_0 l0_0.length c0_0):=(blk_cell BK482.out 0).trans rfl
     have hcz25_1:wr.cell? ⟨gb482,1,none⟩=some (.slice A0_1 l0_1.length c0_1):=(blk_cell BK482.out 1).trans rfl
     have hfz25_0:=blk_frozen BK482.out 0
     have hfz25_1:=blk_frozen BK482.out 1
     obtain ⟨Ao26,co26,eo26⟩:=Kd.R_slice HO_5.out
     subst eo26
     go_wp2_with (first|((with_reducible refine gate_callee (f:=52) rfl ?_);refine goesL_ (some 37) rfl rfl Try.func52 zK rfl #[.agg #[.slice A0_0 l0_0.length c0_0,.slice A0_1 l0_1.length c0_1],.slice Ao26 x5_1.length co26] rfl zM ?_;(with_reducible refine (ancepsref38_projected.calls k1 _ _ l0_0 _ _ l0_1 _ _ x5_1 t491 t494 _ ?side1 ?side2 ?side3 ?side4 ?side5 ?side6 A23.out).mono ?_);(case side1=>exact zC (Kd.C_below HR0_0.out HB.out));(case side2=>exact HC0_0.out);(case side3=>exact zC (Kd.C_below HR0_1.out HB.out));(case side4=>exact HC0_1.out);(case side5=>exact zC (Kd.R_reads' HO_5.out).2.2);(case side6=>exact (Kd.R_reads' HO_5.out).2.1);rintro e w27 ⟨v492,v495,rfl,ho0,ho1,hb⟩;refine ⟨_,rfl,?_⟩;have HO493:=zA (Kd.R_lower (Kd.R_new' ho0 (Kd.R_lt (zR HO_5))) (below_size zB));have HO496:=zA (Kd.R_lower (Kd.R_new' ho1 (Kd.R_lt (zR HO_5))) (below_size zB));replace HO_5:=zA (Kd.R_mono (Kd.R_told (Kd.R_told (Kd.R_old (zR HO_5) hb) (Kd.R_base ho0)) (Kd.R_base ho1)) (fun _ h_=>h_.1));replace BK482:=zA (zb BK482 hb);replace BK483:=zA (zb BK483 hb);replace HB:=zA (below_step zB hb);(try clear hb);(try clear hb2);(try clear hk);(try clear hi);(try clear ho0);(try clear ho1);obtain ⟨Ao28,co28,eo28⟩:=Kd.R_slice HO493.out;subst eo28;have hcz29_0:w27.cell? ⟨gb483,0,none⟩=some (.slice none 0 0):=(blk_cell BK483.out 0).trans rfl;have hcz29_1:w27.cell? ⟨gb483,1,none⟩=some (.slice none 0 0):=(blk_cell BK483.out 1).trans rfl;have hfz29_0:=blk_frozen BK483.out 0;have hfz29_1:=blk_frozen BK483.out 1;obtain ⟨Ao30,co30,eo30⟩:=Kd.R_slice HO496.out;subst eo30))
     refine bodyPost_ret (results_ct rfl _ _ gb483 29 #[.slice Ao28 t491.length co28,.slice Ao30 t494.length co30] (0,0) _ rfl (by refine zj ?_;refine blk_put (cs:=#[.slice Ao28 t491.length co28,.slice none 0 0]) ?_ 1 _ rfl;refine zj ?_;refine blk_put (cs:=#[.slice none 0 0,.slice none 0 0]) ?_ 0 _ rfl;refine zj ?_;exact BK483.out) Try.underlying29 rfl zK) rfl ?_
     exact ⟨_,_,ze,by refine zr ?_;exact Kd.R_mono (Kd.R_far (p:=⟨gb483,1,none⟩) (Kd.R_far (p:=⟨gb483,0,none⟩) (Kd.R_types HO493.out BK483.out (by decide)) (fun _ hk=>hk.2) (.slice Ao28 t491.length co28)) (fun _ hk=>hk.2) (.slice Ao30 t494.length co30)) (fun _ hk=>hk.1.1),by refine zr ?_;exact Kd.R_mono (Kd.R_far (p:=⟨gb483,1,none⟩) (Kd.R_far (p:=⟨gb483,0,none⟩) (Kd.R_types HO496.out BK483.out (by decide)) (fun _ hk=>hk.2) (.slice Ao28 t491.length co28)) (fun _ hk=>hk.2) (.slice Ao30 t494.length co30)) (fun _ hk=>hk.1.1),by repeat (first|(with_reducible first|exact HB.out|apply below_alloc|apply pw_below_drewN|apply below_drew1|refine below_set ?_ GE482.out|refine below_set ?_ GE483.out)|exact HB.out)⟩
 ·rw [if_neg c9] at H
  have c9b0:(t484 == 0)=false:=beq_eq_false_iff_ne.mpr c9
  have c9b1:(t484 != 0)=true:=bne_iff_ne.mpr c9
  (first|rw [c9b0]|(simp only [i64_w,i32_w];rw [c9b0])|skip)
  (try rw [c9b1])
  simp only [Option.some.injEq,Prod.mk.injEq] at H
  obtain ⟨rfl,rfl,rfl⟩:=H
  have hnb31:=NB483_482.out
  have hnc31:=NB482_483.out
  have hcz32_0:w8.cell? ⟨gb483,0,none⟩=some (.slice none 0 0):=(blk_cell BK483.out 0).trans rfl
  have hcz32_1:w8.cell? ⟨gb483,1,none⟩=some (.slice none 0 0):=(blk_cell BK483.out 1).trans rfl
  have hfz32_0:=blk_frozen BK483.out 0
  have hfz32_1:=blk_frozen BK483.out 1
  go_wp2
  refine bodyPost_ret (results_ct rfl _ _ gb483 29 #[.slice none 0 0,.slice none 0 0] (0,0) _ rfl (by refine zj ?_;refine blk_put (cs:=#[.slice none 0 0,.slice none 0 0]) ?_ 1 _ rfl;refine zj ?_;refine blk_put (cs:=#[.slice none 0 0,.slice none 0 0]) ?_ 0 _ rfl;refine zj ?_;exact BK483.out) Try.underlying29 rfl zK) rfl ?_
  exact ⟨_,_,ze,by first|exact Kd.R_nil _ _ _ _ _|exact Kd.N_nil _ _ _ _ _|exact Kd.V_nil _ _ _ _ _|exact Kd.Q_nil _ _ _ _ _|exact Kd.S_nil _ _ _ _ _,by first|exact Kd.R_nil _ _ _ _ _|exact Kd.N_nil _ _ _ _ _|exact Kd.V_nil _ _ _ _ _|exact Kd.Q_nil _ _ _ _ _|exact Kd.S_nil _ _ _ _ _,by repeat (first|(with_reducible first|exact HB.out|apply below_alloc|apply pw_below_drewN|apply below_drew1|refine below_set ?_ GE482.out|refine below_set ?_ GE483.out)|exact HB.out)⟩
end Go.Proofs.Ythcfmdkhkikbcaa.T
