import Derived.Test.YtkjghablbeaioaaS0
import Derived.Test.YtkjghablbeaioaaS1
import Derived.Test.YtkjghablbeaioaaS9
namespace Go.Proofs.Ytkjghablbeaioaa.S
open Go.RowKit Go.Proofs.YtkjghablbeaioaaW.PrintWords Go.Proofs.YtkjghablbeaioaaW.PrintLast Go.Proofs.YtkjghablbeaioaaW.PrintMore
attribute [local go_sem] max2_int min2_int max_two min_two max_three min_three max_four min_four
set_option linter.unusedVariables false
set_option linter.unusedSimpArgs false
def ancepslaw42_copied.l0:Nat→List (S50)→List (S50)→Int→Int→Option ((List (S50)))
 | 0,_,_,_,_=>none
 | k+1,x3,x6,x7,x8=>if x8<x7 then (if 0≤x8 then (if x8<(x6.length:Int) then ((slices_Clone_int_int_21.f ((rd_T50 x6 x8).f0)).bind fun t582=>((slices_Clone_int_int_21.f ((rd_T50 x6 x8).f1)).bind fun t585=>(if x3.length<2932031007402 then (ancepslaw42_copied.l0 k (x3++[(⟨t582,t585⟩:S50)]) x6 x7 (wrap64 (x8+1))) else (none)))) else (none)) else (none)) else (some x3)
def ancepslaw42_copied.f (k:Nat) (l0:List (S50)):Option ((List (S50))):=ancepslaw42_copied.l0 k ([]:List (S50)) l0 (l0.length:Int) 0
theorem ancepslaw42_copied.mono_l:∀ k,(∀ y0 y1 y2 y3,LeO (ancepslaw42_copied.l0 k y0 y1 y2 y3) (ancepslaw42_copied.l0 (k+1) y0 y1 y2 y3))
 | 0=>fun _ _ _ _ r h=>by simp [ancepslaw42_copied.l0] at h
 | k+1=>by
  have ih0:=ancepslaw42_copied.mono_l k
  ·intro y0 y1 y2 y3
   unfold ancepslaw42_copied.l0
   repeat' first
   | (with_reducible exact ih0 _ _ _ _)
   | (with_reducible exact LeO.refl _)
   | (with_reducible exact LeO.none _)
   | (with_reducible refine LeO.ite ?_ ?_)
   | (with_reducible refine LeO.bind ?_ (fun _=>?_))
   | exact LeO.none _
   | refine LeO.ite ?_ ?_
   | refine LeO.bind ?_ (fun _=>?_)
theorem ancepslaw42_copied.mono:∀ a0 k,LeO (ancepslaw42_copied.f k a0) (ancepslaw42_copied.f (k+1) a0):=by
 intro a0 k
 have ih0:=ancepslaw42_copied.mono_l k
 unfold ancepslaw42_copied.f
 repeat' first
   | (with_reducible exact ih0 _ _ _ _)
   | (with_reducible exact LeO.refl _)
   | (with_reducible exact LeO.none _)
   | (with_reducible refine LeO.ite ?_ ?_)
   | (with_reducible refine LeO.bind ?_ (fun _=>?_))
   | exact LeO.none _
   | refine LeO.ite ?_ ?_
   | refine LeO.bind ?_ (fun _=>?_)
def ancepslaw42_copied.T5:Bool×List (List Nat×List Nat):=(true,[([],[]),([],[]),([1],[1]),([2],[2]),([],[]),([4],[4]),([5,3],[5]),([3,6],[3,6]),([7],[7]),([0,8,6],[0,8]),([9,9,0,1,2,3,4,5,6,7,8,9],[0,9])])
def ancepslaw42_copied.B5:List Nat:=[0,0,2,6,0,16,62,126,254,511,1023]
theorem ancepslaw42_copied.tab5:rtab .any (opsOf Try.f12 5)=ancepslaw42_copied.T5:=by kernel_rfl
theorem ancepslaw42_copied.bits5:waitsOk ancepslaw42_copied.T5.2 ancepslaw42_copied.B5=true:=by kernel_rfl
set_option maxHeartbeats 8000000 in
set_option maxRecDepth 100000 in
theorem ancepslaw42_copied.calls (k:Nat) (A0:Option Addr) (c0:Nat) (l0:List (S50)) (r:List (S50)) (w:World) (hr0:Kd.C k50 w A0 l0.length l0) (hc0:l0.length≤c0) (h:ancepslaw42_copied.f k l0=some r) :
  Calls Try.prog 12 #[.slice A0 l0.length c0] w fun e w'=>∃ v0_:Value,e=.returned (v0_)∧Kd.S k50 50 w' w.heap.size (fun _=>True) v0_ r∧Below w.heap.size w w':=by
 have hu50:=Try.underlying50
 have hu30:=Try.underlying30
 have HR0:=zA hr0
 have HC0:=zA hc0
 clear hr0 hc0
 have HB:=zA (Below.refl w.heap.size w)
 have H:(ancepslaw42_copied.l0 k ([]:List (S50)) l0 (l0.length:Int) 0)=some r:=h
 clear h
 have H':=zA H
 clear H
 go_enter Try.func12,Try.ntmps12
 go_wp2
 go_loopg [3,8] k (fun kq v3 v8 w'=>∃ (x3_1:List (S50)) (x8_1:Int),v8=.int .i64 x8_1∧Aside0 (ancepslaw42_copied.l0 kq x3_1 l0 (l0.length:Int) x8_1=some r)∧Aside0 (kq≤k)∧Aside0 (Kd.S k50 50 w' w.heap.size (fun _=>True) v3 x3_1)∧Aside0 (Below w.heap.size w w'))
 case atStart=>exact ⟨(([]:List (S50))),(0),zT,H',⟨Nat.le_refl _⟩,⟨by first|exact Kd.S_nil _ _ _ _ _|exact Kd.N_nil _ _ _ _ _|exact Kd.V_nil _ _ _ _ _|exact Kd.Q_nil _ _ _ _ _|exact Kd.R_nil _ _ _ _ _⟩,⟨by repeat (first|(with_reducible first|exact HB.out|apply below_alloc|apply pw_below_drewN|apply below_drew1)|exact HB.out)⟩⟩
 case round=>
  clear H'
  obtain ⟨x3_1,x8_1,rfl,HA,HK1,HO_3,HB⟩:=hrel
  cases gk with
  | zero=>exact absurd HA.out (by simp [ancepslaw42_copied.l0])
  | succ k1=>
   have H:=HA.out
   clear HA
   simp only [ancepslaw42_copied.l0] at H
   by_cases c2:x8_1<(l0.length:Int)
   ·rw [if_pos c2] at H
    have c2b0:decide (x8_1<(l0.length:Int))=true:=decide_eq_true c2
    clear c2
    by_cases c3:0≤x8_1
    ·rw [if_pos c3] at H
     have c3b0:decide (0≤x8_1)=true:=decide_eq_true c3
     clear c3
     by_cases c4:x8_1<(l0.length:Int)
     ·rw [if_pos c4] at H
      have c4b0:decide (x8_1<(l0.length:Int))=true:=decide_eq_true c4
      clear c4
      replace H:=Option.bind_eq_some_iff.mp H
      obtain ⟨t582,A50,H⟩:=H
      replace H:((slices_Clone_int_int_21.f ((rd_T50 l0 x8_1).f1)).bind fun t585=>(if x3_1.length<2932031007402 then (ancepslaw42_copied.l0 k1 (x3_1++[(⟨t582,t585⟩:S50)]) l0 (l0.length:Int) (wrap64 (x8_1+1))) else (none)))=some r:=H
      have A5:=zA A50
      clear A50
      replace H:=Option.bind_eq_some_iff.mp H
      obtain ⟨t585,A60,H⟩:=H
      replace H:(if x3_1.length<2932031007402 then (ancepslaw42_copied.l0 k1 (x3_1++[(⟨t582,t585⟩:S50)]) l0 (l0.length:Int) (wrap64 (x8_1+1))) else (none))=some r:=H
      have A6:=zA A60
      clear A60
      by_cases c7:x3_1.length<2932031007402
      ·rw [if_pos c7] at H
       have LMc7:=zA c7
       clear c7
       obtain ⟨y588,hy588⟩:∃ y_:List (S50),y_=(x3_1++[(⟨t582,t585⟩:S50)]):=⟨_,rfl⟩
       replace H:(ancepslaw42_copied.l0 k1 y588 l0 (l0.length:Int) (wrap64 (x8_1+1)))=some r:=by first|(rw [hy588];with_reducible exact H)|(have H2_:=(Option.bind_some _ _).symm.trans H;rw [hy588];with_reducible exact H2_)|(have H2_:=(Option.bind_some _ _).symm.trans H;with_reducible exact H2_)|with_reducible exact H|(rw [hy588];exact H)|exact H
       have Ny588:=zA hy588
       clear hy588
       have H':=zA H
       clear H
       have p580:0≤(x8_1:Int):=of_decide_eq_true zh
       have q580:x8_1<(l0.length:Int):=of_decide_eq_true zh
       obtain ⟨ad580,A580_0,c580_0,A580_1,c580_1,e580,hx580_0,hx580_1,hl580_0,hi580_0,hl580_1,hi580_1⟩:=at_T50 HR0.out x8_1 p580 q580
       cases e580
       replace hx580_0:=(HB.out.cell (World.block_lt_of_cell? w _ hx580_0)).trans hx580_0
       replace hx580_1:=(HB.out.cell (World.block_lt_of_cell? w _ hx580_1)).trans hx580_1
       have HR580_0:=zA hi580_0
       have HC580_0:=zA hl580_0
       clear hi580_0 hl580_0
       have HR580_1:=zA hi580_1
       have HC580_1:=zA hl580_1
       clear hi580_1 hl580_1
       replace p580:=eq_true p580
       replace q580:=eq_true q580
       try go_wp2_with (first|((with_reducible refine gate_dst (N:=5) rfl ?_);refine box_event ?hg (N:=5) ?hd (cs:=#[.slice none 0 0,.slice none 0 0]) (t:=50) ?hr ?_;(case hd=>rfl);(case hg=>rfl);(case hr=>first|(go_simp;done)|(go_simp;rfl));intro gb581 hg w8 hbox hb;have BK581:=zA (hbox);have GW581:=zA (zG hg (below_size zB):w.heap.size≤gb581);have GE581:=GW581;replace HO_3:=zA (Kd.S_below (Kd.S_elderB (zS HO_3) gb581 (Nat.le_of_eq hg.symm)) hb);replace HB:=zA (below_step zB hb);clear hb hbox hg;have hcz9_0:w8.cell? ⟨gb581,0,none⟩=some (.slice none 0 0):=(blk_cell BK581.out 0).trans rfl;have hcz9_1:w8.cell? ⟨gb581,1,none⟩=some (.slice none 0 0):=(blk_cell BK581.out 1).trans rfl;have hfz9_0:=blk_frozen BK581.out 0;have hfz9_1:=blk_frozen BK581.out 1))
       have n0_:Aside0 (Kd.S k50 50 ((w8.setCell ⟨gb581,0,none⟩ (.slice A580_0 ((rd_T50 l0 x8_1).f0).length c580_0)).setCell ⟨gb581,1,none⟩ (.slice A580_1 ((rd_T50 l0 x8_1).f1).length c580_1)) w.heap.size (fun k_=>k_≠gb581) u3 x3_1):=⟨by (with_reducible repeat (first|apply Kd.S_alloc|apply Kd.S_drewN|apply Kd.S_drew));exact Kd.S_mono (Kd.S_far (p:=⟨gb581,1,none⟩) (Kd.S_far (p:=⟨gb581,0,none⟩) (Kd.S_mono HO_3.out (fun k_ hk=>(⟨hk,hk.2⟩:_∧k_≠gb581))) (fun _ hk=>hk.2) (.slice A580_0 ((rd_T50 l0 x8_1).f0).length c580_0)) (fun _ hk=>hk.2) (.slice A580_1 ((rd_T50 l0 x8_1).f1).length c580_1)) (fun _ hk=>hk.1.2)⟩
       have n1_:Aside0 (((w8.setCell ⟨gb581,0,none⟩ (.slice A580_0 ((rd_T50 l0 x8_1).f0).length c580_0)).setCell ⟨gb581,1,none⟩ (.slice A580_1 ((rd_T50 l0 x8_1).f1).length c580_1)).heap[gb581]?=some (.cells #[.slice A580_0 ((rd_T50 l0 x8_1).f0).length c580_0,.slice A580_1 ((rd_T50 l0 x8_1).f1).length c580_1] 50 (0,0))):=⟨by refine zj ?_;refine blk_put (cs:=#[.slice A580_0 ((rd_T50 l0 x8_1).f0).length c580_0,.slice none 0 0]) ?_ 1 _ rfl;refine zj ?_;refine blk_put (cs:=#[.slice none 0 0,.slice none 0 0]) ?_ 0 _ rfl;refine zj ?_;exact BK581.out⟩
       have n2_:Aside0 (Below w.heap.size w ((w8.setCell ⟨gb581,0,none⟩ (.slice A580_0 ((rd_T50 l0 x8_1).f0).length c580_0)).setCell ⟨gb581,1,none⟩ (.slice A580_1 ((rd_T50 l0 x8_1).f1).length c580_1))):=⟨by repeat (first|(with_reducible first|exact HB.out|apply below_alloc|apply pw_below_drewN|apply below_drew1|refine below_set ?_ GE581.out)|exact HB.out)⟩
       (try clear HO_3)
       (try clear BK581)
       (try clear HB)
       generalize ((w8.setCell ⟨gb581,0,none⟩ (.slice A580_0 ((rd_T50 l0 x8_1).f0).length c580_0)).setCell ⟨gb581,1,none⟩ (.slice A580_1 ((rd_T50 l0 x8_1).f1).length c580_1))=w10 at n0_ n1_ n2_ ⊢
       have HO_3:=n0_
       have BK581:=n1_
       have HB:=n2_
       clear n0_ n1_ n2_
       replace HO_3:=zA (Kd.S_drew HO_3.out)
       replace BK581:=zA (blk_drew BK581.out)
       replace HB:=zA (below_drew1 HB.out)
       refine start_ (n:=11) (S:=fun w'=>w'.cell? ⟨gb581,0,none⟩=some (.slice A580_0 ((rd_T50 l0 x8_1).f0).length c580_0)∧w'.cell? ⟨gb581,1,none⟩=some (.slice A580_1 ((rd_T50 l0 x8_1).f1).length c580_1)) (ds:=[]) #[false,false,false,false,false,false,false,false,false,false,false] zK rfl rfl ⟨(blk_cell BK581.out 0).trans rfl,(blk_cell BK581.out 1).trans rfl⟩ (fun hHeld=>?_);refine with_tabW ancepslaw42_copied.tab5 ancepslaw42_copied.bits5 (fun HT_ HW_=>?_)
       generalize w10.drew=w11 at HO_3 BK581 HB hHeld ⊢
       refine pure_ (i:=0) (N:=some 12) (v:=?_) (a':=?_) #[true,false,false,false,false,false,false,false,false,false,false] rfl rfl (any_of HT_.out zK) (fun _ _ _ h=>h) (Or.inl ⟨by rfl,?_⟩) ?_ ?_
       rotate_left
       ·intro w'
        go_simp
        with_reducible rfl
       rotate_left
       ·simp only [Act.put,zi,zs,zt,i64_w,i32_w]
        rfl
       refine pure_ (i:=1) (N:=some 13) (v:=?_) (a':=?_) #[true,true,false,false,false,false,false,false,false,false,false] rfl rfl (any_of HT_.out zK) (fun _ _ _ h=>h) (Or.inl ⟨by rfl,?_⟩) ?_ ?_
       rotate_left
       ·intro w'
        go_simp
        with_reducible rfl
       rotate_left
       ·simp only [Act.put,zi,zs,zt,i64_w,i32_w]
        rfl
       refine pure_ (i:=4) (N:=some 16) (v:=?_) (a':=?_) #[true,true,false,false,true,false,false,false,false,false,false] rfl rfl (any_of HT_.out zK) (fun _ _ _ h=>h) (Or.inl ⟨by rfl,?_⟩) ?_ ?_
       rotate_left
       ·intro w'
        go_simp
        with_reducible rfl
       rotate_left
       ·simp only [Act.put,zi,zs,zt,i64_w,i32_w]
        rfl
       refine take_ (i:=2) (N:=some 14) (v:=?_) (a':=?_) #[true,true,true,false,true,false,false,false,false,false,false] rfl rfl (take_ofW HT_.out HW_.out zK) (fun _ _ _ h=>h) (Or.inl ⟨by rfl,?_⟩) hHeld ?_ ?_
       rotate_left
       ·rintro w' ⟨s0,s1⟩
        go_simp
        with_reducible rfl
       rotate_left
       ·simp only [Act.put,zi,zs,zt,i64_w,i32_w]
        rfl
       refine take_ (i:=5) (N:=some 17) (v:=?_) (a':=?_) #[true,true,true,false,true,true,false,false,false,false,false] rfl rfl (take_ofW HT_.out HW_.out zK) (fun _ _ _ h=>h) (Or.inl ⟨by rfl,?_⟩) hHeld ?_ ?_
       rotate_left
       ·rintro w' ⟨s0,s1⟩
        go_simp
        with_reducible rfl
       rotate_left
       ·simp only [Act.put,zi,zs,zt,i64_w,i32_w]
        rfl
       refine one_ (i:=3) (N:=some 15) #[true,true,true,true,true,true,false,false,false,false,false] rfl rfl (one_of HT_.out zK) (by decide) (fun K hK=>?_)
       refine goes_ Try.func21 zK rfl #[.slice A580_0 ((rd_T50 l0 x8_1).f0).length c580_0] (by rfl) rfl rfl zM ?_
       with_reducible refine (slices_Clone_int_int_21.calls _ _ ((rd_T50 l0 x8_1).f0) t582 _ ?side1 ?side2 A5.out).mono ?_
       (case side1=>exact zC (Kd.C_below HR580_0.out HB.out))
       (case side2=>exact HC580_0.out)
       rintro e w12 ⟨v583,rfl,ho0,hb⟩
       refine ⟨_,rfl,?_⟩
       have HO584:=zA (Kd.R_lower ho0 (below_size zB))
       replace HO_3:=zA (Kd.S_elder' (zS HO_3) (Kd.R_base ho0) hb)
       replace BK581:=zA (zb BK581 hb)
       replace HB:=zA (below_step zB hb)
       (try clear hb)
       (try clear hb2)
       (try clear hk)
       (try clear hi)
       (try clear ho0)
       refine hK.out _ _ ⟨(blk_cell BK581.out 0).trans rfl,(blk_cell BK581.out 1).trans rfl⟩ (fun hHeld=>?_)
       clear hK K
       refine norm_ (a':=?_) ?_ ?_
       rotate_left
       ·show Act.put _ (some 15) _=_
        simp only [Act.put,zi,zs,zt,i64_w,i32_w]
        rfl
       refine one_ (i:=6) (N:=some 18) #[true,true,true,true,true,true,true,false,false,false,false] rfl rfl (one_of HT_.out zK) (by decide) (fun K hK=>?_)
       refine goes_ Try.func21 zK rfl #[.slice A580_1 ((rd_T50 l0 x8_1).f1).length c580_1] (by rfl) rfl rfl zM ?_
       with_reducible refine (slices_Clone_int_int_21.calls _ _ ((rd_T50 l0 x8_1).f1) t585 _ ?side1 ?side2 A6.out).mono ?_
       (case side1=>exact zC (Kd.C_below HR580_1.out HB.out))
       (case side2=>exact HC580_1.out)
       rintro e w13 ⟨v586,rfl,ho0,hb⟩
       refine ⟨_,rfl,?_⟩
       have HO587:=zA (Kd.R_lower (Kd.R_new' ho0 (Kd.R_lt (zR HO584))) (below_size zB))
       replace HO_3:=zA (Kd.S_elder' (zS HO_3) (Kd.R_base ho0) hb)
       replace HO584:=zA (Kd.R_elder' (zR HO584) (Kd.R_base ho0) hb)
       replace BK581:=zA (zb BK581 hb)
       replace HB:=zA (below_step zB hb)
       (try clear hb)
       (try clear hb2)
       (try clear hk)
       (try clear hi)
       (try clear ho0)
       obtain ⟨Ao14,co14,eo14⟩:=Kd.R_slice HO587.out
       (first|subst eo14|(injection eo14 with f1_ f2_ f3_;have f4_:=f1_.symm;have f5_:=f3_.symm;clear f1_ f2_ f3_;subst f4_;subst f5_))
       obtain ⟨Ao15,co15,eo15⟩:=Kd.R_slice HO584.out
       (first|subst eo15|(injection eo15 with f1_ f2_ f3_;have f4_:=f1_.symm;have f5_:=f3_.symm;clear f1_ f2_ f3_;subst f4_;subst f5_))
       refine hK.out _ _ ⟨(blk_cell BK581.out 0).trans rfl,(blk_cell BK581.out 1).trans rfl⟩ (fun hHeld=>?_)
       clear hK K
       refine norm_ (a':=?_) ?_ ?_
       rotate_left
       ·show Act.put _ (some 18) _=_
        simp only [Act.put,zi,zs,zt,i64_w,i32_w]
        rfl
       refine pure_ (i:=7) (N:=some 19) (v:=?_) (a':=?_) #[true,true,true,true,true,true,true,true,false,false,false] rfl rfl (any_of HT_.out zK) (fun _ _ _ h=>h) (Or.inl ⟨by rfl,?_⟩) ?_ ?_
       rotate_left
       ·intro w'
        go_simp
        with_reducible rfl
       rotate_left
       ·simp only [Act.put,zi,zs,zt,i64_w,i32_w]
        rfl
       refine one_ (i:=8) (N:=some 20) #[true,true,true,true,true,true,true,true,true,false,false] rfl rfl (one_of HT_.out zK) (by decide) (fun K hK=>?_)
       refine value_ (w1:=?_) (v:=?_) (by rfl) rfl ?_ ?_
       rotate_left 2
       ·go_simp
        constructor
        ·rfl
        ·rfl
       refine hK.out _ _ ⟨(blk_cell (blk_alloc BK581.out _) 0).trans rfl,(blk_cell (blk_alloc BK581.out _) 1).trans rfl⟩ (fun hHeld=>?_)
       clear hK K
       refine norm_ (a':=?_) ?_ ?_
       rotate_left
       ·show Act.put _ (some 20) _=_
        simp only [Act.put,zi,zs,zt,i64_w,i32_w]
        rfl
       refine one_ (i:=9) (N:=some 21) #[true,true,true,true,true,true,true,true,true,true,false] rfl rfl (one_of HT_.out zK) (by decide) (fun K hK=>?_)
       refine Kd.S_append_step k50 (w0:=w) w.heap.size (by rfl) (.tmp 12) (.tmp 20) 22 50 (.agg #[(.slice none 0 0),(.slice none 0 0)]) 48 rfl Try.underlying22 info50 rfl (by decide) (by omega) u3 x3_1 (⟨t582,t585⟩:S50) [.slice Ao15 t582.length co15,.slice Ao14 t585.length co14] (fun k_=>k_≠gb581) (fun k_=>some k_=(.slice Ao15 t582.length co15:Value).ownBlock∨some k_=(.slice Ao14 t585.length co14:Value).ownBlock) rfl rfl ?aP (fun k_ hk_=>hk_.elim (fun h_=>((Kd.R_mono (ok':=fun k_=>((fun k_=>k_≠gb581)) k_∧some k_≠(u3:Value).ownBlock) (Kd.R_types (Kd.R_apart' (HO584.out) (Kd.S_typed HO_3.out) (by decide)) BK581.out (by decide)) (fun k_ hk=>⟨hk.2,hk.1.2⟩))).1 k_ h_.symm) (fun h_=>((Kd.R_mono (ok':=fun k_=>((fun k_=>k_≠gb581)) k_∧some k_≠(u3:Value).ownBlock) (Kd.R_types (Kd.R_apart' (HO587.out) (Kd.S_typed HO_3.out) (by decide)) BK581.out (by decide)) (fun k_ hk=>⟨hk.2,hk.1.2⟩))).1 k_ h_.symm)) ?aF ?aO ?aB ?aS ?aL ?_
       (case aP=>exact k50_mkM _ _ _ (⟨t582,t585⟩:S50) (Kd.R_mono (Kd.R_tight rfl (Kd.R_mono (ok':=fun k_=>((fun k_=>k_≠gb581)) k_∧some k_≠(u3:Value).ownBlock) (Kd.R_types (Kd.R_apart' (HO584.out) (Kd.S_typed HO_3.out) (by decide)) BK581.out (by decide)) (fun k_ hk=>⟨hk.2,hk.1.2⟩))) (fun _ h_=>Or.inl h_)) (Kd.R_mono (Kd.R_tight rfl (Kd.R_mono (ok':=fun k_=>((fun k_=>k_≠gb581)) k_∧some k_≠(u3:Value).ownBlock) (Kd.R_types (Kd.R_apart' (HO587.out) (Kd.S_typed HO_3.out) (by decide)) BK581.out (by decide)) (fun k_ hk=>⟨hk.2,hk.1.2⟩))) (fun _ h_=>Or.inr (h_))))
       (case aB=>exact zB)
       (case aF=>exact (fun k_ hk=>Kd.freshB (g:=gb581) (o:=.cells #[.slice A580_0 ((rd_T50 l0 x8_1).f0).length c580_0,.slice A580_1 ((rd_T50 l0 x8_1).f1).length c580_1] 50 (0,0)) (zk BK581) k_ hk))
       (case aO=>exact (by (with_reducible repeat (first|apply Kd.S_alloc|apply Kd.S_drewN|apply Kd.S_drew));exact Kd.S_mono HO_3.out (fun k_ hk=>⟨hk.1.1,fun e_=>e_.elim (fun h_=>hk.1.2 h_) (fun h_=>hk.2 h_)⟩)))
       (case aS=>exact (below_size zB))
       (case aL=>have:=LMc7.out;omega)
       intro v589 w16 ho hb hg hat
       rw [← Ny588.out] at ho
       have HO590:=zA (ho)
       replace BK581:=zA (blk_grown (g:=gb581) (o:=.cells #[.slice A580_0 ((rd_T50 l0 x8_1).f0).length c580_0,.slice A580_1 ((rd_T50 l0 x8_1).f1).length c580_1] 50 (0,0)) (zk BK581) hg (Kd.S_away HO_3.out (fun _ hk=>hk.1.1)))
       replace HB:=zA (hb)
       clear HO_3 HO584 HO587
       clear ho hb hg hat
       refine hK.out _ _ ⟨(blk_cell BK581.out 0).trans rfl,(blk_cell BK581.out 1).trans rfl⟩ (fun hHeld=>?_)
       clear hK K
       refine norm_ (a':=?_) ?_ ?_
       rotate_left
       ·show Act.put _ (some 21) _=_
        simp only [Act.put,zi,zs,zt,i64_w,i32_w]
        rfl
       refine pure_ (i:=10) (N:=some 3) (v:=?_) (a':=?_) #[true,true,true,true,true,true,true,true,true,true,true] rfl rfl (any_of HT_.out zK) (fun _ _ _ h=>h) (Or.inl ⟨by rfl,?_⟩) ?_ ?_
       rotate_left
       ·intro w'
        go_simp
        with_reducible rfl
       rotate_left
       ·simp only [Act.put,zi,zs,zt,i64_w,i32_w]
        rfl
       refine done_ (done_of HT_.out zK) ?_
       try go_wp2
       go_roundg k1
       case measure=>have:=HK1.out;omega
       case rel=>exact ⟨(y588),(wrap64 (x8_1+1)),zT,H',⟨by have:=HK1.out;omega⟩,⟨by (with_reducible repeat (first|apply Kd.S_alloc|apply Kd.S_drewN|apply Kd.S_drew));exact Kd.S_mono HO590.out (fun _ hk=>trivial)⟩,⟨by repeat (first|(with_reducible first|exact HB.out|apply below_alloc|apply pw_below_drewN|apply below_drew1|refine below_set ?_ GE581.out)|exact HB.out)⟩⟩
      ·rw [if_neg c7] at H
       exact absurd H (by simp)
     ·rw [if_neg c4] at H
      exact absurd H (by simp)
    ·rw [if_neg c3] at H
     exact absurd H (by simp)
   ·rw [if_neg c2] at H
    have c2b0:decide (x8_1<(l0.length:Int))=false:=decide_eq_false c2
    clear c2
    obtain rfl:=Option.some.inj H
    go_wp2
    go_ret
    exact ⟨_,ze,by (with_reducible repeat (first|apply Kd.S_alloc|apply Kd.S_drewN|apply Kd.S_drew));exact HO_3.out,by repeat (first|(with_reducible first|exact HB.out|apply below_alloc|apply pw_below_drewN|apply below_drew1)|exact HB.out)⟩
def ancepsref38_Assignment.l0:Nat→List Int→Int→Int→Int→Option (Int)
 | 0,_,_,_,_=>none
 | k+1,x0,x1,x5,x6=>if x6<(x0.length:Int) then (if 0≤x6 then (if 0≤(rd x0 x6) then (ancepsref38_Assignment.l0 k x0 x1 (wrap64 (x5+(shl .i64 (Int.tmod (shr .i64 x1 x6) 2) (rd x0 x6)))) (wrap64 (x6+1))) else (none)) else (none)) else (some x5)
def ancepsref38_Assignment.f (k:Nat) (l0:List Int) (a1:Int):Option (Int):=ancepsref38_Assignment.l0 k l0 a1 0 0
theorem ancepsref38_Assignment.mono_l:∀ k,(∀ y0 y1 y2 y3,LeO (ancepsref38_Assignment.l0 k y0 y1 y2 y3) (ancepsref38_Assignment.l0 (k+1) y0 y1 y2 y3))
 | 0=>fun _ _ _ _ r h=>by simp [ancepsref38_Assignment.l0] at h
 | k+1=>by
  have ih0:=ancepsref38_Assignment.mono_l k
  ·intro y0 y1 y2 y3
   unfold ancepsref38_Assignment.l0
   repeat' first
   | (with_reducible exact ih0 _ _ _ _)
   | (with_reducible exact LeO.refl _)
   | (with_reducible exact LeO.none _)
   | (with_reducible refine LeO.ite ?_ ?_)
   | (with_reducible refine LeO.bind ?_ (fun _=>?_))
   | exact LeO.none _
   | refine LeO.ite ?_ ?_
   | refine LeO.bind ?_ (fun _=>?_)
theorem ancepsref38_Assignment.mono:∀ a0 a1 k,LeO (ancepsref38_Assignment.f k a0 a1) (ancepsref38_Assignment.f (k+1) a0 a1):=by
 intro a0 a1 k
 have ih0:=ancepsref38_Assignment.mono_l k
 unfold ancepsref38_Assignment.f
 repeat' first
   | (with_reducible exact ih0 _ _ _ _)
   | (with_reducible exact LeO.refl _)
   | (with_reducible exact LeO.none _)
   | (with_reducible refine LeO.ite ?_ ?_)
   | (with_reducible refine LeO.bind ?_ (fun _=>?_))
   | exact LeO.none _
   | refine LeO.ite ?_ ?_
   | refine LeO.bind ?_ (fun _=>?_)
set_option maxHeartbeats 8000000 in
set_option maxRecDepth 100000 in
theorem ancepsref38_Assignment.calls (k:Nat) (A0:Option Addr) (c0:Nat) (l0:List Int) (a1:Int) (r:Int) (w:World) (hr0:Kd.C (Kd.int .i64) w A0 l0.length l0) (hc0:l0.length≤c0) (h:ancepsref38_Assignment.f k l0 a1=some r) :
  Calls Try.prog 103 #[.slice A0 l0.length c0,.int .i64 a1] w fun e w'=>e=.returned (.int .i64 r)∧Drawn0 w w':=by
 have hu3:=Try.underlying3
 have HR0:=zA hr0
 have HC0:=zA hc0
 clear hr0 hc0
 have H:(ancepsref38_Assignment.l0 k l0 a1 0 0)=some r:=h
 clear h
 have H':=zA H
 clear H
 go_enter Try.func103,Try.ntmps103
 go_wp2
 repeat (go_quiet (fail);try go_wp2)
 go_loopg [5,6] k (fun kq v5 v6 w'=>∃ (x5_1:Int) (x6_1:Int),v5=.int .i64 x5_1∧v6=.int .i64 x6_1∧Aside0 (ancepsref38_Assignment.l0 kq l0 a1 x5_1 x6_1=some r)∧Aside0 (kq≤k)∧Drawn0 w w')
 case atStart=>exact ⟨(0),(0),zT,zT,H',⟨Nat.le_refl _⟩,by repeat (first|exact Drawn0.refl _|apply Drawn0.step)⟩
 case round=>
  clear H'
  obtain ⟨x5_1,x6_1,rfl,rfl,HA,HK1,⟨m1,rfl⟩⟩:=hrel
  cases gk with
  | zero=>exact absurd HA.out (by simp [ancepsref38_Assignment.l0])
  | succ k1=>
   have H:=HA.out
   clear HA
   simp only [ancepsref38_Assignment.l0] at H
   by_cases c3:x6_1<(l0.length:Int)
   ·rw [if_pos c3] at H
    have c3b0:decide (x6_1<(l0.length:Int))=true:=decide_eq_true c3
    clear c3
    by_cases c4:0≤x6_1
    ·rw [if_pos c4] at H
     have c4b0:=eq_true c4
     have c4b1:decide (0≤x6_1)=true:=decide_eq_true c4
     clear c4
     obtain ⟨ji5,hji5⟩:∃ j_:Int,(shr .i64 a1 x6_1)=j_:=⟨_,rfl⟩
     replace H:(if 0≤(rd l0 x6_1) then (ancepsref38_Assignment.l0 k1 l0 a1 (wrap64 (x5_1+(shl .i64 (Int.tmod (ji5) 2) (rd l0 x6_1)))) (wrap64 (x6_1+1))) else (none))=some r:=by first|(rw [hji5] at H;exact H)|(simp only [hji5] at H ⊢;exact H)
     have hji5_:(a1 / 2 ^ min x6_1.toNat 64)=ji5:=hji5
     have hji5z:x6_1≤64→(a1 / 2 ^ x6_1.toNat)=ji5:=shr_small hji5
     by_cases c6:0≤(rd l0 x6_1)
     ·rw [if_pos c6] at H
      have c6b0:=eq_true c6
      have c6b1:decide (0≤(rd l0 x6_1))=true:=decide_eq_true c6
      clear c6
      obtain ⟨ji7,hji7⟩:∃ j_:Int,(shl .i64 (Int.tmod (ji5) 2) (rd l0 x6_1))=j_:=⟨_,rfl⟩
      replace H:(ancepsref38_Assignment.l0 k1 l0 a1 (wrap64 (x5_1+(ji7))) (wrap64 (x6_1+1)))=some r:=by first|(rw [hji7] at H;exact H)|(simp only [hji7] at H ⊢;exact H)
      have hji7_:(IntKind.i64.wrap ((Int.tmod (ji5) 2) * 2 ^ min (rd l0 x6_1).toNat 64))=ji7:=hji7
      have hji7z:(rd l0 x6_1)≤64→(IntKind.i64.wrap ((Int.tmod (ji5) 2) * 2 ^ (rd l0 x6_1).toNat))=ji7:=shl_small hji7
      have hji7y:(wrap64 ((Int.tmod (ji5) 2) * 2 ^ min (rd l0 x6_1).toNat 64))=ji7:=(i64_w _).symm.trans hji7_
      have hji7x:(rd l0 x6_1)≤64→(wrap64 ((Int.tmod (ji5) 2) * 2 ^ (rd l0 x6_1).toNat))=ji7:=fun h_=>(i64_w _).symm.trans (hji7z h_)
      have H':=zA H
      clear H
      have p609:0≤(x6_1:Int):=of_decide_eq_true zh
      have q609:x6_1<(l0.length:Int):=of_decide_eq_true zh
      obtain ⟨ad609,e609,hx609_0⟩:=Kd.at_int HR0.out x6_1 p609 q609
      cases e609
      replace p609:=eq_true p609
      replace q609:=eq_true q609
      go_wp2
      repeat (go_quiet (fail);try go_wp2)
      go_roundg k1
      case measure=>have:=HK1.out;omega
      case rel=>exact ⟨(wrap64 (x5_1+(ji7))),(wrap64 (x6_1+1)),(by first|rfl|(simp;done)|(simp only [← hji7] <;> (first|rfl|simp))|(simp [*];done)),zT,H',⟨by have:=HK1.out;omega⟩,by repeat (first|exact Drawn0.refl _|apply Drawn0.step)⟩
     ·rw [if_neg c6] at H
      exact absurd H (by simp)
    ·rw [if_neg c4] at H
     exact absurd H (by simp)
   ·rw [if_neg c3] at H
    have c3b0:decide (x6_1<(l0.length:Int))=false:=decide_eq_false c3
    clear c3
    obtain rfl:=Option.some.inj H
    go_wp2
    repeat (go_quiet (fail);try go_wp2)
    go_ret
    exact ⟨by first|rfl|(simp;done)|(simp [*];done),by repeat (first|exact Drawn0.refl _|apply Drawn0.step)⟩
def ancepsref38_in.l0:Nat→List Int→Int→Int→Option (Bool)
 | 0,_,_,_=>none
 | k+1,x0,x1,x5=>if x5<(x0.length:Int) then (if 0≤x5 then (if (rd x0 x5)=x1 then (some true) else (ancepsref38_in.l0 k x0 x1 (wrap64 (x5+1)))) else (none)) else (some false)
def ancepsref38_in.f (k:Nat) (l0:List Int) (a1:Int):Option (Bool):=ancepsref38_in.l0 k l0 a1 0
theorem ancepsref38_in.mono_l:∀ k,(∀ y0 y1 y2,LeO (ancepsref38_in.l0 k y0 y1 y2) (ancepsref38_in.l0 (k+1) y0 y1 y2))
 | 0=>fun _ _ _ r h=>by simp [ancepsref38_in.l0] at h
 | k+1=>by
  have ih0:=ancepsref38_in.mono_l k
  ·intro y0 y1 y2
   unfold ancepsref38_in.l0
   repeat' first
   | (with_reducible exact ih0 _ _ _)
   | (with_reducible exact LeO.refl _)
   | (with_reducible exact LeO.none _)
   | (with_reducible refine LeO.ite ?_ ?_)
   | (with_reducible refine LeO.bind ?_ (fun _=>?_))
   | exact LeO.none _
   | refine LeO.ite ?_ ?_
   | refine LeO.bind ?_ (fun _=>?_)
theorem ancepsref38_in.mono:∀ a0 a1 k,LeO (ancepsref38_in.f k a0 a1) (ancepsref38_in.f (k+1) a0 a1):=by
 intro a0 a1 k
 have ih0:=ancepsref38_in.mono_l k
 unfold ancepsref38_in.f
 repeat' first
   | (with_reducible exact ih0 _ _ _)
   | (with_reducible exact LeO.refl _)
   | (with_reducible exact LeO.none _)
   | (with_reducible refine LeO.ite ?_ ?_)
   | (with_reducible refine LeO.bind ?_ (fun _=>?_))
   | exact LeO.none _
   | refine LeO.ite ?_ ?_
   | refine LeO.bind ?_ (fun _=>?_)
set_option maxHeartbeats 8000000 in
set_option maxRecDepth 100000 in
theorem ancepsref38_in.calls (k:Nat) (A0:Option Addr) (c0:Nat) (l0:List Int) (a1:Int) (r:Bool) (w:World) (hr0:Kd.C (Kd.int .i64) w A0 l0.length l0) (hc0:l0.length≤c0) (h:ancepsref38_in.f k l0 a1=some r) :
  Calls Try.prog 114 #[.slice A0 l0.length c0,.int .i64 a1] w fun e w'=>e=.returned (.bool r)∧Drawn0 w w':=by
 have hu3:=Try.underlying3
 have HR0:=zA hr0
 have HC0:=zA hc0
 clear hr0 hc0
 have H:(ancepsref38_in.l0 k l0 a1 0)=some r:=h
 clear h
 have H':=zA H
 clear H
 go_enter Try.func114,Try.ntmps114
 go_wp2
 go_loopg [5] k (fun kq v5 w'=>∃ (x5_1:Int),v5=.int .i64 x5_1∧Aside0 (ancepsref38_in.l0 kq l0 a1 x5_1=some r)∧Aside0 (kq≤k)∧Drawn0 w w')
 case atStart=>exact ⟨(0),zT,H',⟨Nat.le_refl _⟩,by repeat (first|exact Drawn0.refl _|apply Drawn0.step)⟩
 case round=>
  clear H'
  obtain ⟨x5_1,rfl,HA,HK1,⟨m1,rfl⟩⟩:=hrel
  cases gk with
  | zero=>exact absurd HA.out (by simp [ancepsref38_in.l0])
  | succ k1=>
   have H:=HA.out
   clear HA
   simp only [ancepsref38_in.l0] at H
   by_cases c3:x5_1<(l0.length:Int)
   ·rw [if_pos c3] at H
    have c3b0:decide (x5_1<(l0.length:Int))=true:=decide_eq_true c3
    clear c3
    by_cases c4:0≤x5_1
    ·rw [if_pos c4] at H
     have c4b0:decide (0≤x5_1)=true:=decide_eq_true c4
     clear c4
     by_cases c5:(rd l0 x5_1)=a1
     ·rw [if_pos c5] at H
      have c5b0:((rd l0 x5_1) == a1)=true:=beq_iff_eq.mpr c5
      have c5b1:((rd l0 x5_1) != a1)=false:=bne_eq_false_iff_eq.mpr c5
      clear c5
      obtain rfl:=Option.some.inj H
      have p610:0≤(x5_1:Int):=of_decide_eq_true zh
      have q610:x5_1<(l0.length:Int):=of_decide_eq_true zh
      obtain ⟨ad610,e610,hx610_0⟩:=Kd.at_int HR0.out x5_1 p610 q610
      cases e610
      replace p610:=eq_true p610
      replace q610:=eq_true q610
      go_wp2
      go_ret
      exact ⟨by first|rfl|(simp;done)|(simp [*];done),by repeat (first|exact Drawn0.refl _|apply Drawn0.step)⟩
     ·rw [if_neg c5] at H
      have c5b0:((rd l0 x5_1) == a1)=false:=beq_eq_false_iff_ne.mpr c5
      have c5b1:((rd l0 x5_1) != a1)=true:=bne_iff_ne.mpr c5
      have H':=zA H
      clear H
      have p610:0≤(x5_1:Int):=of_decide_eq_true zh
      have q610:x5_1<(l0.length:Int):=of_decide_eq_true zh
      obtain ⟨ad610,e610,hx610_0⟩:=Kd.at_int HR0.out x5_1 p610 q610
      cases e610
      replace p610:=eq_true p610
      replace q610:=eq_true q610
      go_wp2
      go_roundg k1
      case measure=>have:=HK1.out;omega
      case rel=>exact ⟨(wrap64 (x5_1+1)),zT,H',⟨by have:=HK1.out;omega⟩,by repeat (first|exact Drawn0.refl _|apply Drawn0.step)⟩
    ·rw [if_neg c4] at H
     exact absurd H (by simp)
   ·rw [if_neg c3] at H
    have c3b0:decide (x5_1<(l0.length:Int))=false:=decide_eq_false c3
    clear c3
    obtain rfl:=Option.some.inj H
    go_wp2
    go_ret
    exact ⟨by first|rfl|(simp;done)|(simp [*];done),by repeat (first|exact Drawn0.refl _|apply Drawn0.step)⟩
def ancepsref38_Row.l0:Nat→List Int→Int→Int→Int→Option (Int)
 | 0,_,_,_,_=>none
 | k+1,x0,x1,x5,x6=>if x6<(x0.length:Int) then (if 0≤x6 then (if 0≤(rd x0 x6) then (ancepsref38_Row.l0 k x0 x1 (wrap64 (x5+(shl .i64 (Int.tmod (shr .i64 x1 (rd x0 x6)) 2) x6))) (wrap64 (x6+1))) else (none)) else (none)) else (some x5)
def ancepsref38_Row.f (k:Nat) (l0:List Int) (a1:Int):Option (Int):=ancepsref38_Row.l0 k l0 a1 0 0
theorem ancepsref38_Row.mono_l:∀ k,(∀ y0 y1 y2 y3,LeO (ancepsref38_Row.l0 k y0 y1 y2 y3) (ancepsref38_Row.l0 (k+1) y0 y1 y2 y3))
 | 0=>fun _ _ _ _ r h=>by simp [ancepsref38_Row.l0] at h
 | k+1=>by
  have ih0:=ancepsref38_Row.mono_l k
  ·intro y0 y1 y2 y3
   unfold ancepsref38_Row.l0
   repeat' first
   | (with_reducible exact ih0 _ _ _ _)
   | (with_reducible exact LeO.refl _)
   | (with_reducible exact LeO.none _)
   | (with_reducible refine LeO.ite ?_ ?_)
   | (with_reducible refine LeO.bind ?_ (fun _=>?_))
   | exact LeO.none _
   | refine LeO.ite ?_ ?_
   | refine LeO.bind ?_ (fun _=>?_)
theorem ancepsref38_Row.mono:∀ a0 a1 k,LeO (ancepsref38_Row.f k a0 a1) (ancepsref38_Row.f (k+1) a0 a1):=by
 intro a0 a1 k
 have ih0:=ancepsref38_Row.mono_l k
 unfold ancepsref38_Row.f
 repeat' first
   | (with_reducible exact ih0 _ _ _ _)
   | (with_reducible exact LeO.refl _)
   | (with_reducible exact LeO.none _)
   | (with_reducible refine LeO.ite ?_ ?_)
   | (with_reducible refine LeO.bind ?_ (fun _=>?_))
   | exact LeO.none _
   | refine LeO.ite ?_ ?_
   | refine LeO.bind ?_ (fun _=>?_)
set_option maxHeartbeats 8000000 in
set_option maxRecDepth 100000 in
theorem ancepsref38_Row.calls (k:Nat) (A0:Option Addr) (c0:Nat) (l0:List Int) (a1:Int) (r:Int) (w:World) (hr0:Kd.C (Kd.int .i64) w A0 l0.length l0) (hc0:l0.length≤c0) (h:ancepsref38_Row.f k l0 a1=some r) :
  Calls Try.prog 115 #[.slice A0 l0.length c0,.int .i64 a1] w fun e w'=>e=.returned (.int .i64 r)∧Drawn0 w w':=by
 have hu3:=Try.underlying3
 have HR0:=zA hr0
 have HC0:=zA hc0
 clear hr0 hc0
 have H:(ancepsref38_Row.l0 k l0 a1 0 0)=some r:=h
 clear h
 have H':=zA H
 clear H
 go_enter Try.func115,Try.ntmps115
 go_wp2
 go_loopg [5,6] k (fun kq v5 v6 w'=>∃ (x5_1:Int) (x6_1:Int),v5=.int .i64 x5_1∧v6=.int .i64 x6_1∧Aside0 (ancepsref38_Row.l0 kq l0 a1 x5_1 x6_1=some r)∧Aside0 (kq≤k)∧Drawn0 w w')
 case atStart=>exact ⟨(0),(0),zT,zT,H',⟨Nat.le_refl _⟩,by repeat (first|exact Drawn0.refl _|apply Drawn0.step)⟩
 case round=>
  clear H'
  obtain ⟨x5_1,x6_1,rfl,rfl,HA,HK1,⟨m1,rfl⟩⟩:=hrel
  cases gk with
  | zero=>exact absurd HA.out (by simp [ancepsref38_Row.l0])
  | succ k1=>
   have H:=HA.out
   clear HA
   simp only [ancepsref38_Row.l0] at H
   by_cases c3:x6_1<(l0.length:Int)
   ·rw [if_pos c3] at H
    have c3b0:decide (x6_1<(l0.length:Int))=true:=decide_eq_true c3
    clear c3
    by_cases c4:0≤x6_1
    ·rw [if_pos c4] at H
     have c4b0:decide (0≤x6_1)=true:=decide_eq_true c4
     clear c4
     by_cases c5:0≤(rd l0 x6_1)
     ·rw [if_pos c5] at H
      have c5b0:=eq_true c5
      have c5b1:decide (0≤(rd l0 x6_1))=true:=decide_eq_true c5
      clear c5
      obtain ⟨ji6,hji6⟩:∃ j_:Int,(shr .i64 a1 (rd l0 x6_1))=j_:=⟨_,rfl⟩
      replace H:(ancepsref38_Row.l0 k1 l0 a1 (wrap64 (x5_1+(shl .i64 (Int.tmod (ji6) 2) x6_1))) (wrap64 (x6_1+1)))=some r:=by first|(rw [hji6] at H;exact H)|(simp only [hji6] at H ⊢;exact H)
      have hji6_:(a1 / 2 ^ min (rd l0 x6_1).toNat 64)=ji6:=hji6
      have hji6z:(rd l0 x6_1)≤64→(a1 / 2 ^ (rd l0 x6_1).toNat)=ji6:=shr_small hji6
      have c7b0:=eq_true (of_decide_eq_true zh:0≤x6_1)
      obtain ⟨ji8,hji8⟩:∃ j_:Int,(shl .i64 (Int.tmod (ji6) 2) x6_1)=j_:=⟨_,rfl⟩
      replace H:(ancepsref38_Row.l0 k1 l0 a1 (wrap64 (x5_1+(ji8))) (wrap64 (x6_1+1)))=some r:=by first|(rw [hji8] at H;exact H)|(simp only [hji8] at H ⊢;exact H)
      have hji8_:(IntKind.i64.wrap ((Int.tmod (ji6) 2) * 2 ^ min x6_1.toNat 64))=ji8:=hji8
      have hji8z:x6_1≤64→(IntKind.i64.wrap ((Int.tmod (ji6) 2) * 2 ^ x6_1.toNat))=ji8:=shl_small hji8
      have hji8y:(wrap64 ((Int.tmod (ji6) 2) * 2 ^ min x6_1.toNat 64))=ji8:=(i64_w _).symm.trans hji8_
      have hji8x:x6_1≤64→(wrap64 ((Int.tmod (ji6) 2) * 2 ^ x6_1.toNat))=ji8:=fun h_=>(i64_w _).symm.trans (hji8z h_)
      have H':=zA H
      clear H
      have p611:0≤(x6_1:Int):=of_decide_eq_true zh
      have q611:x6_1<(l0.length:Int):=of_decide_eq_true zh
      obtain ⟨ad611,e611,hx611_0⟩:=Kd.at_int HR0.out x6_1 p611 q611
      cases e611
      replace p611:=eq_true p611
      replace q611:=eq_true q611
      go_wp2
      go_roundg k1
      case measure=>have:=HK1.out;omega
      case rel=>exact ⟨(wrap64 (x5_1+(ji8))),(wrap64 (x6_1+1)),(by first|rfl|(simp;done)|(simp only [← hji8] <;> (first|rfl|simp))|(simp [*];done)),zT,H',⟨by have:=HK1.out;omega⟩,by repeat (first|exact Drawn0.refl _|apply Drawn0.step)⟩
     ·rw [if_neg c5] at H
      exact absurd H (by simp)
    ·rw [if_neg c4] at H
     exact absurd H (by simp)
   ·rw [if_neg c3] at H
    have c3b0:decide (x6_1<(l0.length:Int))=false:=decide_eq_false c3
    clear c3
    obtain rfl:=Option.some.inj H
    go_wp2
    go_ret
    exact ⟨by first|rfl|(simp;done)|(simp [*];done),by repeat (first|exact Drawn0.refl _|apply Drawn0.step)⟩
def ancepsref38_Holds.f (k:Nat) (l0_0:List Int) (l0_1:List Int) (a1:Int):Option (Bool):=(ancepsref38_Row.f k l0_0 a1).bind fun t613=>((ancepsref38_in.f k l0_1 t613).bind fun t614=>(some t614))
theorem ancepsref38_Holds.mono:∀ a0 a1 a2 k,LeO (ancepsref38_Holds.f k a0 a1 a2) (ancepsref38_Holds.f (k+1) a0 a1 a2):=by
 intro a0 a1 a2 k
 unfold ancepsref38_Holds.f
 repeat' first
   | (with_reducible exact ancepsref38_Row.mono _ _ _)
   | (with_reducible exact ancepsref38_in.mono _ _ _)
   | (with_reducible exact LeO.refl _)
   | (with_reducible exact LeO.none _)
   | (with_reducible refine LeO.ite ?_ ?_)
   | (with_reducible refine LeO.bind ?_ (fun _=>?_))
   | exact LeO.none _
   | refine LeO.ite ?_ ?_
   | refine LeO.bind ?_ (fun _=>?_)
set_option maxHeartbeats 8000000 in
set_option maxRecDepth 100000 in
theorem ancepsref38_Holds.calls (k:Nat) (A0_0:Option Addr) (c0_0:Nat) (l0_0:List Int) (A0_1:Option Addr) (c0_1:Nat) (l0_1:List Int) (a1:Int) (r:Bool) (w:World) (hr0_0:Kd.C (Kd.int .i64) w A0_0 l0_0.length l0_0) (hc0_0:l0_0.length≤c0_0) (hr0_1:Kd.C (Kd.int .i64) w A0_1 l0_1.length l0_1) (hc0_1:l0_1.length≤c0_1) (h:ancepsref38_Holds.f k l0_0 l0_1 a1=some r) :
  Calls Try.prog 104 #[.agg #[.slice A0_0 l0_0.length c0_0,.slice A0_1 l0_1.length c0_1],.int .i64 a1] w fun e w'=>e=.returned (.bool r)∧Below w.heap.size w w':=by
 have hu50:=Try.underlying50
 have hu30:=Try.underlying30
 have HR0_0:=zA hr0_0
 have HC0_0:=zA hc0_0
 clear hr0_0 hc0_0
 have HR0_1:=zA hr0_1
 have HC0_1:=zA hc0_1
 clear hr0_1 hc0_1
 have HB:=zA (Below.refl w.heap.size w)
 have H:((ancepsref38_Row.f k l0_0 a1).bind fun t613=>((ancepsref38_in.f k l0_1 t613).bind fun t614=>(some t614)))=some r:=h
 clear h
 replace H:=Option.bind_eq_some_iff.mp H
 obtain ⟨t613,A30,H⟩:=H
 replace H:((ancepsref38_in.f k l0_1 t613).bind fun t614=>(some t614))=some r:=H
 have A3:=zA A30
 clear A30
 replace H:=Option.bind_eq_some_iff.mp H
 obtain ⟨t614,A40,H⟩:=H
 replace H:(some t614)=some r:=H
 have A4:=zA A40
 clear A40
 obtain rfl:=Option.some.inj H
 go_enter Try.func104,Try.ntmps104
 go_wp2_with (first|((with_reducible refine gate_dst (N:=2) rfl ?_);refine box_event ?hg (N:=2) ?hd (cs:=#[.slice A0_0 l0_0.length c0_0,.slice A0_1 l0_1.length c0_1]) (t:=50) ?hr ?_;(case hd=>rfl);(case hg=>rfl);(case hr=>first|(go_simp;done)|(go_simp;rfl));intro gb612 hg w5 hbox hb;have BK612:=zA (hbox);have GW612:=zA (zG hg (below_size zB):w.heap.size≤gb612);have GE612:=GW612;replace HB:=zA (below_step zB hb);clear hb hbox hg;have hcz6_0:w5.cell? ⟨gb612,0,none⟩=some (.slice A0_0 l0_0.length c0_0):=(blk_cell BK612.out 0).trans rfl;have hcz6_1:w5.cell? ⟨gb612,1,none⟩=some (.slice A0_1 l0_1.length c0_1):=(blk_cell BK612.out 1).trans rfl;have hfz6_0:=blk_frozen BK612.out 0;have hfz6_1:=blk_frozen BK612.out 1)|(go_at_call 115;(with_reducible refine (ancepsref38_Row.calls k _ _ l0_0 a1 t613 _ ?side1 ?side2 A3.out).mono ?_);(case side1=>exact zC (Kd.C_below HR0_0.out HB.out));(case side2=>exact HC0_0.out);rintro e w' ⟨rfl,⟨nd,rfl⟩⟩;(try first|exact ⟨rfl,_,World.drewN_drewN _ _ _⟩|exact ⟨rfl,_,Eq.trans (World.drewN_drewN _ _ _) (congrArg (World.drewN _) (Nat.add_assoc _ _ _))⟩))|(go_at_call 114;(with_reducible refine (ancepsref38_in.calls k _ _ l0_1 t613 t614 _ ?side1 ?side2 A4.out).mono ?_);(case side1=>repeat (first|exact (Kd.C_below HR0_1.out zB)|(with_reducible refine Kd.C_alloc ?_ _)|(with_reducible refine Kd.C_drewN ?_ _)|(with_reducible refine Kd.C_drew ?_)));(case side2=>exact HC0_1.out);rintro e w' ⟨rfl,⟨nd,rfl⟩⟩;(try first|exact ⟨rfl,_,World.drewN_drewN _ _ _⟩|exact ⟨rfl,_,Eq.trans (World.drewN_drewN _ _ _) (congrArg (World.drewN _) (Nat.add_assoc _ _ _))⟩)))
 repeat (go_quiet (first|((with_reducible refine gate_dst (N:=2) rfl ?_);refine box_event ?hg (N:=2) ?hd (cs:=#[.slice A0_0 l0_0.length c0_0,.slice A0_1 l0_1.length c0_1]) (t:=50) ?hr ?_;(case hd=>rfl);(case hg=>rfl);(case hr=>first|(go_simp;done)|(go_simp;rfl));intro gb612 hg w5 hbox hb;have BK612:=zA (hbox);have GW612:=zA (zG hg (below_size zB):w.heap.size≤gb612);have GE612:=GW612;replace HB:=zA (below_step zB hb);clear hb hbox hg;have hcz6_0:w5.cell? ⟨gb612,0,none⟩=some (.slice A0_0 l0_0.length c0_0):=(blk_cell BK612.out 0).trans rfl;have hcz6_1:w5.cell? ⟨gb612,1,none⟩=some (.slice A0_1 l0_1.length c0_1):=(blk_cell BK612.out 1).trans rfl;have hfz6_0:=blk_frozen BK612.out 0;have hfz6_1:=blk_frozen BK612.out 1)|(go_at_call 115;(with_reducible refine (ancepsref38_Row.calls k _ _ l0_0 a1 t613 _ ?side1 ?side2 A3.out).mono ?_);(case side1=>exact zC (Kd.C_below HR0_0.out HB.out));(case side2=>exact HC0_0.out);rintro e w' ⟨rfl,⟨nd,rfl⟩⟩;(try first|exact ⟨rfl,_,World.drewN_drewN _ _ _⟩|exact ⟨rfl,_,Eq.trans (World.drewN_drewN _ _ _) (congrArg (World.drewN _) (Nat.add_assoc _ _ _))⟩))|(go_at_call 114;(with_reducible refine (ancepsref38_in.calls k _ _ l0_1 t613 t614 _ ?side1 ?side2 A4.out).mono ?_);(case side1=>repeat (first|exact (Kd.C_below HR0_1.out zB)|(with_reducible refine Kd.C_alloc ?_ _)|(with_reducible refine Kd.C_drewN ?_ _)|(with_reducible refine Kd.C_drew ?_)));(case side2=>exact HC0_1.out);rintro e w' ⟨rfl,⟨nd,rfl⟩⟩;(try first|exact ⟨rfl,_,World.drewN_drewN _ _ _⟩|exact ⟨rfl,_,Eq.trans (World.drewN_drewN _ _ _) (congrArg (World.drewN _) (Nat.add_assoc _ _ _))⟩)));try go_wp2_with (first|((with_reducible refine gate_dst (N:=2) rfl ?_);refine box_event ?hg (N:=2) ?hd (cs:=#[.slice A0_0 l0_0.length c0_0,.slice A0_1 l0_1.length c0_1]) (t:=50) ?hr ?_;(case hd=>rfl);(case hg=>rfl);(case hr=>first|(go_simp;done)|(go_simp;rfl));intro gb612 hg w5 hbox hb;have BK612:=zA (hbox);have GW612:=zA (zG hg (below_size zB):w.heap.size≤gb612);have GE612:=GW612;replace HB:=zA (below_step zB hb);clear hb hbox hg;have hcz6_0:w5.cell? ⟨gb612,0,none⟩=some (.slice A0_0 l0_0.length c0_0):=(blk_cell BK612.out 0).trans rfl;have hcz6_1:w5.cell? ⟨gb612,1,none⟩=some (.slice A0_1 l0_1.length c0_1):=(blk_cell BK612.out 1).trans rfl;have hfz6_0:=blk_frozen BK612.out 0;have hfz6_1:=blk_frozen BK612.out 1)|(go_at_call 115;(with_reducible refine (ancepsref38_Row.calls k _ _ l0_0 a1 t613 _ ?side1 ?side2 A3.out).mono ?_);(case side1=>exact zC (Kd.C_below HR0_0.out HB.out));(case side2=>exact HC0_0.out);rintro e w' ⟨rfl,⟨nd,rfl⟩⟩;(try first|exact ⟨rfl,_,World.drewN_drewN _ _ _⟩|exact ⟨rfl,_,Eq.trans (World.drewN_drewN _ _ _) (congrArg (World.drewN _) (Nat.add_assoc _ _ _))⟩))|(go_at_call 114;(with_reducible refine (ancepsref38_in.calls k _ _ l0_1 t613 t614 _ ?side1 ?side2 A4.out).mono ?_);(case side1=>repeat (first|exact (Kd.C_below HR0_1.out zB)|(with_reducible refine Kd.C_alloc ?_ _)|(with_reducible refine Kd.C_drewN ?_ _)|(with_reducible refine Kd.C_drew ?_)));(case side2=>exact HC0_1.out);rintro e w' ⟨rfl,⟨nd,rfl⟩⟩;(try first|exact ⟨rfl,_,World.drewN_drewN _ _ _⟩|exact ⟨rfl,_,Eq.trans (World.drewN_drewN _ _ _) (congrArg (World.drewN _) (Nat.add_assoc _ _ _))⟩))))
 go_ret
 exact ⟨ze,by repeat (first|(with_reducible first|exact HB.out|apply below_alloc|apply pw_below_drewN|apply below_drew1|refine below_set ?_ GE612.out)|exact HB.out)⟩
mutual
def ancepsref40_solutions.l0:Nat→List (S50)→Int→List Int→List Int→Int→Option (List Int)
 | 0,_,_,_,_,_=>none
 | k+1,x0,x1,x5,x6,x7=>if x7<(shl .i64 1 (x5.length:Int)) then (if (x6.length:Int)<x1 then ((ancepsref38_Assignment.f k x5 x7).bind fun t618=>(ancepsref40_solutions.l1 k x0 x1 x5 x6 x7 t618 true 0)) else (some x6)) else (some x6)
def ancepsref40_solutions.l1:Nat→List (S50)→Int→List Int→List Int→Int→Int→Bool→Int→Option (List Int)
 | 0,_,_,_,_,_,_,_,_=>none
 | k+1,x0,x1,x5,x6,x7,x8,x9,x10=>if x10<(x0.length:Int) then (if x9=true then (if 0≤x10 then ((ancepsref38_Holds.f k ((rd_T50 x0 x10).f0) ((rd_T50 x0 x10).f1) x8).bind fun t620=>(ancepsref40_solutions.l1 k x0 x1 x5 x6 x7 x8 t620 (wrap64 (x10+1)))) else (none)) else (ancepsref40_solutions.l0 k x0 x1 x5 x6 (wrap64 (x7+1)))) else (if x9=true then (if x6.length<17592186044416 then (ancepsref40_solutions.l0 k x0 x1 x5 (x6++[x8]) (wrap64 (x7+1))) else (none)) else (ancepsref40_solutions.l0 k x0 x1 x5 x6 (wrap64 (x7+1))))
end
def ancepsref40_solutions.f (k:Nat) (l0:List (S50)) (a1:Int):Option (List Int):=(ancepsref40_Vars.f k l0).bind fun t615=>(ancepsref40_solutions.l0 k l0 a1 t615 ([]:List Int) 0)
theorem ancepsref40_solutions.mono_l:∀ k,(∀ y0 y1 y2 y3 y4,LeO (ancepsref40_solutions.l0 k y0 y1 y2 y3 y4) (ancepsref40_solutions.l0 (k+1) y0 y1 y2 y3 y4))∧(∀ y0 y1 y2 y3 y4 y5 y6 y7,LeO (ancepsref40_solutions.l1 k y0 y1 y2 y3 y4 y5 y6 y7) (ancepsref40_solutions.l1 (k+1) y0 y1 y2 y3 y4 y5 y6 y7))
 | 0=>⟨fun _ _ _ _ _ r h=>by simp [ancepsref40_solutions.l0] at h,fun _ _ _ _ _ _ _ _ r h=>by simp [ancepsref40_solutions.l1] at h⟩
 | k+1=>by
  obtain ⟨ih0,ih1⟩:=ancepsref40_solutions.mono_l k
  refine ⟨?_,?_⟩
  ·intro y0 y1 y2 y3 y4
   unfold ancepsref40_solutions.l0
   repeat' first
   | (with_reducible exact ih0 _ _ _ _ _)
   | (with_reducible exact ih1 _ _ _ _ _ _ _ _)
   | (with_reducible exact ancepsref38_Assignment.mono _ _ _)
   | (with_reducible exact ancepsref38_Holds.mono _ _ _ _)
   | (with_reducible exact ancepsref40_Vars.mono _ _)
   | (with_reducible exact LeO.refl _)
   | (with_reducible exact LeO.none _)
   | (with_reducible refine LeO.ite ?_ ?_)
   | (with_reducible refine LeO.bind ?_ (fun _=>?_))
   | exact LeO.none _
   | refine LeO.ite ?_ ?_
   | refine LeO.bind ?_ (fun _=>?_)
  ·intro y0 y1 y2 y3 y4 y5 y6 y7
   unfold ancepsref40_solutions.l1
   repeat' first
   | (with_reducible exact ih0 _ _ _ _ _)
   | (with_reducible exact ih1 _ _ _ _ _ _ _ _)
   | (with_reducible exact ancepsref38_Assignment.mono _ _ _)
   | (with_reducible exact ancepsref38_Holds.mono _ _ _ _)
   | (with_reducible exact ancepsref40_Vars.mono _ _)
   | (with_reducible exact LeO.refl _)
   | (with_reducible exact LeO.none _)
   | (with_reducible refine LeO.ite ?_ ?_)
   | (with_reducible refine LeO.bind ?_ (fun _=>?_))
   | exact LeO.none _
   | refine LeO.ite ?_ ?_
   | refine LeO.bind ?_ (fun _=>?_)
theorem ancepsref40_solutions.mono:∀ a0 a1 k,LeO (ancepsref40_solutions.f k a0 a1) (ancepsref40_solutions.f (k+1) a0 a1):=by
 intro a0 a1 k
 obtain ⟨ih0,ih1⟩:=ancepsref40_solutions.mono_l k
 unfold ancepsref40_solutions.f
 repeat' first
   | (with_reducible exact ih0 _ _ _ _ _)
   | (with_reducible exact ih1 _ _ _ _ _ _ _ _)
   | (with_reducible exact ancepsref38_Assignment.mono _ _ _)
   | (with_reducible exact ancepsref38_Holds.mono _ _ _ _)
   | (with_reducible exact ancepsref40_Vars.mono _ _)
   | (with_reducible exact LeO.refl _)
   | (with_reducible exact LeO.none _)
   | (with_reducible refine LeO.ite ?_ ?_)
   | (with_reducible refine LeO.bind ?_ (fun _=>?_))
   | exact LeO.none _
   | refine LeO.ite ?_ ?_
   | refine LeO.bind ?_ (fun _=>?_)
set_option maxHeartbeats 8000000 in
set_option maxRecDepth 100000 in
theorem ancepsref40_solutions.calls (k:Nat) (A0:Option Addr) (c0:Nat) (l0:List (S50)) (a1:Int) (r:List Int) (w:World) (hr0:Kd.C k50 w A0 l0.length l0) (hc0:l0.length≤c0) (h:ancepsref40_solutions.f k l0 a1=some r) :
  Calls Try.prog 85 #[.slice A0 l0.length c0,.int .i64 a1] w fun e w'=>∃ v0_:Value,e=.returned (v0_)∧Kd.R (Kd.int .i64) 3 w' w.heap.size (fun _=>True) v0_ r∧Below w.heap.size w w':=by
 have hu50:=Try.underlying50
 have HR0:=zA hr0
 have HC0:=zA hc0
 clear hr0 hc0
 have HB:=zA (Below.refl w.heap.size w)
 have H:((ancepsref40_Vars.f k l0).bind fun t615=>(ancepsref40_solutions.l0 k l0 a1 t615 ([]:List Int) 0))=some r:=h
 clear h
 replace H:=Option.bind_eq_some_iff.mp H
 obtain ⟨t615,A30,H⟩:=H
 replace H:(ancepsref40_solutions.l0 k l0 a1 t615 ([]:List Int) 0)=some r:=H
 have A3:=zA A30
 clear A30
 have H':=zA H
 clear H
 go_enter Try.func85,Try.ntmps85
 go_wp2_with (first|((with_reducible refine gate_callee (f:=39) rfl ?_);refine goesL_ (some 12) rfl rfl Try.func39 zK rfl #[.slice A0 l0.length c0] rfl zM ?_;(with_reducible refine (ancepsref40_Vars.calls k _ _ l0 t615 _ ?side1 ?side2 A3.out).mono ?_);(case side1=>repeat (first|exact HR0.out|(with_reducible refine Kd.C_alloc ?_ _)|(with_reducible refine Kd.C_drewN ?_ _)|(with_reducible refine Kd.C_drew ?_)));(case side2=>exact HC0.out);rintro e w4 ⟨v616,rfl,ho0,hb⟩;refine ⟨_,rfl,?_⟩;have HO617:=zA (Kd.R_lower ho0 (below_size zB));replace HB:=zA (below_step zB hb);(try clear hb);(try clear hb2);(try clear hk);(try clear hi);(try clear ho0)))
 go_loopg [6,7] k (fun kq v6 v7 w'=>∃ (x6_1:List Int) (x7_1:Int),v7=.int .i64 x7_1∧Aside0 (ancepsref40_solutions.l0 kq l0 a1 t615 x6_1 x7_1=some r)∧Aside0 (kq≤k)∧Aside0 (Kd.R (Kd.int .i64) 3 w' w.heap.size (fun k_=>some k_≠(v6:Value).ownBlock) v616 t615)∧Aside0 (Kd.R (Kd.int .i64) 3 w' w.heap.size (fun k_=>some k_≠(v616:Value).ownBlock) v6 x6_1)∧Aside0 (Below w.heap.size w w'))
 case atStart=>exact ⟨(([]:List Int)),(0),zT,H',⟨Nat.le_refl _⟩,⟨by refine zr ?_;exact Kd.R_mono HO617.out (fun _ hk=>(by simp [Value.ownBlock]))⟩,⟨by first|exact Kd.R_nil _ _ _ _ _|exact Kd.N_nil _ _ _ _ _|exact Kd.V_nil _ _ _ _ _|exact Kd.Q_nil _ _ _ _ _|exact Kd.S_nil _ _ _ _ _⟩,⟨by repeat (first|(with_reducible first|exact HB.out|apply below_alloc|apply pw_below_drewN|apply below_drew1)|exact HB.out)⟩⟩
 case round=>
  clear H'
  obtain ⟨x6_1,x7_1,rfl,HA,HK1,HO_5,HO_6,HB⟩:=hrel
  cases gk with
  | zero=>exact absurd HA.out (by simp [ancepsref40_solutions.l0])
  | succ k1=>
   have H:=HA.out
   clear HA
   simp only [ancepsref40_solutions.l0] at H
   obtain ⟨ji5,hji5⟩:∃ j_:Int,(shl .i64 1 (t615.length:Int))=j_:=⟨_,rfl⟩
   replace H:(if x7_1<(ji5) then (if (x6_1.length:Int)<a1 then ((ancepsref38_Assignment.f k1 t615 x7_1).bind fun t618=>(ancepsref40_solutions.l1 k1 l0 a1 t615 x6_1 x7_1 t618 true 0)) else (some x6_1)) else (some x6_1))=some r:=by first|(rw [hji5] at H;exact H)|(simp only [hji5] at H ⊢;exact H)
   have hji5_:(IntKind.i64.wrap (1 * 2 ^ min (t615.length:Int).toNat 64))=ji5:=hji5
   have hji5z:(t615.length:Int)≤64→(IntKind.i64.wrap (1 * 2 ^ (t615.length:Int).toNat))=ji5:=shl_small hji5
   have hji5p:(IntKind.i64.wrap (1 * 2 ^ min t615.length 64))=ji5:=hji5_
   have hji5q:(t615.length:Int)≤64→(IntKind.i64.wrap (1 * 2 ^ t615.length))=ji5:=hji5z
   have hji5r:(IntKind.i64.wrap (2 ^ min t615.length 64))=ji5:=by have h_:=hji5p;rw [Int.one_mul] at h_;exact h_
   have hji5s:(t615.length:Int)≤64→(IntKind.i64.wrap (2 ^ t615.length))=ji5:=fun hle_=>by have h_:=hji5q hle_;rw [Int.one_mul] at h_;exact h_
   have hji5u:(IntKind.i64.wrap (2 ^ min (t615.length:Int).toNat 64))=ji5:=by have h_:=hji5_;rw [Int.one_mul] at h_;exact h_
   have hji5v:(t615.length:Int)≤64→(IntKind.i64.wrap (2 ^ (t615.length:Int).toNat))=ji5:=fun hle_=>by have h_:=hji5z hle_;rw [Int.one_mul] at h_;exact h_
   have hji5y:(wrap64 (1 * 2 ^ min (t615.length:Int).toNat 64))=ji5:=(i64_w _).symm.trans hji5_
   have hji5x:(t615.length:Int)≤64→(wrap64 (1 * 2 ^ (t615.length:Int).toNat))=ji5:=fun h_=>(i64_w _).symm.trans (hji5z h_)
   by_cases c6:x7_1<(ji5)
   ·rw [if_pos c6] at H
    have c6b0:decide (x7_1<(ji5))=true:=decide_eq_true c6
    clear c6
    by_cases c7:(x6_1.length:Int)<a1
    ·rw [if_pos c7] at H
     have c7b0:decide ((x6_1.length:Int)<a1)=true:=decide_eq_true c7
     clear c7
     replace H:=Option.bind_eq_some_iff.mp H
     obtain ⟨t618,A80,H⟩:=H
     replace H:(ancepsref40_solutions.l1 k1 l0 a1 t615 x6_1 x7_1 t618 true 0)=some r:=H
     have A8:=zA A80
     clear A80
     have H':=zA H
     clear H
     obtain ⟨Ao9,co9,eo9⟩:=Kd.R_slice HO_5.out
     subst eo9
     obtain ⟨Ao10,co10,eo10⟩:=Kd.R_slice HO_6.out
     subst eo10
     go_wp2_with (first|((with_reducible refine gate_callee (f:=103) rfl ?_);refine goesL_ (some 28) rfl rfl Try.func103 zK rfl #[.slice Ao9 t615.length co9,.int .i64 x7_1] rfl zM ?_;(with_reducible refine (ancepsref38_Assignment.calls k1 _ _ t615 x7_1 t618 _ ?side1 ?side2 A8.out).mono ?_);(case side1=>exact zC (Kd.R_reads' HO_5.out).2.2);(case side2=>exact (Kd.R_reads' HO_5.out).2.1);rintro e w' ⟨rfl,⟨nd,rfl⟩⟩;refine ⟨_,rfl,?_⟩))
     go_loopg [9,10] k1 (fun kq v9 v10 w'=>∃ (x9_2:Bool) (x10_2:Int),v9=.bool x9_2∧v10=.int .i64 x10_2∧Aside0 (ancepsref40_solutions.l1 kq l0 a1 t615 x6_1 x7_1 t618 x9_2 x10_2=some r)∧Aside0 (kq≤k1)∧Aside0 (Kd.R (Kd.int .i64) 3 w' w.heap.size (fun k_=>some k_≠((.slice Ao10 x6_1.length co10):Value).ownBlock) (.slice Ao9 t615.length co9) t615)∧Aside0 (Kd.R (Kd.int .i64) 3 w' w.heap.size (fun k_=>some k_≠((.slice Ao9 t615.length co9):Value).ownBlock) (.slice Ao10 x6_1.length co10) x6_1)∧Aside0 (Below w.heap.size w w'))
     case atStart=>exact ⟨(true),(0),zT,zT,H',⟨Nat.le_refl _⟩,⟨by refine zr ?_;exact HO_5.out⟩,⟨by refine zr ?_;exact HO_6.out⟩,⟨by repeat (first|(with_reducible first|exact HB.out|apply below_alloc|apply pw_below_drewN|apply below_drew1)|exact HB.out)⟩⟩
     case round=>
      clear H'
      try clear c6
      try clear c6b0
      try clear c7
      try clear c7b0
      obtain ⟨x9_2,x10_2,rfl,rfl,HA,HK2,HO_5,HO_6,HB⟩:=hrel
      cases gk with
      | zero=>exact absurd HA.out (by simp [ancepsref40_solutions.l1])
      | succ k2=>
       have H:=HA.out
       clear HA
       simp only [ancepsref40_solutions.l1] at H
       by_cases c11:x10_2<(l0.length:Int)
       ·rw [if_pos c11] at H
        have c11b0:decide (x10_2<(l0.length:Int))=true:=decide_eq_true c11
        clear c11
        by_cases c12:x9_2=true
        ·subst c12
         have H1:(if 0≤x10_2 then ((ancepsref38_Holds.f k2 ((rd_T50 l0 x10_2).f0) ((rd_T50 l0 x10_2).f1) t618).bind fun t620=>(ancepsref40_solutions.l1 k2 l0 a1 t615 x6_1 x7_1 t618 t620 (wrap64 (x10_2+1)))) else (none))=some r:=by rw [if_pos rfl] at H;exact H
         clear H
         have H:=H1
         clear H1
         by_cases c13:0≤x10_2
         ·rw [if_pos c13] at H
          have c13b0:decide (0≤x10_2)=true:=decide_eq_true c13
          clear c13
          replace H:=Option.bind_eq_some_iff.mp H
          obtain ⟨t620,A140,H⟩:=H
          replace H:(ancepsref40_solutions.l1 k2 l0 a1 t615 x6_1 x7_1 t618 t620 (wrap64 (x10_2+1)))=some r:=H
          have A14:=zA A140
          clear A140
          have H':=zA H
          clear H
          have p619:0≤(x10_2:Int):=of_decide_eq_true zh
          have q619:x10_2<(l0.length:Int):=of_decide_eq_true zh
          obtain ⟨ad619,A619_0,c619_0,A619_1,c619_1,e619,hx619_0,hx619_1,hl619_0,hi619_0,hl619_1,hi619_1⟩:=at_T50 HR0.out x10_2 p619 q619
          cases e619
          replace hx619_0:=(HB.out.cell (World.block_lt_of_cell? w _ hx619_0)).trans hx619_0
          replace hx619_1:=(HB.out.cell (World.block_lt_of_cell? w _ hx619_1)).trans hx619_1
          have HR619_0:=zA hi619_0
          have HC619_0:=zA hl619_0
          clear hi619_0 hl619_0
          have HR619_1:=zA hi619_1
          have HC619_1:=zA hl619_1
          clear hi619_1 hl619_1
          replace p619:=eq_true p619
          replace q619:=eq_true q619
          go_wp2_with (first|((with_reducible refine gate_callee (f:=104) rfl ?_);refine goesL_ (some 43) rfl rfl Try.func104 zK rfl #[.agg #[.slice A619_0 ((rd_T50 l0 x10_2).f0).length c619_0,.slice A619_1 ((rd_T50 l0 x10_2).f1).length c619_1],.int .i64 t618] rfl zM ?_;(with_reducible refine (ancepsref38_Holds.calls k2 _ _ ((rd_T50 l0 x10_2).f0) _ _ ((rd_T50 l0 x10_2).f1) t618 t620 _ ?side1 ?side2 ?side3 ?side4 A14.out).mono ?_);(case side1=>exact zC (Kd.C_below HR619_0.out HB.out));(case side2=>exact HC619_0.out);(case side3=>exact zC (Kd.C_below HR619_1.out HB.out));(case side4=>exact HC619_1.out);rintro e w15 ⟨rfl,hb⟩;refine ⟨_,rfl,?_⟩;replace HO_5:=zA (Kd.R_below (zR HO_5) hb);replace HO_6:=zA (Kd.R_below (zR HO_6) hb);replace HB:=zA (below_step zB hb);(try clear hb);(try clear hb2);(try clear hk);(try clear hi)))
          go_roundg k2
          case measure=>have:=HK1.out;have:=HK2.out;omega
          case rel=>exact ⟨(t620),(wrap64 (x10_2+1)),zT,zT,H',⟨by have:=HK1.out;have:=HK2.out;omega⟩,⟨by refine zr ?_;exact HO_5.out⟩,⟨by refine zr ?_;exact HO_6.out⟩,⟨by repeat (first|(with_reducible first|exact HB.out|apply below_alloc|apply pw_below_drewN|apply below_drew1)|exact HB.out)⟩⟩
         ·rw [if_neg c13] at H
          exact absurd H (by simp)
        ·replace c12:=Bool.eq_false_iff.mpr c12
         subst c12
         have H1:(ancepsref40_solutions.l0 k2 l0 a1 t615 x6_1 (wrap64 (x7_1+1)))=some r:=by rw [if_neg (show ¬ (false=true) by decide)] at H;exact H
         clear H
         have H:=H1
         clear H1
         have H':=zA H
         clear H
         go_wp2
         go_roundg k2
         case measure=>have:=HK1.out;have:=HK2.out;omega
         case rel=>exact ⟨(x6_1),(wrap64 (x7_1+1)),zT,H',⟨by have:=HK1.out;have:=HK2.out;omega⟩,⟨by refine zr ?_;exact HO_5.out⟩,⟨by refine zr ?_;exact HO_6.out⟩,⟨by repeat (first|(with_reducible first|exact HB.out|apply below_alloc|apply pw_below_drewN|apply below_drew1)|exact HB.out)⟩⟩
       ·rw [if_neg c11] at H
        have c11b0:decide (x10_2<(l0.length:Int))=false:=decide_eq_false c11
        clear c11
        by_cases c16:x9_2=true
        ·subst c16
         have H1:(if x6_1.length<17592186044416 then (ancepsref40_solutions.l0 k2 l0 a1 t615 (x6_1++[t618]) (wrap64 (x7_1+1))) else (none))=some r:=by rw [if_pos rfl] at H;exact H
         clear H
         have H:=H1
         clear H1
         by_cases c17:x6_1.length<17592186044416
         ·rw [if_pos c17] at H
          have LMc17:=zA c17
          clear c17
          obtain ⟨y621,hy621⟩:∃ y_:List Int,y_=(x6_1++[t618]):=⟨_,rfl⟩
          replace H:(ancepsref40_solutions.l0 k2 l0 a1 t615 y621 (wrap64 (x7_1+1)))=some r:=by first|(rw [hy621];with_reducible exact H)|(have H2_:=(Option.bind_some _ _).symm.trans H;rw [hy621];with_reducible exact H2_)|(have H2_:=(Option.bind_some _ _).symm.trans H;with_reducible exact H2_)|with_reducible exact H|(rw [hy621];exact H)|exact H
          have Ny621:=zA hy621
          clear hy621
          have H':=zA H
          clear H
          go_wp2_with (first|((with_reducible refine gate_builtin (b:=.append) (xs:=#[.tmp 45,.tmp 47]) rfl ?_);(try (refine gate_guard (by rfl) ?_;dsimp only));at_builtin;refine Kd.R_append (Kd.int .i64) (w0:=w) w.heap.size rfl (.tmp 45) (.tmp 47) 30 3 (.int .i64 0) 8 rfl Try.underlying30 info3 rfl (by decide) (by omega) (.slice Ao10 x6_1.length co10) x6_1 t618 [.int .i64 t618] (fun k_=>some k_≠(.slice Ao9 t615.length co9:Value).ownBlock) (fun _=>False) rfl rfl ?aP (fun _ hk=>hk.elim) ?aF ?aO ?aB ?aS ?aL ?_;(case aP=>exact rfl);(case aB=>exact zB);(case aF=>exact (fun k_ hk=>Kd.fresh' (Kd.R_lt (zR HO_5)) k_ hk));(case aO=>exact (zR HO_6));(case aS=>exact (below_size zB));(case aL=>have:=LMc17.out;omega);intro v622 w18 ho hb hg hat;rw [← Ny621.out] at ho;have HO623:=zA (ho);replace HO_5:=zA (Kd.R_after (ok:=(fun _=>True)) (by refine zr ?_;exact Kd.R_mono HO_5.out (fun _ hk=>⟨trivial,hk⟩)) hg hat);replace HB:=zA (hb);clear HO_6;clear ho hb hg hat))
          go_roundg k2
          case measure=>have:=HK1.out;have:=HK2.out;omega
          case rel=>exact ⟨(y621),(wrap64 (x7_1+1)),zT,H',⟨by have:=HK1.out;have:=HK2.out;omega⟩,⟨by refine zr ?_;exact Kd.R_mono HO_5.out (fun _ hk=>hk.2)⟩,⟨by refine zr ?_;exact HO623.out⟩,⟨by repeat (first|(with_reducible first|exact HB.out|apply below_alloc|apply pw_below_drewN|apply below_drew1)|exact HB.out)⟩⟩
         ·rw [if_neg c17] at H
          exact absurd H (by simp)
        ·replace c16:=Bool.eq_false_iff.mpr c16
         subst c16
         have H1:(ancepsref40_solutions.l0 k2 l0 a1 t615 x6_1 (wrap64 (x7_1+1)))=some r:=by rw [if_neg (show ¬ (false=true) by decide)] at H;exact H
         clear H
         have H:=H1
         clear H1
         have H':=zA H
         clear H
         go_wp2
         go_roundg k2
         case measure=>have:=HK1.out;have:=HK2.out;omega
         case rel=>exact ⟨(x6_1),(wrap64 (x7_1+1)),zT,H',⟨by have:=HK1.out;have:=HK2.out;omega⟩,⟨by refine zr ?_;exact HO_5.out⟩,⟨by refine zr ?_;exact HO_6.out⟩,⟨by repeat (first|(with_reducible first|exact HB.out|apply below_alloc|apply pw_below_drewN|apply below_drew1)|exact HB.out)⟩⟩
    ·rw [if_neg c7] at H
     have c7b0:decide ((x6_1.length:Int)<a1)=false:=decide_eq_false c7
     clear c7
     obtain rfl:=Option.some.inj H
     obtain ⟨Ao19,co19,eo19⟩:=Kd.R_slice HO_5.out
     subst eo19
     obtain ⟨Ao20,co20,eo20⟩:=Kd.R_slice HO_6.out
     subst eo20
     go_wp2
     go_ret
     exact ⟨_,by first|rfl|(simp [errW_none,errW_some] <;> rfl)|(simp only [← hji5];first|rfl|(simp [errW_none,errW_some] <;> rfl))|(simp [*,errW_none,errW_some] <;> rfl),by refine zr ?_;exact Kd.R_mono HO_6.out (fun _ hk=>trivial),by repeat (first|(with_reducible first|exact HB.out|apply below_alloc|apply pw_below_drewN|apply below_drew1)|exact HB.out)⟩
   ·rw [if_neg c6] at H
    have c6b0:decide (x7_1<(ji5))=false:=decide_eq_false c6
    clear c6
    obtain rfl:=Option.some.inj H
    obtain ⟨Ao21,co21,eo21⟩:=Kd.R_slice HO_5.out
    subst eo21
    go_wp2
    go_ret
    exact ⟨_,by first|rfl|(simp [errW_none,errW_some] <;> rfl)|(simp only [← hji5];first|rfl|(simp [errW_none,errW_some] <;> rfl))|(simp [*,errW_none,errW_some] <;> rfl),by refine zr ?_;exact Kd.R_mono HO_6.out (fun _ hk=>trivial),by repeat (first|(with_reducible first|exact HB.out|apply below_alloc|apply pw_below_drewN|apply below_drew1)|exact HB.out)⟩
def ancepsref40_First.f (k:Nat) (l0:List (S50)):Option (Int×Int):=(ancepsref40_Valid.f k l0).bind fun t624=>(if t624=0 then ((ancepsref40_solutions.f k l0 1).bind fun t625=>(if (t625.length:Int)=0 then (some (0,10)) else (if 0<(t625.length:Int) then (some (rd t625 0,0)) else (none)))) else (some (0,t624)))
theorem ancepsref40_First.mono:∀ a0 k,LeO (ancepsref40_First.f k a0) (ancepsref40_First.f (k+1) a0):=by
 intro a0 k
 unfold ancepsref40_First.f
 repeat' first
   | (with_reducible exact ancepsref40_Valid.mono _ _)
   | (with_reducible exact ancepsref40_solutions.mono _ _ _)
   | (with_reducible exact LeO.refl _)
   | (with_reducible exact LeO.none _)
   | (with_reducible refine LeO.ite ?_ ?_)
   | (with_reducible refine LeO.bind ?_ (fun _=>?_))
   | exact LeO.none _
   | refine LeO.ite ?_ ?_
   | refine LeO.bind ?_ (fun _=>?_)
set_option maxHeartbeats 8000000 in
set_option maxRecDepth 100000 in
theorem ancepsref40_First.calls (k:Nat) (A0:Option Addr) (c0:Nat) (l0:List (S50)) (r1:Int) (r2:Int) (w:World) (hr0:Kd.C k50 w A0 l0.length l0) (hc0:l0.length≤c0) (h:ancepsref40_First.f k l0=some (r1,r2)) :
  Calls Try.prog 68 #[.slice A0 l0.length c0] w fun e w'=>e=.returned (.tuple #[.int .i64 r1,.int .i64 r2])∧Below w.heap.size w w':=by
 have hu3:=Try.underlying3
 have HR0:=zA hr0
 have HC0:=zA hc0
 clear hr0 hc0
 have HB:=zA (Below.refl w.heap.size w)
 have H:((ancepsref40_Valid.f k l0).bind fun t624=>(if t624=0 then ((ancepsref40_solutions.f k l0 1).bind fun t625=>(if (t625.length:Int)=0 then (some (0,10)) else (if 0<(t625.length:Int) then (some (rd t625 0,0)) else (none)))) else (some (0,t624))))=some (r1,r2):=h
 clear h
 replace H:=Option.bind_eq_some_iff.mp H
 obtain ⟨t624,A20,H⟩:=H
 replace H:(if t624=0 then ((ancepsref40_solutions.f k l0 1).bind fun t625=>(if (t625.length:Int)=0 then (some (0,10)) else (if 0<(t625.length:Int) then (some (rd t625 0,0)) else (none)))) else (some (0,t624)))=some (r1,r2):=H
 have A2:=zA A20
 clear A20
 have HC3:=zA H
 clear H
 go_enter Try.func68,Try.ntmps68
 go_upto_if 9 with (first|((with_reducible refine gate_callee (f:=74) rfl ?_);refine goesL_ (some 7) rfl rfl Try.func74 zK rfl #[.slice A0 l0.length c0] rfl zM ?_;(with_reducible refine (ancepsref40_Valid.calls k _ _ l0 t624 _ ?side1 ?side2 A2.out).mono ?_);(case side1=>repeat (first|exact HR0.out|(with_reducible refine Kd.C_alloc ?_ _)|(with_reducible refine Kd.C_drewN ?_ _)|(with_reducible refine Kd.C_drew ?_)));(case side2=>exact HC0.out);rintro e w4 ⟨rfl,hb⟩;refine ⟨_,rfl,?_⟩;replace HB:=zA (below_step zB hb);(try clear hb);(try clear hb2);(try clear hk);(try clear hi)))
 (try simp only [Act.put,zi,zs,zt])
 have H:=HC3.out
 clear HC3
 by_cases c5:t624=0
 ·rw [if_pos c5] at H
  have c5b0:(t624 == 0)=true:=beq_iff_eq.mpr c5
  have c5b1:(t624 != 0)=false:=bne_eq_false_iff_eq.mpr c5
  clear c5
  (first|rw [c5b0]|(simp only [i64_w,i32_w];rw [c5b0])|skip)
  (try rw [c5b1])
  replace H:=Option.bind_eq_some_iff.mp H
  obtain ⟨t625,A60,H⟩:=H
  replace H:(if (t625.length:Int)=0 then (some (0,10)) else (if 0<(t625.length:Int) then (some (rd t625 0,0)) else (none)))=some (r1,r2):=H
  have A6:=zA A60
  clear A60
  have HC7:=zA H
  clear H
  go_upto_if 15 with (first|((with_reducible refine gate_callee (f:=85) rfl ?_);refine goesL_ (some 12) rfl rfl Try.func85 zK rfl #[.slice A0 l0.length c0,.int .i64 1] rfl zM ?_;(with_reducible refine (ancepsref40_solutions.calls k _ _ l0 1 t625 _ ?side1 ?side2 A6.out).mono ?_);(case side1=>exact zC (Kd.C_below HR0.out HB.out));(case side2=>exact HC0.out);rintro e w8 ⟨v626,rfl,ho0,hb⟩;refine ⟨_,rfl,?_⟩;have HO627:=zA (Kd.R_lower ho0 (below_size zB));replace HB:=zA (below_step zB hb);(try clear hb);(try clear hb2);(try clear hk);(try clear hi);(try clear ho0);obtain ⟨Ao9,co9,eo9⟩:=Kd.R_slice HO627.out;subst eo9))
  (try simp only [Act.put,zi,zs,zt])
  have H:=HC7.out
  clear HC7
  by_cases c10:(t625.length:Int)=0
  ·rw [if_pos c10] at H
   have c10b0:((t625.length:Int) == 0)=true:=beq_iff_eq.mpr c10
   have c10b1:((t625.length:Int) != 0)=false:=bne_eq_false_iff_eq.mpr c10
   clear c10
   (first|rw [c10b0]|(simp only [i64_w,i32_w];rw [c10b0])|skip)
   (try rw [c10b1])
   simp only [Option.some.injEq,Prod.mk.injEq] at H
   obtain ⟨rfl,rfl⟩:=H
   go_wp2
   go_ret2
   exact ⟨ze,by repeat (first|(with_reducible first|exact HB.out|apply below_alloc|apply pw_below_drewN|apply below_drew1)|exact HB.out)⟩
  ·rw [if_neg c10] at H
   have c10b0:((t625.length:Int) == 0)=false:=beq_eq_false_iff_ne.mpr c10
   have c10b1:((t625.length:Int) != 0)=true:=bne_iff_ne.mpr c10
   have c10b2:¬ (t625=[]):=fun h_=>c10 (by rw [h_];rfl)
   (first|rw [c10b0]|(simp only [i64_w,i32_w];rw [c10b0])|skip)
   (try rw [c10b1])
   (try rw [c10b2])
   by_cases c11:0<(t625.length:Int)
   ·rw [if_pos c11] at H
    have c11b0:decide (0<(t625.length:Int))=true:=decide_eq_true c11
    have c11b1:decide (0<t625.length)=true:=decide_eq_true (by omega)
    clear c11
    simp only [Option.some.injEq,Prod.mk.injEq] at H
    obtain ⟨rfl,rfl⟩:=H
    have p628:0≤(0:Int):=(by omega)
    have q628:0<(t625.length:Int):=of_decide_eq_true zh
    obtain ⟨ad628,e628,hx628_0⟩:=Kd.at_int (Kd.R_reads' HO627.out).2.2 0 p628 q628
    cases e628
    have qi628:(0<t625.length)=True:=eq_true (by omega)
    (try rw [show ((0:Int)).toNat=0 from rfl] at hx628_0)
    (try rw [Addr.add_zero'] at hx628_0)
    replace p628:=eq_true p628
    replace q628:=eq_true q628
    go_wp2
    go_ret2
    exact ⟨ze,by repeat (first|(with_reducible first|exact HB.out|apply below_alloc|apply pw_below_drewN|apply below_drew1)|exact HB.out)⟩
   ·rw [if_neg c11] at H
    exact absurd H (by simp)
 ·rw [if_neg c5] at H
  have c5b0:(t624 == 0)=false:=beq_eq_false_iff_ne.mpr c5
  have c5b1:(t624 != 0)=true:=bne_iff_ne.mpr c5
  (first|rw [c5b0]|(simp only [i64_w,i32_w];rw [c5b0])|skip)
  (try rw [c5b1])
  simp only [Option.some.injEq,Prod.mk.injEq] at H
  obtain ⟨rfl,rfl⟩:=H
  go_wp2
  go_ret2
  exact ⟨ze,by repeat (first|(with_reducible first|exact HB.out|apply below_alloc|apply pw_below_drewN|apply below_drew1)|exact HB.out)⟩
def ancepsref42_System.l0:Nat→List (S50)→List Int→List (S50)→Int→Option ((List (S50)))
 | 0,_,_,_,_=>none
 | k+1,x0,x1,x5,x6=>if x6<(x1.length:Int) then (if 0≤x6 then (if 0≤(rd x1 x6) then (if (rd x1 x6)<(x0.length:Int) then (if x5.length<2932031007402 then (ancepsref42_System.l0 k x0 x1 (x5++[(⟨(rd_T50 x0 (rd x1 x6)).f0,(rd_T50 x0 (rd x1 x6)).f1⟩:S50)]) (wrap64 (x6+1))) else (none)) else (none)) else (none)) else (none)) else (some x5)
def ancepsref42_System.f (k:Nat) (l0:List (S50)) (l1:List Int):Option ((List (S50))):=ancepsref42_System.l0 k l0 l1 ([]:List (S50)) 0
theorem ancepsref42_System.mono_l:∀ k,(∀ y0 y1 y2 y3,LeO (ancepsref42_System.l0 k y0 y1 y2 y3) (ancepsref42_System.l0 (k+1) y0 y1 y2 y3))
 | 0=>fun _ _ _ _ r h=>by simp [ancepsref42_System.l0] at h
 | k+1=>by
  have ih0:=ancepsref42_System.mono_l k
  ·intro y0 y1 y2 y3
   unfold ancepsref42_System.l0
   repeat' first
   | (with_reducible exact ih0 _ _ _ _)
   | (with_reducible exact LeO.refl _)
   | (with_reducible exact LeO.none _)
   | (with_reducible refine LeO.ite ?_ ?_)
   | (with_reducible refine LeO.bind ?_ (fun _=>?_))
   | exact LeO.none _
   | refine LeO.ite ?_ ?_
   | refine LeO.bind ?_ (fun _=>?_)
theorem ancepsref42_System.mono:∀ a0 a1 k,LeO (ancepsref42_System.f k a0 a1) (ancepsref42_System.f (k+1) a0 a1):=by
 intro a0 a1 k
 have ih0:=ancepsref42_System.mono_l k
 unfold ancepsref42_System.f
 repeat' first
   | (with_reducible exact ih0 _ _ _ _)
   | (with_reducible exact LeO.refl _)
   | (with_reducible exact LeO.none _)
   | (with_reducible refine LeO.ite ?_ ?_)
   | (with_reducible refine LeO.bind ?_ (fun _=>?_))
   | exact LeO.none _
   | refine LeO.ite ?_ ?_
   | refine LeO.bind ?_ (fun _=>?_)
set_option maxHeartbeats 8000000 in
set_option maxRecDepth 100000 in
theorem ancepsref42_System.calls (k:Nat) (P0_:Nat→Prop) (A0:Option Addr) (c0:Nat) (l0:List (S50)) (A1:Option Addr) (c1:Nat) (l1:List Int) (r:List (S50)) (w:World) (hs0:Kd.V k50 50 w w.heap.size (fun k_=>P0_ k_) (.slice A0 l0.length c0) l0) (hr1:Kd.C (Kd.int .i64) w A1 l1.length l1) (hc1:l1.length≤c1) (h:ancepsref42_System.f k l0 l1=some r) :
  Calls Try.prog 69 #[.slice A0 l0.length c0,.slice A1 l1.length c1] w fun e w'=>∃ v0_:Value,e=.returned (v0_)∧Kd.N k50 50 w' w.heap.size (fun k_=>(P0_ k_∨w.heap.size≤k_)) v0_ r∧Below w.heap.size w w':=by
 have hu3:=Try.underlying3
 have hu50:=Try.underlying50
 have HO0:=zA (show Kd.V k50 50 w w.heap.size (fun k_=>(P0_ k_∨w.heap.size≤k_)) (.slice A0 l0.length c0) l0 from Kd.V_mono hs0 (fun k_ hk=>.inl hk))
 have HR1:=zA hr1
 have HC1:=zA hc1
 clear hr1 hc1
 have HB:=zA (Below.refl w.heap.size w)
 have H:(ancepsref42_System.l0 k l0 l1 ([]:List (S50)) 0)=some r:=h
 clear h
 have H':=zA H
 clear H
 go_enter Try.func69,Try.ntmps69
 go_wp2
 go_loopg [5,6] k (fun kq v5 v6 w'=>∃ (x5_1:List (S50)) (x6_1:Int),v6=.int .i64 x6_1∧Aside0 (ancepsref42_System.l0 kq l0 l1 x5_1 x6_1=some r)∧Aside0 (kq≤k)∧Aside0 (Kd.V k50 50 w' w.heap.size (fun k_=>(P0_ k_∨w.heap.size≤k_)∧some k_≠(v5:Value).ownBlock) (.slice A0 l0.length c0) l0)∧Aside0 (Kd.N k50 50 w' w.heap.size (fun k_=>(P0_ k_∨w.heap.size≤k_)) v5 x5_1)∧Aside0 (Below w.heap.size w w'))
 case atStart=>exact ⟨(([]:List (S50))),(0),zT,H',⟨Nat.le_refl _⟩,⟨by (with_reducible repeat (first|apply Kd.V_alloc|apply Kd.V_drewN|apply Kd.V_drew));exact Kd.V_mono HO0.out (fun _ hk=>⟨hk,(by simp [Value.ownBlock])⟩)⟩,⟨by first|exact Kd.S_nil _ _ _ _ _|exact Kd.N_nil _ _ _ _ _|exact Kd.V_nil _ _ _ _ _|exact Kd.Q_nil _ _ _ _ _|exact Kd.R_nil _ _ _ _ _⟩,⟨by repeat (first|(with_reducible first|exact HB.out|apply below_alloc|apply pw_below_drewN|apply below_drew1)|exact HB.out)⟩⟩
 case round=>
  clear H'
  obtain ⟨x5_1,x6_1,rfl,HA,HK1,HO_0,HO_5,HB⟩:=hrel
  cases gk with
  | zero=>exact absurd HA.out (by simp [ancepsref42_System.l0])
  | succ k1=>
   have H:=HA.out
   clear HA
   simp only [ancepsref42_System.l0] at H
   by_cases c3:x6_1<(l1.length:Int)
   ·rw [if_pos c3] at H
    have c3b0:decide (x6_1<(l1.length:Int))=true:=decide_eq_true c3
    clear c3
    by_cases c4:0≤x6_1
    ·rw [if_pos c4] at H
     have c4b0:decide (0≤x6_1)=true:=decide_eq_true c4
     clear c4
     by_cases c5:0≤(rd l1 x6_1)
     ·rw [if_pos c5] at H
      have c5b0:decide (0≤(rd l1 x6_1))=true:=decide_eq_true c5
      clear c5
      by_cases c6:(rd l1 x6_1)<(l0.length:Int)
      ·rw [if_pos c6] at H
       have c6b0:decide ((rd l1 x6_1)<(l0.length:Int))=true:=decide_eq_true c6
       clear c6
       by_cases c7:x5_1.length<2932031007402
       ·rw [if_pos c7] at H
        have LMc7:=zA c7
        clear c7
        obtain ⟨y631,hy631⟩:∃ y_:List (S50),y_=(x5_1++[(⟨(rd_T50 l0 (rd l1 x6_1)).f0,(rd_T50 l0 (rd l1 x6_1)).f1⟩:S50)]):=⟨_,rfl⟩
        replace H:(ancepsref42_System.l0 k1 l0 l1 y631 (wrap64 (x6_1+1)))=some r:=by first|(rw [hy631];with_reducible exact H)|(have H2_:=(Option.bind_some _ _).symm.trans H;rw [hy631];with_reducible exact H2_)|(have H2_:=(Option.bind_some _ _).symm.trans H;with_reducible exact H2_)|with_reducible exact H|(rw [hy631];exact H)|exact H
        have Ny631:=zA hy631
        clear hy631
        have H':=zA H
        clear H
        have p629:0≤(x6_1:Int):=of_decide_eq_true zh
        have q629:x6_1<(l1.length:Int):=of_decide_eq_true zh
        obtain ⟨ad629,e629,hx629_0⟩:=Kd.at_int HR1.out x6_1 p629 q629
        cases e629
        replace hx629_0:=(HB.out.cell (World.block_lt_of_cell? w _ hx629_0)).trans hx629_0
        replace p629:=eq_true p629
        replace q629:=eq_true q629
        have p630:0≤((rd l1 x6_1):Int):=of_decide_eq_true zh
        have q630:(rd l1 x6_1)<(l0.length:Int):=of_decide_eq_true zh
        obtain ⟨ad630,A630_0,c630_0,A630_1,c630_1,e630,hx630_0,hx630_1,hl630_0,hi630_0,hl630_1,hi630_1⟩:=at_T50 (Kd.V_reads' HO_0.out).2.2 (rd l1 x6_1) p630 q630
        cases e630
        obtain ⟨ce630,hce630,hMe630,hcc630⟩:=Kd.V_get HO_0.out z50 (rd l1 x6_1) p630 (by first|exact q630|exact of_decide_eq_true zh|(have e_:=(Kd.V_reads' HO_0.out).1;omega))
        obtain ⟨ua630_0,uc630_0,ua630_1,uc630_1,rfl,ul630_0,ge630_0,ul630_1,ge630_1⟩:=k50_openF hMe630
        have hv630_0:=hcc630 0 _ rfl
        rw [Nat.add_zero] at hv630_0
        replace hv630_0:=Option.some.inj (hv630_0.symm.trans hx630_0)
        injection hv630_0 with hva_ hvn_ hvc_
        rw [hva_] at ge630_0
        rw [hvc_] at ul630_0
        have HL630_0:=zA (show Kd.V (Kd.int .i64) 3 _ w.heap.size _ _ ((rd_T50 l0 (rd l1 x6_1)).f0) from Kd.V_mk ul630_0 ge630_0)
        clear hva_ hvn_ hvc_ ge630_0 ul630_0
        have hv630_1:=hcc630 1 _ rfl
        rw [add_field _ _ 1 (by omega)] at hv630_1
        replace hv630_1:=Option.some.inj (hv630_1.symm.trans hx630_1)
        injection hv630_1 with hva_ hvn_ hvc_
        rw [hva_] at ge630_1
        rw [hvc_] at ul630_1
        have HL630_1:=zA (show Kd.V (Kd.int .i64) 3 _ w.heap.size _ _ ((rd_T50 l0 (rd l1 x6_1)).f1) from Kd.V_mk ul630_1 ge630_1)
        clear hva_ hvn_ hvc_ ge630_1 ul630_1
        clear hcc630 hce630
        have HR630_0:=zA hi630_0
        have HC630_0:=zA hl630_0
        clear hi630_0 hl630_0
        have HR630_1:=zA hi630_1
        have HC630_1:=zA hl630_1
        clear hi630_1 hl630_1
        replace p630:=eq_true p630
        replace q630:=eq_true q630
        go_wp2_with (first|((with_reducible refine gate_builtin (b:=.append) (xs:=#[.tmp 13,.tmp 21]) rfl ?_);at_builtin;refine Kd.N_append k50 (w0:=w) w.heap.size rfl (.tmp 13) (.tmp 21) 22 50 (.agg #[(.slice none 0 0),(.slice none 0 0)]) 48 rfl Try.underlying22 info50 rfl (by decide) (by omega) u5 x5_1 (⟨(rd_T50 l0 (rd l1 x6_1)).f0,(rd_T50 l0 (rd l1 x6_1)).f1⟩:S50) [.slice A630_0 ((rd_T50 l0 (rd l1 x6_1)).f0).length c630_0,.slice A630_1 ((rd_T50 l0 (rd l1 x6_1)).f1).length c630_1] (fun k_=>(P0_ k_∨w.heap.size≤k_)) (fun k_=>((fun k_=>(P0_ k_∨w.heap.size≤k_))) k_∧some k_≠(u5:Value).ownBlock) rfl rfl ?aP (fun _ hk=>hk) ?aF ?aO ?aB ?aS ?aL ?_;(case aP=>exact (k50_mkF _ _ (⟨(rd_T50 l0 (rd l1 x6_1)).f0,(rd_T50 l0 (rd l1 x6_1)).f1⟩:S50) (Kd.V_reads' (Kd.V_mono (ok':=(fun k_=>((fun k_=>(P0_ k_∨w.heap.size≤k_))) k_∧some k_≠(u5:Value).ownBlock)) (HL630_0.out) (fun k_ hk=>⟨hk.1,hk.2⟩))).2.1 (Kd.V_F (Kd.V_mono (ok':=(fun k_=>((fun k_=>(P0_ k_∨w.heap.size≤k_))) k_∧some k_≠(u5:Value).ownBlock)) (HL630_0.out) (fun k_ hk=>⟨hk.1,hk.2⟩))) (Kd.V_reads' (Kd.V_mono (ok':=(fun k_=>((fun k_=>(P0_ k_∨w.heap.size≤k_))) k_∧some k_≠(u5:Value).ownBlock)) (HL630_1.out) (fun k_ hk=>⟨hk.1,hk.2⟩))).2.1 (Kd.V_F (Kd.V_mono (ok':=(fun k_=>((fun k_=>(P0_ k_∨w.heap.size≤k_))) k_∧some k_≠(u5:Value).ownBlock)) (HL630_1.out) (fun k_ hk=>⟨hk.1,hk.2⟩)))));(case aB=>exact zB);(case aF=>exact (fun k_ hk=>(.inr (Nat.le_trans (below_size zB) hk))));(case aO=>exact (zN HO_5));(case aS=>exact (below_size zB));(case aL=>have:=LMc7.out;omega);intro v632 w8 ho hb hg hat;rw [← Ny631.out] at ho;have HO633:=zA (ho);replace HO_0:=zA (Kd.V_afterv (ok:=(fun k_=>(P0_ k_∨w.heap.size≤k_))) (zV HO_0) hg hat);replace HL630_0:=zA (Kd.V_afterv (ok:=(fun k_=>(P0_ k_∨w.heap.size≤k_))) (by (with_reducible repeat (first|apply Kd.V_alloc|apply Kd.V_drewN|apply Kd.V_drew));exact HL630_0.out) hg hat);replace HL630_1:=zA (Kd.V_afterv (ok:=(fun k_=>(P0_ k_∨w.heap.size≤k_))) (by (with_reducible repeat (first|apply Kd.V_alloc|apply Kd.V_drewN|apply Kd.V_drew));exact HL630_1.out) hg hat);replace HB:=zA (hb);clear HO_5;clear ho hb hg hat))
        go_roundg k1
        case measure=>have:=HK1.out;omega
        case rel=>exact ⟨(y631),(wrap64 (x6_1+1)),zT,H',⟨by have:=HK1.out;omega⟩,⟨by (with_reducible repeat (first|apply Kd.V_alloc|apply Kd.V_drewN|apply Kd.V_drew));exact HO_0.out⟩,⟨by (with_reducible repeat (first|apply Kd.N_alloc|apply Kd.N_drewN|apply Kd.N_drew));exact HO633.out⟩,⟨by repeat (first|(with_reducible first|exact HB.out|apply below_alloc|apply pw_below_drewN|apply below_drew1)|exact HB.out)⟩⟩
       ·rw [if_neg c7] at H
        exact absurd H (by simp)
      ·rw [if_neg c6] at H
       exact absurd H (by simp)
     ·rw [if_neg c5] at H
      exact absurd H (by simp)
    ·rw [if_neg c4] at H
     exact absurd H (by simp)
   ·rw [if_neg c3] at H
    have c3b0:decide (x6_1<(l1.length:Int))=false:=decide_eq_false c3
    clear c3
    obtain rfl:=Option.some.inj H
    go_wp2
    go_ret
    exact ⟨_,ze,by (with_reducible repeat (first|apply Kd.N_alloc|apply Kd.N_drewN|apply Kd.N_drew));exact HO_5.out,by repeat (first|(with_reducible first|exact HB.out|apply below_alloc|apply pw_below_drewN|apply below_drew1)|exact HB.out)⟩
end Go.Proofs.Ytkjghablbeaioaa.S
