import Derived.Test.YthcfmdkhkikbcaaT0
namespace Go.Proofs.Ythcfmdkhkikbcaa.T
open Go.RowKit Go.Proofs.YthcfmdkhkikbcaaW.PrintWords Go.Proofs.YthcfmdkhkikbcaaW.PrintLast Go.Proofs.YthcfmdkhkikbcaaW.PrintMore
attribute [local go_sem] max2_int min2_int max_two min_two max_three min_three max_four min_four
set_option linter.unusedVariables false
set_option linter.unusedSimpArgs false
mutual
def ancepsref38_Made.l0:Nat→Int→Int→Int→List Int→Option (List Int×List Int)
 | 0,_,_,_,_=>none
 | k+1,x4,x1033000,x1033001,x1035000=>if x4<24 then (ancepsref38_Made.j1 k x4 (decide ((x1035000.length:Int)<6)) x1033000 x1033001 x1035000) else (ancepsref38_Made.j1 k x4 false x1033000 x1033001 x1035000)
def ancepsref38_Made.j1:Nat→Int→Bool→Int→Int→List Int→Option (List Int×List Int)
 | 0,_,_,_,_,_=>none
 | k+1,x4,x13,x1033000,x1033001,x1035000=>if x13=true then (if 0≤x4 then (if (Int.tmod (shr .u32 x1033000 x4) 2)=1 then (if x1035000.length<17592186044416 then (ancepsref38_Made.l0 k (wrap64 (x4+1)) x1033000 x1033001 (x1035000++[x4])) else (none)) else (ancepsref38_Made.l0 k (wrap64 (x4+1)) x1033000 x1033001 x1035000)) else (none)) else (ancepsref38_Made.l1 k 0 x1033000 x1033001 x1035000 ([]:List Int))
def ancepsref38_Made.l1:Nat→Int→Int→Int→List Int→List Int→Option (List Int×List Int)
 | 0,_,_,_,_,_=>none
 | k+1,x5,x1033000,x1033001,x1035000,x1035001=>if x5<(shl .i64 1 (x1035000.length:Int)) then (if 0≤x5 then (if (Int.tmod (shr .u64 x1033001 x5) 2)=1 then (if x1035001.length<17592186044416 then (ancepsref38_Made.l1 k (wrap64 (x5+1)) x1033000 x1033001 x1035000 (x1035001++[x5])) else (none)) else (ancepsref38_Made.l1 k (wrap64 (x5+1)) x1033000 x1033001 x1035000 x1035001)) else (none)) else (some (x1035000,x1035001))
end
def ancepsref38_Made.f (k:Nat) (a0_0:Int) (a0_1:Int):Option (List Int×List Int):=ancepsref38_Made.l0 k 0 a0_0 a0_1 ([]:List Int)
theorem ancepsref38_Made.mono_l:∀ k,(∀ y0 y1 y2 y3,LeO (ancepsref38_Made.l0 k y0 y1 y2 y3) (ancepsref38_Made.l0 (k+1) y0 y1 y2 y3))∧(∀ y0 y1 y2 y3 y4,LeO (ancepsref38_Made.j1 k y0 y1 y2 y3 y4) (ancepsref38_Made.j1 (k+1) y0 y1 y2 y3 y4))∧(∀ y0 y1 y2 y3 y4,LeO (ancepsref38_Made.l1 k y0 y1 y2 y3 y4) (ancepsref38_Made.l1 (k+1) y0 y1 y2 y3 y4))
 | 0=>⟨fun _ _ _ _ r h=>by simp [ancepsref38_Made.l0] at h,fun _ _ _ _ _ r h=>by simp [ancepsref38_Made.j1] at h,fun _ _ _ _ _ r h=>by simp [ancepsref38_Made.l1] at h⟩
 | k+1=>by
  obtain ⟨ih0,ih1,ih2⟩:=ancepsref38_Made.mono_l k
  refine ⟨?_,?_,?_⟩
  ·intro y0 y1 y2 y3
   unfold ancepsref38_Made.l0
   repeat' first
   | (with_reducible exact ih0 _ _ _ _)
   | (with_reducible exact ih1 _ _ _ _ _)
   | (with_reducible exact ih2 _ _ _ _ _)
   | (with_reducible exact LeO.refl _)
   | (with_reducible exact LeO.none _)
   | (with_reducible refine LeO.ite ?_ ?_)
   | (with_reducible refine LeO.bind ?_ (fun _=>?_))
   | exact LeO.none _
   | refine LeO.ite ?_ ?_
   | refine LeO.bind ?_ (fun _=>?_)
  ·intro y0 y1 y2 y3 y4
   unfold ancepsref38_Made.j1
   repeat' first
   | (with_reducible exact ih0 _ _ _ _)
   | (with_reducible exact ih1 _ _ _ _ _)
   | (with_reducible exact ih2 _ _ _ _ _)
   | (with_reducible exact LeO.refl _)
   | (with_reducible exact LeO.none _)
   | (with_reducible refine LeO.ite ?_ ?_)
   | (with_reducible refine LeO.bind ?_ (fun _=>?_))
   | exact LeO.none _
   | refine LeO.ite ?_ ?_
   | refine LeO.bind ?_ (fun _=>?_)
  ·intro y0 y1 y2 y3 y4
   unfold ancepsref38_Made.l1
   repeat' first
   | (with_reducible exact ih0 _ _ _ _)
   | (with_reducible exact ih1 _ _ _ _ _)
   | (with_reducible exact ih2 _ _ _ _ _)
   | (with_reducible exact LeO.refl _)
   | (with_reducible exact LeO.none _)
   | (with_reducible refine LeO.ite ?_ ?_)
   | (with_reducible refine LeO.bind ?_ (fun _=>?_))
   | exact LeO.none _
   | refine LeO.ite ?_ ?_
   | refine LeO.bind ?_ (fun _=>?_)
theorem ancepsref38_Made.mono:∀ a0 a1 k,LeO (ancepsref38_Made.f k a0 a1) (ancepsref38_Made.f (k+1) a0 a1):=by
 intro a0 a1 k
 obtain ⟨ih0,ih1,ih2⟩:=ancepsref38_Made.mono_l k
 unfold ancepsref38_Made.f
 repeat' first
   | (with_reducible exact ih0 _ _ _ _)
   | (with_reducible exact ih1 _ _ _ _ _)
   | (with_reducible exact ih2 _ _ _ _ _)
   | (with_reducible exact LeO.refl _)
   | (with_reducible exact LeO.none _)
   | (with_reducible refine LeO.ite ?_ ?_)
   | (with_reducible refine LeO.bind ?_ (fun _=>?_))
   | exact LeO.none _
   | refine LeO.ite ?_ ?_
   | refine LeO.bind ?_ (fun _=>?_)
set_option maxHeartbeats 8000000 in
set_option maxRecDepth 100000 in
theorem ancepsref38_Made.calls (k:Nat) (a0_0:Int) (a0_1:Int) (r1:List Int) (r2:List Int) (w:World) (h:ancepsref38_Made.f k a0_0 a0_1=some (r1,r2)) :
  Calls Try.prog 13 #[.agg #[.int .u32 a0_0,.int .u64 a0_1]] w fun e w'=>∃ v0_ v1_:Value,e=.returned (.agg #[v0_,v1_])∧Kd.R (Kd.int .i64) 3 w' w.heap.size (fun k_=>some k_≠(v1_:Value).ownBlock) v0_ r1∧Kd.R (Kd.int .i64) 3 w' w.heap.size (fun k_=>some k_≠(v0_:Value).ownBlock) v1_ r2∧Below w.heap.size w w':=by
 have hu25:=Try.underlying25
 have hu29:=Try.underlying29
 have hu27:=Try.underlying27
 have hu22:=Try.underlying22
 have hu23:=Try.underlying23
 have HB:=zA (Below.refl w.heap.size w)
 have H:(ancepsref38_Made.l0 k 0 a0_0 a0_1 ([]:List Int))=some (r1,r2):=h
 clear h
 have H':=zA H
 clear H
 go_enter Try.func13,Try.ntmps13
 go_wp2_with (first|((with_reducible refine gate_dst (N:=1) rfl ?_);(try (refine gate_guard (by rfl) ?_;dsimp only));refine box_event ?hg (N:=1) ?hd (cs:=#[.int .u32 a0_0,.int .u64 a0_1]) (t:=25) ?hr ?_;(case hd=>rfl);(case hg=>rfl);(case hr=>first|(go_simp;done)|(go_simp;rfl));intro gb1032 hg w2 hbox hb;have BK1032:=zA (hbox);have GW1032:=zA (zG hg (below_size zB):w.heap.size≤gb1032);have GE1032:=GW1032;replace HB:=zA (below_step zB hb);clear hb hbox hg)|((with_reducible refine gate_dst (N:=2) rfl ?_);(try (refine gate_guard (by rfl) ?_;dsimp only));refine box_event ?hg (N:=2) ?hd (cs:=#[.slice none 0 0,.slice none 0 0]) (t:=29) ?hr ?_;(case hd=>rfl);(case hg=>rfl);(case hr=>first|(go_simp;done)|(go_simp;rfl));intro gb1033 hg w3 hbox hb;have BK1033:=zA (hbox);have GW1033:=zA (zG hg (below_size zB):w.heap.size≤gb1033);have GE1033:=GW1033;have NB1032_1033:=zA ((zl hg (zk BK1032):gb1032≠gb1033));have NB1033_1032:=zA ((zg hg (zk BK1032):gb1033≠gb1032));replace BK1032:=zA (zb BK1032 hb);replace HB:=zA (below_step zB hb);clear hb hbox hg)|((with_reducible refine gate_dst (N:=3) rfl ?_);(try (refine gate_guard (by rfl) ?_;dsimp only));refine box_event ?hg (N:=3) ?hd (cs:=#[.slice none 0 0,.slice none 0 0]) (t:=29) ?hr ?_;(case hd=>rfl);(case hg=>rfl);(case hr=>first|(go_simp;done)|(go_simp;rfl));intro gb1034 hg w4 hbox hb;have BK1034:=zA (hbox);have GW1034:=zA (zG hg (below_size zB):w.heap.size≤gb1034);have GE1034:=GW1034;have NB1032_1034:=zA ((zl hg (zk BK1032):gb1032≠gb1034));have NB1034_1032:=zA ((zg hg (zk BK1032):gb1034≠gb1032));have NB1033_1034:=zA ((zl hg (zk BK1033):gb1033≠gb1034));have NB1034_1033:=zA ((zg hg (zk BK1033):gb1034≠gb1033));replace BK1032:=zA (zb BK1032 hb);replace BK1033:=zA (zb BK1033 hb);replace HB:=zA (below_step zB hb);clear hb hbox hg))
 go_loopg [4] k (fun kq v4 w'=>∃ (x4_1:Int) (x1035000_1:List Int) (u1035000:Value),v4=.int .i64 x4_1∧Aside0 (ancepsref38_Made.l0 kq x4_1 a0_0 a0_1 x1035000_1=some (r1,r2))∧Aside0 (kq≤k)∧Aside0 (Kd.R (Kd.int .i64) 3 w' w.heap.size (fun _=>True) u1035000 x1035000_1)∧Aside0 (w'.heap[gb1032]?=some (.cells #[.int .u32 a0_0,.int .u64 a0_1] 25 (0,0)))∧Aside0 (w'.heap[gb1033]?=some (.cells #[(.slice none 0 0),(.slice none 0 0)] 29 (0,0)))∧Aside0 (w'.heap[gb1034]?=some (.cells #[u1035000,(.slice none 0 0)] 29 (0,0)))∧Aside0 (Below w.heap.size w w'))
 case atStart=>exact ⟨(0),(([]:List Int)),(.slice none 0 0),zT,H',⟨Nat.le_refl _⟩,⟨by first|exact Kd.R_nil _ _ _ _ _|exact Kd.N_nil _ _ _ _ _|exact Kd.V_nil _ _ _ _ _|exact Kd.Q_nil _ _ _ _ _|exact Kd.S_nil _ _ _ _ _⟩,⟨by refine zj ?_;exact BK1032.out⟩,⟨by refine zj ?_;exact BK1033.out⟩,⟨by refine zj ?_;exact BK1034.out⟩,⟨by repeat (first|(with_reducible first|exact HB.out|apply below_alloc|apply pw_below_drewN|apply below_drew1|refine below_set ?_ GE1032.out|refine below_set ?_ GE1033.out|refine below_set ?_ GE1034.out)|exact HB.out)⟩⟩
 case round=>
  clear H'
  obtain ⟨x4_1,x1035000_1,u1035000,rfl,HA,HK1,HO_1035000,BK1032,BK1033,BK1034,HB⟩:=hrel
  cases gk with
  | zero=>exact absurd HA.out (by simp [ancepsref38_Made.l0])
  | succ k1=>
   have H:=HA.out
   clear HA
   simp only [ancepsref38_Made.l0] at H
   have HC5:=zA H
   clear H
   go_upto_region 3 with (fail)
   go_cut [13] (fun v13 wc=>∃ (kq:Nat) (x13_4:Bool),v13=.bool x13_4∧Aside0 (ancepsref38_Made.j1 kq x4_1 x13_4 a0_0 a0_1 x1035000_1=some (r1,r2))∧Aside0 (kq≤k1)∧Aside0 (Kd.R (Kd.int .i64) 3 wc w.heap.size (fun _=>True) u1035000 x1035000_1)∧Aside0 (wc.heap[gb1032]?=some (.cells #[.int .u32 a0_0,.int .u64 a0_1] 25 (0,0)))∧Aside0 (wc.heap[gb1033]?=some (.cells #[(.slice none 0 0),(.slice none 0 0)] 29 (0,0)))∧Aside0 (wc.heap[gb1034]?=some (.cells #[u1035000,(.slice none 0 0)] 29 (0,0)))∧Aside0 (Below w.heap.size w wc))
   case first=>
    have H:=HC5.out
    clear HC5
    by_cases c6:x4_1<24
    ·rw [if_pos c6] at H
     have c6b0:decide (x4_1<24)=true:=decide_eq_true c6
     clear c6
     (first|rw [c6b0]|(simp only [i64_w,i32_w];rw [c6b0])|skip)
     have H':=zA H
     clear H
     have hnb7:=NB1034_1032.out
     have hnc7:=NB1032_1034.out
     have hnb8:=NB1034_1033.out
     have hnc8:=NB1033_1034.out
     have hcz9_0:wr.cell? ⟨gb1034,0,none⟩=some (u1035000):=(blk_cell BK1034.out 0).trans rfl
     have hcz9_1:wr.cell? ⟨gb1034,1,none⟩=some (.slice none 0 0):=(blk_cell BK1034.out 1).trans rfl
     have hfz9_0:=blk_frozen BK1034.out 0
     have hfz9_1:=blk_frozen BK1034.out 1
     obtain ⟨Ao10,co10,eo10⟩:=Kd.R_slice HO_1035000.out
     subst eo10
     go_wp2
     go_meet
     case rel=>exact ⟨_,(decide ((x1035000_1.length:Int)<6)),zT,H',⟨by have:=HK1.out;first|omega|exact Nat.le_refl _⟩,⟨by refine zr ?_;exact HO_1035000.out⟩,⟨by refine zj ?_;exact BK1032.out⟩,⟨by refine zj ?_;exact BK1033.out⟩,⟨by refine zj ?_;exact BK1034.out⟩,⟨by repeat (first|(with_reducible first|exact HB.out|apply below_alloc|apply pw_below_drewN|apply below_drew1|refine below_set ?_ GE1032.out|refine below_set ?_ GE1033.out|refine below_set ?_ GE1034.out)|exact HB.out)⟩⟩
    ·rw [if_neg c6] at H
     have c6b0:decide (x4_1<24)=false:=decide_eq_false c6
     clear c6
     (first|rw [c6b0]|(simp only [i64_w,i32_w];rw [c6b0])|skip)
     have H':=zA H
     clear H
     go_wp2
     go_meet
     case rel=>exact ⟨_,(false),zT,H',⟨by have:=HK1.out;first|omega|exact Nat.le_refl _⟩,⟨by refine zr ?_;exact HO_1035000.out⟩,⟨by refine zj ?_;exact BK1032.out⟩,⟨by refine zj ?_;exact BK1033.out⟩,⟨by refine zj ?_;exact BK1034.out⟩,⟨by repeat (first|(with_reducible first|exact HB.out|apply below_alloc|apply pw_below_drewN|apply below_drew1|refine below_set ?_ GE1032.out|refine below_set ?_ GE1033.out|refine below_set ?_ GE1034.out)|exact HB.out)⟩⟩
   case rest=>
    clear HC5
    obtain ⟨kq,x13_4,rfl,HA,HJ4,HO_1035000,BK1032,BK1033,BK1034,HB⟩:=hcut
    cases kq with
    | zero=>exact absurd HA.out (by simp [ancepsref38_Made.j1])
    | succ kj4=>
     have H:=HA.out
     clear HA
     simp only [ancepsref38_Made.j1] at H
     by_cases c11:x13_4=true
     ·subst c11
      have H1:(if 0≤x4_1 then (if (Int.tmod (shr .u32 a0_0 x4_1) 2)=1 then (if x1035000_1.length<17592186044416 then (ancepsref38_Made.l0 kj4 (wrap64 (x4_1+1)) a0_0 a0_1 (x1035000_1++[x4_1])) else (none)) else (ancepsref38_Made.l0 kj4 (wrap64 (x4_1+1)) a0_0 a0_1 x1035000_1)) else (none))=some (r1,r2):=by rw [if_pos rfl] at H;exact H
      clear H
      have H:=H1
      clear H1
      by_cases c12:0≤x4_1
      ·rw [if_pos c12] at H
       have c12b0:=eq_true c12
       have c12b1:decide (0≤x4_1)=true:=decide_eq_true c12
       clear c12
       obtain ⟨ji13,hji13⟩:∃ j_:Int,(shr .u32 a0_0 x4_1)=j_:=⟨_,rfl⟩
       replace H:(if (Int.tmod (ji13) 2)=1 then (if x1035000_1.length<17592186044416 then (ancepsref38_Made.l0 kj4 (wrap64 (x4_1+1)) a0_0 a0_1 (x1035000_1++[x4_1])) else (none)) else (ancepsref38_Made.l0 kj4 (wrap64 (x4_1+1)) a0_0 a0_1 x1035000_1))=some (r1,r2):=by first|(rw [hji13] at H;exact H)|(simp only [hji13] at H ⊢;exact H)
       have hji13_:(a0_0 / 2 ^ min x4_1.toNat 32)=ji13:=hji13
       have hji13z:x4_1≤32→(a0_0 / 2 ^ x4_1.toNat)=ji13:=shr_small hji13
       by_cases c14:(Int.tmod (ji13) 2)=1
       ·rw [if_pos c14] at H
        have c14b0:((Int.tmod (ji13) 2) == 1)=true:=beq_iff_eq.mpr c14
        have c14b1:((Int.tmod (ji13) 2) != 1)=false:=bne_eq_false_iff_eq.mpr c14
        clear c14
        by_cases c15:x1035000_1.length<17592186044416
        ·rw [if_pos c15] at H
         have LMc15:=zA c15
         clear c15
         obtain ⟨y1035,hy1035⟩:∃ y_:List Int,y_=(x1035000_1++[x4_1]):=⟨_,rfl⟩
         replace H:(ancepsref38_Made.l0 kj4 (wrap64 (x4_1+1)) a0_0 a0_1 y1035)=some (r1,r2):=by first|(rw [hy1035];with_reducible exact H)|(have H2_:=(Option.bind_some _ _).symm.trans H;rw [hy1035];with_reducible exact H2_)|(have H2_:=(Option.bind_some _ _).symm.trans H;with_reducible exact H2_)|with_reducible exact H|(rw [hy1035];exact H)|exact H
         have Ny1035:=zA hy1035
         clear hy1035
         have H':=zA H
         clear H
         have hnb16:=NB1032_1033.out
         have hnc16:=NB1033_1032.out
         have hnb17:=NB1032_1034.out
         have hnc17:=NB1034_1032.out
         have hcz18_0:wc.cell? ⟨gb1032,0,none⟩=some (.int .u32 a0_0):=(blk_cell BK1032.out 0).trans rfl
         have hcz18_1:wc.cell? ⟨gb1032,1,none⟩=some (.int .u64 a0_1):=(blk_cell BK1032.out 1).trans rfl
         have hfz18_0:=blk_frozen BK1032.out 0
         have hfz18_1:=blk_frozen BK1032.out 1
         have hnb19:=NB1034_1033.out
         have hnc19:=NB1033_1034.out
         have hcz20_0:wc.cell? ⟨gb1034,0,none⟩=some (u1035000):=(blk_cell BK1034.out 0).trans rfl
         have hcz20_1:wc.cell? ⟨gb1034,1,none⟩=some (.slice none 0 0):=(blk_cell BK1034.out 1).trans rfl
         have hfz20_0:=blk_frozen BK1034.out 0
         have hfz20_1:=blk_frozen BK1034.out 1
         go_wp2_with (first|((with_reducible refine gate_builtin (b:=.append) (xs:=#[.tmp 23,.tmp 25]) rfl ?_);(try (refine gate_guard (by rfl) ?_;dsimp only));at_builtin;refine Kd.R_append (Kd.int .i64) (w0:=w) w.heap.size rfl (.tmp 23) (.tmp 25) 27 3 (.int .i64 0) 8 rfl Try.underlying27 info3 rfl (by decide) (by omega) u1035000 x1035000_1 x4_1 [.int .i64 x4_1] (fun _=>True) (fun _=>False) rfl rfl ?aP (fun _ hk=>hk.elim) ?aF ?aO ?aB ?aS ?aL ?_;(case aP=>exact rfl);(case aB=>exact zB);(case aF=>exact (fun _ _=>trivial));(case aO=>exact (zR HO_1035000));(case aS=>exact (below_size zB));(case aL=>have:=LMc15.out;omega);intro v1036 w21 ho hb hg hat;rw [← Ny1035.out] at ho;have HO1037:=zA (ho);replace BK1032:=zA (blk_grown (g:=gb1032) (o:=.cells #[.int .u32 a0_0,.int .u64 a0_1] 25 (0,0)) (zk BK1032) hg (Kd.R_ne HO_1035000.out BK1032.out (by decide)));replace BK1033:=zA (blk_grown (g:=gb1033) (o:=.cells #[.slice none 0 0,.slice none 0 0] 29 (0,0)) (zk BK1033) hg (Kd.R_ne HO_1035000.out BK1033.out (by decide)));replace BK1034:=zA (blk_grown (g:=gb1034) (o:=.cells #[u1035000,.slice none 0 0] 29 (0,0)) (zk BK1034) hg (Kd.R_ne HO_1035000.out BK1034.out (by decide)));replace HB:=zA (hb);clear HO_1035000;clear ho hb hg hat;obtain ⟨Ao22,co22,eo22⟩:=Kd.R_slice HO1037.out;subst eo22;have hcz23_0:w21.cell? ⟨gb1034,0,none⟩=some (u1035000):=(blk_cell BK1034.out 0).trans rfl;have hcz23_1:w21.cell? ⟨gb1034,1,none⟩=some (.slice none 0 0):=(blk_cell BK1034.out 1).trans rfl;have hfz23_0:=blk_frozen BK1034.out 0;have hfz23_1:=blk_frozen BK1034.out 1))
         go_roundg kj4
         case measure=>have:=HK1.out;have:=HJ4.out;omega
         case rel=>exact ⟨(wrap64 (x4_1+1)),(y1035),(.slice Ao22 y1035.length co22),zT,H',⟨by have:=HK1.out;have:=HJ4.out;omega⟩,⟨by refine zr ?_;exact Kd.R_mono (Kd.R_far (p:=⟨gb1034,0,none⟩) (Kd.R_types HO1037.out BK1034.out (by decide)) (fun _ hk=>hk.2) (.slice Ao22 y1035.length co22)) (fun _ hk=>trivial)⟩,⟨by refine zj ?_;refine blk_far ?_ NB1032_1034.out _;refine zj ?_;exact BK1032.out⟩,⟨by refine zj ?_;refine blk_far ?_ NB1033_1034.out _;refine zj ?_;exact BK1033.out⟩,⟨by refine zj ?_;refine blk_put (cs:=#[u1035000,.slice none 0 0]) ?_ 0 _ rfl;refine zj ?_;exact BK1034.out⟩,⟨by repeat (first|(with_reducible first|exact HB.out|apply below_alloc|apply pw_below_drewN|apply below_drew1|refine below_set ?_ GE1032.out|refine below_set ?_ GE1033.out|refine below_set ?_ GE1034.out)|exact HB.out)⟩⟩
        ·rw [if_neg c15] at H
         exact absurd H (by simp)
       ·rw [if_neg c14] at H
        have c14b0:((Int.tmod (ji13) 2) == 1)=false:=beq_eq_false_iff_ne.mpr c14
        have c14b1:((Int.tmod (ji13) 2) != 1)=true:=bne_iff_ne.mpr c14
        have H':=zA H
        clear H
        have hnb24:=NB1032_1033.out
        have hnc24:=NB1033_1032.out
        have hnb25:=NB1032_1034.out
        have hnc25:=NB1034_1032.out
        have hcz26_0:wc.cell? ⟨gb1032,0,none⟩=some (.int .u32 a0_0):=(blk_cell BK1032.out 0).trans rfl
        have hcz26_1:wc.cell? ⟨gb1032,1,none⟩=some (.int .u64 a0_1):=(blk_cell BK1032.out 1).trans rfl
        have hfz26_0:=blk_frozen BK1032.out 0
        have hfz26_1:=blk_frozen BK1032.out 1
        go_wp2
        go_roundg kj4
        case measure=>have:=HK1.out;have:=HJ4.out;omega
        case rel=>exact ⟨(wrap64 (x4_1+1)),(x1035000_1),(u1035000),zT,H',⟨by have:=HK1.out;have:=HJ4.out;omega⟩,⟨by refine zr ?_;exact HO_1035000.out⟩,⟨by refine zj ?_;exact BK1032.out⟩,⟨by refine zj ?_;exact BK1033.out⟩,⟨by refine zj ?_;exact BK1034.out⟩,⟨by repeat (first|(with_reducible first|exact HB.out|apply below_alloc|apply pw_below_drewN|apply below_drew1|refine below_set ?_ GE1032.out|refine below_set ?_ GE1033.out|refine below_set ?_ GE1034.out)|exact HB.out)⟩⟩
      ·rw [if_neg c12] at H
       exact absurd H (by simp)
     ·replace c11:=Bool.eq_false_iff.mpr c11
      subst c11
      have H1:(ancepsref38_Made.l1 kj4 0 a0_0 a0_1 x1035000_1 ([]:List Int))=some (r1,r2):=by rw [if_neg (show ¬ (false=true) by decide)] at H;exact H
      clear H
      have H:=H1
      clear H1
      have H':=zA H
      clear H
      go_wp2
      go_loopg [5] kj4 (fun kq v5 w'=>∃ (x5_3:Int) (x1035001_3:List Int) (u1035001:Value),v5=.int .i64 x5_3∧Aside0 (ancepsref38_Made.l1 kq x5_3 a0_0 a0_1 x1035000_1 x1035001_3=some (r1,r2))∧Aside0 (kq≤kj4)∧Aside0 (Kd.R (Kd.int .i64) 3 w' w.heap.size (fun k_=>some k_≠(u1035001:Value).ownBlock) u1035000 x1035000_1)∧Aside0 (Kd.R (Kd.int .i64) 3 w' w.heap.size (fun k_=>some k_≠(u1035000:Value).ownBlock) u1035001 x1035001_3)∧Aside0 (w'.heap[gb1032]?=some (.cells #[.int .u32 a0_0,.int .u64 a0_1] 25 (0,0)))∧Aside0 (w'.heap[gb1033]?=some (.cells #[(.slice none 0 0),(.slice none 0 0)] 29 (0,0)))∧Aside0 (w'.heap[gb1034]?=some (.cells #[u1035000,u1035001] 29 (0,0)))∧Aside0 (Below w.heap.size w w'))
      case atStart=>exact ⟨(0),(([]:List Int)),(.slice none 0 0),zT,H',⟨Nat.le_refl _⟩,⟨by refine zr ?_;exact Kd.R_mono HO_1035000.out (fun _ hk=>(by simp [Value.ownBlock]))⟩,⟨by first|exact Kd.R_nil _ _ _ _ _|exact Kd.N_nil _ _ _ _ _|exact Kd.V_nil _ _ _ _ _|exact Kd.Q_nil _ _ _ _ _|exact Kd.S_nil _ _ _ _ _⟩,⟨by refine zj ?_;exact BK1032.out⟩,⟨by refine zj ?_;exact BK1033.out⟩,⟨by refine zj ?_;exact BK1034.out⟩,⟨by repeat (first|(with_reducible first|exact HB.out|apply below_alloc|apply pw_below_drewN|apply below_drew1|refine below_set ?_ GE1032.out|refine below_set ?_ GE1033.out|refine below_set ?_ GE1034.out)|exact HB.out)⟩⟩
      case round=>
       clear H'
       try clear c11
       obtain ⟨x5_3,x1035001_3,u1035001,rfl,HA,HK3,HO_1035000,HO_1035001,BK1032,BK1033,BK1034,HB⟩:=hrel
       cases gk with
       | zero=>exact absurd HA.out (by simp [ancepsref38_Made.l1])
       | succ k3=>
        have H:=HA.out
        clear HA
        simp only [ancepsref38_Made.l1] at H
        obtain ⟨ji27,hji27⟩:∃ j_:Int,(shl .i64 1 (x1035000_1.length:Int))=j_:=⟨_,rfl⟩
        replace H:(if x5_3<(ji27) then (if 0≤x5_3 then (if (Int.tmod (shr .u64 a0_1 x5_3) 2)=1 then (if x1035001_3.length<17592186044416 then (ancepsref38_Made.l1 k3 (wrap64 (x5_3+1)) a0_0 a0_1 x1035000_1 (x1035001_3++[x5_3])) else (none)) else (ancepsref38_Made.l1 k3 (wrap64 (x5_3+1)) a0_0 a0_1 x1035000_1 x1035001_3)) else (none)) else (some (x1035000_1,x1035001_3)))=some (r1,r2):=by first|(rw [hji27] at H;exact H)|(simp only [hji27] at H ⊢;exact H)
        have hji27_:(IntKind.i64.wrap (1 * 2 ^ min (x1035000_1.length:Int).toNat 64))=ji27:=hji27
        have hji27z:(x1035000_1.length:Int)≤64→(IntKind.i64.wrap (1 * 2 ^ (x1035000_1.length:Int).toNat))=ji27:=shl_small hji27
        have hji27p:(IntKind.i64.wrap (1 * 2 ^ min x1035000_1.length 64))=ji27:=hji27_
        have hji27q:(x1035000_1.length:Int)≤64→(IntKind.i64.wrap (1 * 2 ^ x1035000_1.length))=ji27:=hji27z
        have hji27r:(IntKind.i64.wrap (2 ^ min x1035000_1.length 64))=ji27:=by have h_:=hji27p;rw [Int.one_mul] at h_;exact h_
        have hji27s:(x1035000_1.length:Int)≤64→(IntKind.i64.wrap (2 ^ x1035000_1.length))=ji27:=fun hle_=>by have h_:=hji27q hle_;rw [Int.one_mul] at h_;exact h_
        have hji27u:(IntKind.i64.wrap (2 ^ min (x1035000_1.length:Int).toNat 64))=ji27:=by have h_:=hji27_;rw [Int.one_mul] at h_;exact h_
        have hji27v:(x1035000_1.length:Int)≤64→(IntKind.i64.wrap (2 ^ (x1035000_1.length:Int).toNat))=ji27:=fun hle_=>by have h_:=hji27z hle_;rw [Int.one_mul] at h_;exact h_
        have hji27y:(wrap64 (1 * 2 ^ min (x1035000_1.length:Int).toNat 64))=ji27:=(i64_w _).symm.trans hji27_
        have hji27x:(x1035000_1.length:Int)≤64→(wrap64 (1 * 2 ^ (x1035000_1.length:Int).toNat))=ji27:=fun h_=>(i64_w _).symm.trans (hji27z h_)
        by_cases c28:x5_3<(ji27)
        ·rw [if_pos c28] at H
         have c28b0:decide (x5_3<(ji27))=true:=decide_eq_true c28
         clear c28
         by_cases c29:0≤x5_3
         ·rw [if_pos c29] at H
          have c29b0:=eq_true c29
          have c29b1:decide (0≤x5_3)=true:=decide_eq_true c29
          clear c29
          obtain ⟨ji30,hji30⟩:∃ j_:Int,(shr .u64 a0_1 x5_3)=j_:=⟨_,rfl⟩
          replace H:(if (Int.tmod (ji30) 2)=1 then (if x1035001_3.length<17592186044416 then (ancepsref38_Made.l1 k3 (wrap64 (x5_3+1)) a0_0 a0_1 x1035000_1 (x1035001_3++[x5_3])) else (none)) else (ancepsref38_Made.l1 k3 (wrap64 (x5_3+1)) a0_0 a0_1 x1035000_1 x1035001_3))=some (r1,r2):=by first|(rw [hji30] at H;exact H)|(simp only [hji30] at H ⊢;exact H)
          have hji30_:(a0_1 / 2 ^ min x5_3.toNat 64)=ji30:=hji30
          have hji30z:x5_3≤64→(a0_1 / 2 ^ x5_3.toNat)=ji30:=shr_small hji30
          by_cases c31:(Int.tmod (ji30) 2)=1
          ·rw [if_pos c31] at H
           have c31b0:((Int.tmod (ji30) 2) == 1)=true:=beq_iff_eq.mpr c31
           have c31b1:((Int.tmod (ji30) 2) != 1)=false:=bne_eq_false_iff_eq.mpr c31
           clear c31
           by_cases c32:x1035001_3.length<17592186044416
           ·rw [if_pos c32] at H
            have LMc32:=zA c32
            clear c32
            obtain ⟨y1038,hy1038⟩:∃ y_:List Int,y_=(x1035001_3++[x5_3]):=⟨_,rfl⟩
            replace H:(ancepsref38_Made.l1 k3 (wrap64 (x5_3+1)) a0_0 a0_1 x1035000_1 y1038)=some (r1,r2):=by first|(rw [hy1038];with_reducible exact H)|(have H2_:=(Option.bind_some _ _).symm.trans H;rw [hy1038];with_reducible exact H2_)|(have H2_:=(Option.bind_some _ _).symm.trans H;with_reducible exact H2_)|with_reducible exact H|(rw [hy1038];exact H)|exact H
            have Ny1038:=zA hy1038
            clear hy1038
            have H':=zA H
            clear H
            have hnb33:=NB1034_1032.out
            have hnc33:=NB1032_1034.out
            have hnb34:=NB1034_1033.out
            have hnc34:=NB1033_1034.out
            have hcz35_0:wr.cell? ⟨gb1034,0,none⟩=some (u1035000):=(blk_cell BK1034.out 0).trans rfl
            have hcz35_1:wr.cell? ⟨gb1034,1,none⟩=some (u1035001):=(blk_cell BK1034.out 1).trans rfl
            have hfz35_0:=blk_frozen BK1034.out 0
            have hfz35_1:=blk_frozen BK1034.out 1
            obtain ⟨Ao36,co36,eo36⟩:=Kd.R_slice HO_1035000.out
            subst eo36
            have hnb37:=NB1032_1033.out
            have hnc37:=NB1033_1032.out
            have hcz38_0:wr.cell? ⟨gb1032,0,none⟩=some (.int .u32 a0_0):=(blk_cell BK1032.out 0).trans rfl
            have hcz38_1:wr.cell? ⟨gb1032,1,none⟩=some (.int .u64 a0_1):=(blk_cell BK1032.out 1).trans rfl
            have hfz38_0:=blk_frozen BK1032.out 0
            have hfz38_1:=blk_frozen BK1032.out 1
            go_wp2_with (first|((with_reducible refine gate_builtin (b:=.append) (xs:=#[.tmp 43,.tmp 45]) rfl ?_);(try (refine gate_guard (by rfl) ?_;dsimp only));at_builtin;refine Kd.R_append (Kd.int .i64) (w0:=w) w.heap.size rfl (.tmp 43) (.tmp 45) 27 3 (.int .i64 0) 8 rfl Try.underlying27 info3 rfl (by decide) (by omega) u1035001 x1035001_3 x5_3 [.int .i64 x5_3] (fun k_=>some k_≠(.slice Ao36 x1035000_1.length co36:Value).ownBlock) (fun _=>False) rfl rfl ?aP (fun _ hk=>hk.elim) ?aF ?aO ?aB ?aS ?aL ?_;(case aP=>exact rfl);(case aB=>exact zB);(case aF=>exact (fun k_ hk=>Kd.fresh' (Kd.R_lt (zR HO_1035000)) k_ hk));(case aO=>exact (zR HO_1035001));(case aS=>exact (below_size zB));(case aL=>have:=LMc32.out;omega);intro v1039 w39 ho hb hg hat;rw [← Ny1038.out] at ho;have HO1040:=zA (ho);replace HO_1035000:=zA (Kd.R_after (ok:=(fun _=>True)) (by refine zr ?_;exact Kd.R_mono HO_1035000.out (fun _ hk=>⟨trivial,hk⟩)) hg hat);replace BK1032:=zA (blk_grown (g:=gb1032) (o:=.cells #[.int .u32 a0_0,.int .u64 a0_1] 25 (0,0)) (zk BK1032) hg (Kd.R_ne HO_1035001.out BK1032.out (by decide)));replace BK1033:=zA (blk_grown (g:=gb1033) (o:=.cells #[.slice none 0 0,.slice none 0 0] 29 (0,0)) (zk BK1033) hg (Kd.R_ne HO_1035001.out BK1033.out (by decide)));replace BK1034:=zA (blk_grown (g:=gb1034) (o:=.cells #[.slice Ao36 x1035000_1.length co36,u1035001] 29 (0,0)) (zk BK1034) hg (Kd.R_ne HO_1035001.out BK1034.out (by decide)));replace HB:=zA (hb);clear HO_1035001;clear ho hb hg hat;obtain ⟨Ao40,co40,eo40⟩:=Kd.R_slice HO1040.out;subst eo40;have hcz41_0:w39.cell? ⟨gb1034,0,none⟩=some (.slice Ao36 x1035000_1.length co36):=(blk_cell BK1034.out 0).trans rfl;have hcz41_1:w39.cell? ⟨gb1034,1,none⟩=some (u1035001):=(blk_cell BK1034.out 1).trans rfl;have hfz41_0:=blk_frozen BK1034.out 0;have hfz41_1:=blk_frozen BK1034.out 1))
            go_roundg k3
            case measure=>have:=HK1.out;have:=HJ4.out;have:=HK3.out;omega
            case rel=>exact ⟨(wrap64 (x5_3+1)),(y1038),(.slice Ao40 y1038.length co40),zT,H',⟨by have:=HK1.out;have:=HJ4.out;have:=HK3.out;omega⟩,⟨by refine zr ?_;exact Kd.R_mono (Kd.R_far (p:=⟨gb1034,1,none⟩) (Kd.R_types HO_1035000.out BK1034.out (by decide)) (fun _ hk=>hk.2) (.slice Ao40 y1038.length co40)) (fun _ hk=>hk.1.2)⟩,⟨by refine zr ?_;exact Kd.R_mono (Kd.R_far (p:=⟨gb1034,1,none⟩) (Kd.R_types HO1040.out BK1034.out (by decide)) (fun _ hk=>hk.2) (.slice Ao40 y1038.length co40)) (fun _ hk=>hk.1)⟩,⟨by refine zj ?_;refine blk_far ?_ NB1032_1034.out _;refine zj ?_;exact BK1032.out⟩,⟨by refine zj ?_;refine blk_far ?_ NB1033_1034.out _;refine zj ?_;exact BK1033.out⟩,⟨by refine zj ?_;refine blk_put (cs:=#[.slice Ao36 x1035000_1.length co36,u1035001]) ?_ 1 _ rfl;refine zj ?_;exact BK1034.out⟩,⟨by repeat (first|(with_reducible first|exact HB.out|apply below_alloc|apply pw_below_drewN|apply below_drew1|refine below_set ?_ GE1032.out|refine below_set ?_ GE1033.out|refine below_set ?_ GE1034.out)|exact HB.out)⟩⟩
           ·rw [if_neg c32] at H
            exact absurd H (by simp)
          ·rw [if_neg c31] at H
           have c31b0:((Int.tmod (ji30) 2) == 1)=false:=beq_eq_false_iff_ne.mpr c31
           have c31b1:((Int.tmod (ji30) 2) != 1)=true:=bne_iff_ne.mpr c31
           have H':=zA H
           clear H
           have hnb42:=NB1034_1032.out
           have hnc42:=NB1032_1034.out
           have hnb43:=NB1034_1033.out
           have hnc43:=NB1033_1034.out
           have hcz44_0:wr.cell? ⟨gb1034,0,none⟩=some (u1035000):=(blk_cell BK1034.out 0).trans rfl
           have hcz44_1:wr.cell? ⟨gb1034,1,none⟩=some (u1035001):=(blk_cell BK1034.out 1).trans rfl
           have hfz44_0:=blk_frozen BK1034.out 0
           have hfz44_1:=blk_frozen BK1034.out 1
           obtain ⟨Ao45,co45,eo45⟩:=Kd.R_slice HO_1035000.out
           subst eo45
           have hnb46:=NB1032_1033.out
           have hnc46:=NB1033_1032.out
           have hcz47_0:wr.cell? ⟨gb1032,0,none⟩=some (.int .u32 a0_0):=(blk_cell BK1032.out 0).trans rfl
           have hcz47_1:wr.cell? ⟨gb1032,1,none⟩=some (.int .u64 a0_1):=(blk_cell BK1032.out 1).trans rfl
           have hfz47_0:=blk_frozen BK1032.out 0
           have hfz47_1:=blk_frozen BK1032.out 1
           go_wp2
           go_roundg k3
           case measure=>have:=HK1.out;have:=HJ4.out;have:=HK3.out;omega
           case rel=>exact ⟨(wrap64 (x5_3+1)),(x1035001_3),(u1035001),zT,H',⟨by have:=HK1.out;have:=HJ4.out;have:=HK3.out;omega⟩,⟨by refine zr ?_;exact HO_1035000.out⟩,⟨by refine zr ?_;exact HO_1035001.out⟩,⟨by refine zj ?_;exact BK1032.out⟩,⟨by refine zj ?_;exact BK1033.out⟩,⟨by refine zj ?_;exact BK1034.out⟩,⟨by repeat (first|(with_reducible first|exact HB.out|apply below_alloc|apply pw_below_drewN|apply below_drew1|refine below_set ?_ GE1032.out|refine below_set ?_ GE1033.out|refine below_set ?_ GE1034.out)|exact HB.out)⟩⟩
         ·rw [if_neg c29] at H
          exact absurd H (by simp)
        ·rw [if_neg c28] at H
         have c28b0:decide (x5_3<(ji27))=false:=decide_eq_false c28
         clear c28
         simp only [Option.some.injEq,Prod.mk.injEq] at H
         obtain ⟨rfl,rfl⟩:=H
         have hnb48:=NB1034_1032.out
         have hnc48:=NB1032_1034.out
         have hnb49:=NB1034_1033.out
         have hnc49:=NB1033_1034.out
         have hcz50_0:wr.cell? ⟨gb1034,0,none⟩=some (u1035000):=(blk_cell BK1034.out 0).trans rfl
         have hcz50_1:wr.cell? ⟨gb1034,1,none⟩=some (u1035001):=(blk_cell BK1034.out 1).trans rfl
         have hfz50_0:=blk_frozen BK1034.out 0
         have hfz50_1:=blk_frozen BK1034.out 1
         obtain ⟨Ao51,co51,eo51⟩:=Kd.R_slice HO_1035000.out
         subst eo51
         have hnb52:=NB1033_1032.out
         have hnc52:=NB1032_1033.out
         have hcz53_0:wr.cell? ⟨gb1033,0,none⟩=some (.slice none 0 0):=(blk_cell BK1033.out 0).trans rfl
         have hcz53_1:wr.cell? ⟨gb1033,1,none⟩=some (.slice none 0 0):=(blk_cell BK1033.out 1).trans rfl
         have hfz53_0:=blk_frozen BK1033.out 0
         have hfz53_1:=blk_frozen BK1033.out 1
         obtain ⟨Ao54,co54,eo54⟩:=Kd.R_slice HO_1035001.out
         subst eo54
         go_wp2
         refine bodyPost_ret (results_cell_row rfl _ _ gb1033 29 #[.slice Ao51 x1035000_1.length co51,.slice Ao54 x1035001_3.length co54] (0,0) _ rfl (by refine zj ?_;refine blk_put (cs:=#[.slice Ao51 x1035000_1.length co51,.slice none 0 0]) ?_ 1 _ rfl;refine zj ?_;refine blk_put (cs:=#[.slice none 0 0,.slice none 0 0]) ?_ 0 _ rfl;refine zj ?_;exact BK1033.out) Try.underlying29 rfl zK) rfl ?_
         exact ⟨_,_,by first|rfl|(simp [errW_none,errW_some] <;> rfl)|(simp only [← hji27];first|rfl|(simp [errW_none,errW_some] <;> rfl))|(simp [*,errW_none,errW_some] <;> rfl),by refine zr ?_;exact Kd.R_mono (Kd.R_far (p:=⟨gb1033,1,none⟩) (Kd.R_far (p:=⟨gb1033,0,none⟩) (Kd.R_types HO_1035000.out BK1033.out (by decide)) (fun _ hk=>hk.2) (.slice Ao51 x1035000_1.length co51)) (fun _ hk=>hk.2) (.slice Ao54 x1035001_3.length co54)) (fun _ hk=>hk.1),by refine zr ?_;exact Kd.R_mono (Kd.R_far (p:=⟨gb1033,1,none⟩) (Kd.R_far (p:=⟨gb1033,0,none⟩) (Kd.R_types HO_1035001.out BK1033.out (by decide)) (fun _ hk=>hk.2) (.slice Ao51 x1035000_1.length co51)) (fun _ hk=>hk.2) (.slice Ao54 x1035001_3.length co54)) (fun _ hk=>hk.1),by repeat (first|(with_reducible first|exact HB.out|apply below_alloc|apply pw_below_drewN|apply below_drew1|refine below_set ?_ GE1032.out|refine below_set ?_ GE1033.out|refine below_set ?_ GE1034.out)|exact HB.out)⟩
end Go.Proofs.Ythcfmdkhkikbcaa.T
