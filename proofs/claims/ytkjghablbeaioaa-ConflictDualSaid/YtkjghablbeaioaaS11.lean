import Derived.Test.YtkjghablbeaioaaS0
namespace Go.Proofs.Ytkjghablbeaioaa.S
open Go.RowKit Go.Proofs.YtkjghablbeaioaaW.PrintWords Go.Proofs.YtkjghablbeaioaaW.PrintLast Go.Proofs.YtkjghablbeaioaaW.PrintMore
attribute [local go_sem] max2_int min2_int max_two min_two max_three min_three max_four min_four
set_option linter.unusedVariables false
set_option linter.unusedSimpArgs false
mutual
def ancepsref38_Made.l0:Nat→Int→Int→Int→List Int→Option (List Int×List Int)
 | 0,_,_,_,_=>none
 | k+1,x4,x534000,x534001,x536000=>if x4<24 then (if (x536000.length:Int)<6 then (if 0≤x4 then (if (Int.tmod (shr .u32 x534000 x4) 2)=1 then (if x536000.length<17592186044416 then (ancepsref38_Made.l0 k (wrap64 (x4+1)) x534000 x534001 (x536000++[x4])) else (none)) else (ancepsref38_Made.l0 k (wrap64 (x4+1)) x534000 x534001 x536000)) else (none)) else (ancepsref38_Made.l1 k 0 x534000 x534001 x536000 ([]:List Int))) else (ancepsref38_Made.l1 k 0 x534000 x534001 x536000 ([]:List Int))
def ancepsref38_Made.l1:Nat→Int→Int→Int→List Int→List Int→Option (List Int×List Int)
 | 0,_,_,_,_,_=>none
 | k+1,x5,x534000,x534001,x536000,x536001=>if x5<(shl .i64 1 (x536000.length:Int)) then (if 0≤x5 then (if (Int.tmod (shr .u64 x534001 x5) 2)=1 then (if x536001.length<17592186044416 then (ancepsref38_Made.l1 k (wrap64 (x5+1)) x534000 x534001 x536000 (x536001++[x5])) else (none)) else (ancepsref38_Made.l1 k (wrap64 (x5+1)) x534000 x534001 x536000 x536001)) else (none)) else (some (x536000,x536001))
end
def ancepsref38_Made.f (k:Nat) (a0_0:Int) (a0_1:Int):Option (List Int×List Int):=ancepsref38_Made.l0 k 0 a0_0 a0_1 ([]:List Int)
theorem ancepsref38_Made.mono_l:∀ k,(∀ y0 y1 y2 y3,LeO (ancepsref38_Made.l0 k y0 y1 y2 y3) (ancepsref38_Made.l0 (k+1) y0 y1 y2 y3))∧(∀ y0 y1 y2 y3 y4,LeO (ancepsref38_Made.l1 k y0 y1 y2 y3 y4) (ancepsref38_Made.l1 (k+1) y0 y1 y2 y3 y4))
 | 0=>⟨fun _ _ _ _ r h=>by simp [ancepsref38_Made.l0] at h,fun _ _ _ _ _ r h=>by simp [ancepsref38_Made.l1] at h⟩
 | k+1=>by
  obtain ⟨ih0,ih1⟩:=ancepsref38_Made.mono_l k
  refine ⟨?_,?_⟩
  ·intro y0 y1 y2 y3
   unfold ancepsref38_Made.l0
   repeat' first
   | (with_reducible exact ih0 _ _ _ _)
   | (with_reducible exact ih1 _ _ _ _ _)
   | (with_reducible exact LeO.refl _)
   | (with_reducible exact LeO.none _)
   | (with_reducible refine LeO.ite ?_ ?_)
   | (with_reducible refine LeO.bind ?_ (fun _=>?_))
   | exact LeO.none _
   | refine LeO.ite ?_ ?_
   | refine LeO.bind ?_ (fun _=>?_)
  ·intro y0 y1 y2 y3 y4
   unfold ancepsref38_Made.l1
   repeat' first
   | (with_reducible exact ih0 _ _ _ _)
   | (with_reducible exact ih1 _ _ _ _ _)
   | (with_reducible exact LeO.refl _)
   | (with_reducible exact LeO.none _)
   | (with_reducible refine LeO.ite ?_ ?_)
   | (with_reducible refine LeO.bind ?_ (fun _=>?_))
   | exact LeO.none _
   | refine LeO.ite ?_ ?_
   | refine LeO.bind ?_ (fun _=>?_)
theorem ancepsref38_Made.mono:∀ a0 a1 k,LeO (ancepsref38_Made.f k a0 a1) (ancepsref38_Made.f (k+1) a0 a1):=by
 intro a0 a1 k
 obtain ⟨ih0,ih1⟩:=ancepsref38_Made.mono_l k
 unfold ancepsref38_Made.f
 repeat' first
   | (with_reducible exact ih0 _ _ _ _)
   | (with_reducible exact ih1 _ _ _ _ _)
   | (with_reducible exact LeO.refl _)
   | (with_reducible exact LeO.none _)
   | (with_reducible refine LeO.ite ?_ ?_)
   | (with_reducible refine LeO.bind ?_ (fun _=>?_))
   | exact LeO.none _
   | refine LeO.ite ?_ ?_
   | refine LeO.bind ?_ (fun _=>?_)
set_option maxHeartbeats 8000000 in
set_option maxRecDepth 100000 in
theorem ancepsref38_Made.calls (k:Nat) (a0_0:Int) (a0_1:Int) (r1:List Int) (r2:List Int) (w:World) (h:ancepsref38_Made.f k a0_0 a0_1=some (r1,r2)) :
  Calls Try.prog 31 #[.agg #[.int .u32 a0_0,.int .u64 a0_1]] w fun e w'=>∃ v0_ v1_:Value,e=.returned (.agg #[v0_,v1_])∧Kd.R (Kd.int .i64) 3 w' w.heap.size (fun k_=>some k_≠(v1_:Value).ownBlock) v0_ r1∧Kd.R (Kd.int .i64) 3 w' w.heap.size (fun k_=>some k_≠(v0_:Value).ownBlock) v1_ r2∧Below w.heap.size w w':=by
 have hu54:=Try.underlying54
 have hu50:=Try.underlying50
 have hu30:=Try.underlying30
 have hu51:=Try.underlying51
 have hu52:=Try.underlying52
 have HB:=zA (Below.refl w.heap.size w)
 have H:(ancepsref38_Made.l0 k 0 a0_0 a0_1 ([]:List Int))=some (r1,r2):=h
 clear h
 have H':=zA H
 clear H
 go_enter Try.func31,Try.ntmps31
 go_wp2_with (first|((with_reducible refine gate_dst (N:=1) rfl ?_);(try (refine gate_guard (by rfl) ?_;dsimp only));refine box_event ?hg (N:=1) ?hd (cs:=#[.int .u32 a0_0,.int .u64 a0_1]) (t:=54) ?hr ?_;(case hd=>rfl);(case hg=>rfl);(case hr=>first|(go_simp;done)|(go_simp;rfl));intro gb533 hg w2 hbox hb;have BK533:=zA (hbox);have GW533:=zA ((zG hg (below_size zB):w.heap.size≤gb533));have GE533:=zA ((zG hg (below_size zB):w.heap.size≤gb533));replace HB:=zA (below_step zB hb);clear hb hbox hg)|((with_reducible refine gate_dst (N:=2) rfl ?_);(try (refine gate_guard (by rfl) ?_;dsimp only));refine box_event ?hg (N:=2) ?hd (cs:=#[.slice none 0 0,.slice none 0 0]) (t:=50) ?hr ?_;(case hd=>rfl);(case hg=>rfl);(case hr=>first|(go_simp;done)|(go_simp;rfl));intro gb534 hg w3 hbox hb;have BK534:=zA (hbox);have GW534:=zA ((zG hg (below_size zB):w.heap.size≤gb534));have GE534:=zA ((zG hg (below_size zB):w.heap.size≤gb534));have NB533_534:=zA ((zl hg (zk BK533):gb533≠gb534));have NB534_533:=zA ((zg hg (zk BK533):gb534≠gb533));replace BK533:=zA (blk_below (g:=gb533) (o:=.cells #[.int .u32 a0_0,.int .u64 a0_1] 54 (0,0)) (zk BK533) hb);replace HB:=zA (below_step zB hb);clear hb hbox hg)|((with_reducible refine gate_dst (N:=3) rfl ?_);(try (refine gate_guard (by rfl) ?_;dsimp only));refine box_event ?hg (N:=3) ?hd (cs:=#[.slice none 0 0,.slice none 0 0]) (t:=50) ?hr ?_;(case hd=>rfl);(case hg=>rfl);(case hr=>first|(go_simp;done)|(go_simp;rfl));intro gb535 hg w4 hbox hb;have BK535:=zA (hbox);have GW535:=zA ((zG hg (below_size zB):w.heap.size≤gb535));have GE535:=zA ((zG hg (below_size zB):w.heap.size≤gb535));have NB533_535:=zA ((zl hg (zk BK533):gb533≠gb535));have NB535_533:=zA ((zg hg (zk BK533):gb535≠gb533));have NB534_535:=zA ((zl hg (zk BK534):gb534≠gb535));have NB535_534:=zA ((zg hg (zk BK534):gb535≠gb534));replace BK533:=zA (blk_below (g:=gb533) (o:=.cells #[.int .u32 a0_0,.int .u64 a0_1] 54 (0,0)) (zk BK533) hb);replace BK534:=zA (blk_below (g:=gb534) (o:=.cells #[.slice none 0 0,.slice none 0 0] 50 (0,0)) (zk BK534) hb);replace HB:=zA (below_step zB hb);clear hb hbox hg))
 go_loopg [4] k (fun kq v4 w'=>∃ (x4_1:Int) (x536000_1:List Int) (u536000:Value),v4=.int .i64 x4_1∧Aside0 (ancepsref38_Made.l0 kq x4_1 a0_0 a0_1 x536000_1=some (r1,r2))∧Aside0 (kq≤k)∧Aside0 (Kd.R (Kd.int .i64) 3 w' w.heap.size (fun _=>True) u536000 x536000_1)∧Aside0 (w'.heap[gb533]?=some (.cells #[.int .u32 a0_0,.int .u64 a0_1] 54 (0,0)))∧Aside0 (w'.heap[gb534]?=some (.cells #[(.slice none 0 0),(.slice none 0 0)] 50 (0,0)))∧Aside0 (w'.heap[gb535]?=some (.cells #[u536000,(.slice none 0 0)] 50 (0,0)))∧Aside0 (Below w.heap.size w w'))
 case atStart=>exact ⟨(0),(([]:List Int)),(.slice none 0 0),zT,H',⟨Nat.le_refl _⟩,⟨by first|exact Kd.R_nil _ _ _ _ _|exact Kd.N_nil _ _ _ _ _|exact Kd.V_nil _ _ _ _ _|exact Kd.Q_nil _ _ _ _ _|exact Kd.S_nil _ _ _ _ _⟩,⟨by (with_reducible repeat (first|refine blk_drewN ?_ _|refine blk_drew ?_|refine blk_alloc ?_ _));exact BK533.out⟩,⟨by (with_reducible repeat (first|refine blk_drewN ?_ _|refine blk_drew ?_|refine blk_alloc ?_ _));exact BK534.out⟩,⟨by (with_reducible repeat (first|refine blk_drewN ?_ _|refine blk_drew ?_|refine blk_alloc ?_ _));exact BK535.out⟩,⟨by repeat (first|(with_reducible first|exact HB.out|apply below_alloc|apply pw_below_drewN|apply below_drew1|refine below_set ?_ GE533.out|refine below_set ?_ GE534.out|refine below_set ?_ GE535.out)|exact HB.out)⟩⟩
 case round=>
  clear H'
  obtain ⟨x4_1,x536000_1,u536000,rfl,HA,HK1,HO_536000,BK533,BK534,BK535,HB⟩:=hrel
  cases gk with
  | zero=>exact absurd HA.out (by simp [ancepsref38_Made.l0])
  | succ k1=>
   have H:=HA.out
   clear HA
   simp only [ancepsref38_Made.l0] at H
   by_cases c5:x4_1<24
   ·rw [if_pos c5] at H
    have c5b0:decide (x4_1<24)=true:=decide_eq_true c5
    clear c5
    by_cases c6:(x536000_1.length:Int)<6
    ·rw [if_pos c6] at H
     have c6b0:decide ((x536000_1.length:Int)<6)=true:=decide_eq_true c6
     have c6b1:decide (x536000_1.length<6)=true:=decide_eq_true (by omega)
     clear c6
     by_cases c7:0≤x4_1
     ·rw [if_pos c7] at H
      have c7b0:=eq_true c7
      have c7b1:decide (0≤x4_1)=true:=decide_eq_true c7
      clear c7
      obtain ⟨ji8,hji8⟩:∃ j_:Int,(shr .u32 a0_0 x4_1)=j_:=⟨_,rfl⟩
      replace H:(if (Int.tmod (ji8) 2)=1 then (if x536000_1.length<17592186044416 then (ancepsref38_Made.l0 k1 (wrap64 (x4_1+1)) a0_0 a0_1 (x536000_1++[x4_1])) else (none)) else (ancepsref38_Made.l0 k1 (wrap64 (x4_1+1)) a0_0 a0_1 x536000_1))=some (r1,r2):=by first|(rw [hji8] at H;exact H)|(simp only [hji8] at H ⊢;exact H)
      have hji8_:(a0_0 / 2 ^ min x4_1.toNat 32)=ji8:=hji8
      have hji8z:x4_1≤32→(a0_0 / 2 ^ x4_1.toNat)=ji8:=shr_small hji8
      by_cases c9:(Int.tmod (ji8) 2)=1
      ·rw [if_pos c9] at H
       have c9b0:((Int.tmod (ji8) 2) == 1)=true:=beq_iff_eq.mpr c9
       have c9b1:((Int.tmod (ji8) 2) != 1)=false:=bne_eq_false_iff_eq.mpr c9
       clear c9
       by_cases c10:x536000_1.length<17592186044416
       ·rw [if_pos c10] at H
        have LMc10:=zA c10
        clear c10
        obtain ⟨y536,hy536⟩:∃ y_:List Int,y_=(x536000_1++[x4_1]):=⟨_,rfl⟩
        replace H:(ancepsref38_Made.l0 k1 (wrap64 (x4_1+1)) a0_0 a0_1 y536)=some (r1,r2):=by first|(rw [hy536];with_reducible exact H)|(have H2_:=(Option.bind_some _ _).symm.trans H;rw [hy536];with_reducible exact H2_)|(have H2_:=(Option.bind_some _ _).symm.trans H;with_reducible exact H2_)|with_reducible exact H|(rw [hy536];exact H)|exact H
        have Ny536:=zA hy536
        clear hy536
        have H':=zA H
        clear H
        have hnb11:=NB535_533.out
        have hnc11:=NB533_535.out
        have hnb12:=NB535_534.out
        have hnc12:=NB534_535.out
        have hcz13_0:wr.cell? ⟨gb535,0,none⟩=some (u536000):=(blk_cell BK535.out 0).trans rfl
        have hcz13_1:wr.cell? ⟨gb535,1,none⟩=some (.slice none 0 0):=(blk_cell BK535.out 1).trans rfl
        have hfz13_0:=blk_frozen BK535.out 0
        have hfz13_1:=blk_frozen BK535.out 1
        obtain ⟨Ao14,co14,eo14⟩:=Kd.R_slice HO_536000.out
        subst eo14
        have hnb15:=NB533_534.out
        have hnc15:=NB534_533.out
        have hcz16_0:wr.cell? ⟨gb533,0,none⟩=some (.int .u32 a0_0):=(blk_cell BK533.out 0).trans rfl
        have hcz16_1:wr.cell? ⟨gb533,1,none⟩=some (.int .u64 a0_1):=(blk_cell BK533.out 1).trans rfl
        have hfz16_0:=blk_frozen BK533.out 0
        have hfz16_1:=blk_frozen BK533.out 1
        go_wp2_with (first|((with_reducible refine gate_builtin (b:=.append) (xs:=#[.tmp 23,.tmp 25]) rfl ?_);(try (refine gate_guard (by rfl) ?_;dsimp only));at_builtin;refine Kd.R_append (Kd.int .i64) (w0:=w) w.heap.size rfl (.tmp 23) (.tmp 25) 30 3 (.int .i64 0) 8 rfl Try.underlying30 info3 rfl (by decide) (by omega) (.slice Ao14 x536000_1.length co14) x536000_1 x4_1 [.int .i64 x4_1] (fun _=>True) (fun _=>False) rfl rfl ?aP (fun _ hk=>hk.elim) ?aF ?aO ?aB ?aS ?aL ?_;(case aP=>exact rfl);(case aB=>exact zB);(case aF=>exact (fun _ _=>trivial));(case aO=>exact (zR HO_536000));(case aS=>exact (below_size zB));(case aL=>have:=LMc10.out;omega);intro v537 w17 ho hb hg hat;rw [← Ny536.out] at ho;have HO538:=zA (ho);replace BK533:=zA (blk_grown (g:=gb533) (o:=.cells #[.int .u32 a0_0,.int .u64 a0_1] 54 (0,0)) (zk BK533) hg (Kd.R_ne HO_536000.out BK533.out (by decide)));replace BK534:=zA (blk_grown (g:=gb534) (o:=.cells #[.slice none 0 0,.slice none 0 0] 50 (0,0)) (zk BK534) hg (Kd.R_ne HO_536000.out BK534.out (by decide)));replace BK535:=zA (blk_grown (g:=gb535) (o:=.cells #[.slice Ao14 x536000_1.length co14,.slice none 0 0] 50 (0,0)) (zk BK535) hg (Kd.R_ne HO_536000.out BK535.out (by decide)));replace HB:=zA (hb);clear HO_536000;clear ho hb hg hat;obtain ⟨Ao18,co18,eo18⟩:=Kd.R_slice HO538.out;subst eo18;have hcz19_0:w17.cell? ⟨gb535,0,none⟩=some (.slice Ao14 x536000_1.length co14):=(blk_cell BK535.out 0).trans rfl;have hcz19_1:w17.cell? ⟨gb535,1,none⟩=some (.slice none 0 0):=(blk_cell BK535.out 1).trans rfl;have hfz19_0:=blk_frozen BK535.out 0;have hfz19_1:=blk_frozen BK535.out 1))
        go_roundg k1
        case measure=>have:=HK1.out;omega
        case rel=>exact ⟨(wrap64 (x4_1+1)),(y536),(.slice Ao18 y536.length co18),zT,H',⟨by have:=HK1.out;omega⟩,⟨by (with_reducible repeat (first|apply Kd.R_alloc|apply Kd.R_drewN|apply Kd.R_drew));exact Kd.R_mono (Kd.R_far (p:=⟨gb535,0,none⟩) (Kd.R_types HO538.out BK535.out (by decide)) (fun _ hk=>hk.2) (.slice Ao18 y536.length co18)) (fun _ hk=>trivial)⟩,⟨by (with_reducible repeat (first|refine blk_drewN ?_ _|refine blk_drew ?_|refine blk_alloc ?_ _));refine blk_far ?_ NB533_535.out _;(with_reducible repeat (first|refine blk_drewN ?_ _|refine blk_drew ?_|refine blk_alloc ?_ _));exact BK533.out⟩,⟨by (with_reducible repeat (first|refine blk_drewN ?_ _|refine blk_drew ?_|refine blk_alloc ?_ _));refine blk_far ?_ NB534_535.out _;(with_reducible repeat (first|refine blk_drewN ?_ _|refine blk_drew ?_|refine blk_alloc ?_ _));exact BK534.out⟩,⟨by (with_reducible repeat (first|refine blk_drewN ?_ _|refine blk_drew ?_|refine blk_alloc ?_ _));refine blk_put (cs:=#[.slice Ao14 x536000_1.length co14,.slice none 0 0]) ?_ 0 _ rfl;(with_reducible repeat (first|refine blk_drewN ?_ _|refine blk_drew ?_|refine blk_alloc ?_ _));exact BK535.out⟩,⟨by repeat (first|(with_reducible first|exact HB.out|apply below_alloc|apply pw_below_drewN|apply below_drew1|refine below_set ?_ GE533.out|refine below_set ?_ GE534.out|refine below_set ?_ GE535.out)|exact HB.out)⟩⟩
       ·rw [if_neg c10] at H
        exact absurd H (by simp)
      ·rw [if_neg c9] at H
       have c9b0:((Int.tmod (ji8) 2) == 1)=false:=beq_eq_false_iff_ne.mpr c9
       have c9b1:((Int.tmod (ji8) 2) != 1)=true:=bne_iff_ne.mpr c9
       have H':=zA H
       clear H
       have hnb20:=NB535_533.out
       have hnc20:=NB533_535.out
       have hnb21:=NB535_534.out
       have hnc21:=NB534_535.out
       have hcz22_0:wr.cell? ⟨gb535,0,none⟩=some (u536000):=(blk_cell BK535.out 0).trans rfl
       have hcz22_1:wr.cell? ⟨gb535,1,none⟩=some (.slice none 0 0):=(blk_cell BK535.out 1).trans rfl
       have hfz22_0:=blk_frozen BK535.out 0
       have hfz22_1:=blk_frozen BK535.out 1
       obtain ⟨Ao23,co23,eo23⟩:=Kd.R_slice HO_536000.out
       subst eo23
       have hnb24:=NB533_534.out
       have hnc24:=NB534_533.out
       have hcz25_0:wr.cell? ⟨gb533,0,none⟩=some (.int .u32 a0_0):=(blk_cell BK533.out 0).trans rfl
       have hcz25_1:wr.cell? ⟨gb533,1,none⟩=some (.int .u64 a0_1):=(blk_cell BK533.out 1).trans rfl
       have hfz25_0:=blk_frozen BK533.out 0
       have hfz25_1:=blk_frozen BK533.out 1
       go_wp2
       go_roundg k1
       case measure=>have:=HK1.out;omega
       case rel=>exact ⟨(wrap64 (x4_1+1)),(x536000_1),(.slice Ao23 x536000_1.length co23),zT,H',⟨by have:=HK1.out;omega⟩,⟨by (with_reducible repeat (first|apply Kd.R_alloc|apply Kd.R_drewN|apply Kd.R_drew));exact HO_536000.out⟩,⟨by (with_reducible repeat (first|refine blk_drewN ?_ _|refine blk_drew ?_|refine blk_alloc ?_ _));exact BK533.out⟩,⟨by (with_reducible repeat (first|refine blk_drewN ?_ _|refine blk_drew ?_|refine blk_alloc ?_ _));exact BK534.out⟩,⟨by (with_reducible repeat (first|refine blk_drewN ?_ _|refine blk_drew ?_|refine blk_alloc ?_ _));exact BK535.out⟩,⟨by repeat (first|(with_reducible first|exact HB.out|apply below_alloc|apply pw_below_drewN|apply below_drew1|refine below_set ?_ GE533.out|refine below_set ?_ GE534.out|refine below_set ?_ GE535.out)|exact HB.out)⟩⟩
     ·rw [if_neg c7] at H
      exact absurd H (by simp)
    ·rw [if_neg c6] at H
     have c6b0:decide ((x536000_1.length:Int)<6)=false:=decide_eq_false c6
     have c6b1:decide (x536000_1.length<6)=false:=decide_eq_false (by omega)
     clear c6
     have H':=zA H
     clear H
     have hnb26:=NB535_533.out
     have hnc26:=NB533_535.out
     have hnb27:=NB535_534.out
     have hnc27:=NB534_535.out
     have hcz28_0:wr.cell? ⟨gb535,0,none⟩=some (u536000):=(blk_cell BK535.out 0).trans rfl
     have hcz28_1:wr.cell? ⟨gb535,1,none⟩=some (.slice none 0 0):=(blk_cell BK535.out 1).trans rfl
     have hfz28_0:=blk_frozen BK535.out 0
     have hfz28_1:=blk_frozen BK535.out 1
     obtain ⟨Ao29,co29,eo29⟩:=Kd.R_slice HO_536000.out
     subst eo29
     go_wp2
     go_loopg [5] k1 (fun kq v5 w'=>∃ (x5_2:Int) (x536001_2:List Int) (u536001:Value),v5=.int .i64 x5_2∧Aside0 (ancepsref38_Made.l1 kq x5_2 a0_0 a0_1 x536000_1 x536001_2=some (r1,r2))∧Aside0 (kq≤k1)∧Aside0 (Kd.R (Kd.int .i64) 3 w' w.heap.size (fun k_=>some k_≠(u536001:Value).ownBlock) (.slice Ao29 x536000_1.length co29) x536000_1)∧Aside0 (Kd.R (Kd.int .i64) 3 w' w.heap.size (fun k_=>some k_≠((.slice Ao29 x536000_1.length co29):Value).ownBlock) u536001 x536001_2)∧Aside0 (w'.heap[gb533]?=some (.cells #[.int .u32 a0_0,.int .u64 a0_1] 54 (0,0)))∧Aside0 (w'.heap[gb534]?=some (.cells #[(.slice none 0 0),(.slice none 0 0)] 50 (0,0)))∧Aside0 (w'.heap[gb535]?=some (.cells #[(.slice Ao29 x536000_1.length co29),u536001] 50 (0,0)))∧Aside0 (Below w.heap.size w w'))
     case atStart=>exact ⟨(0),(([]:List Int)),(.slice none 0 0),zT,H',⟨Nat.le_refl _⟩,⟨by (with_reducible repeat (first|apply Kd.R_alloc|apply Kd.R_drewN|apply Kd.R_drew));exact Kd.R_mono HO_536000.out (fun _ hk=>(by simp [Value.ownBlock]))⟩,⟨by first|exact Kd.R_nil _ _ _ _ _|exact Kd.N_nil _ _ _ _ _|exact Kd.V_nil _ _ _ _ _|exact Kd.Q_nil _ _ _ _ _|exact Kd.S_nil _ _ _ _ _⟩,⟨by (with_reducible repeat (first|refine blk_drewN ?_ _|refine blk_drew ?_|refine blk_alloc ?_ _));exact BK533.out⟩,⟨by (with_reducible repeat (first|refine blk_drewN ?_ _|refine blk_drew ?_|refine blk_alloc ?_ _));exact BK534.out⟩,⟨by (with_reducible repeat (first|refine blk_drewN ?_ _|refine blk_drew ?_|refine blk_alloc ?_ _));exact BK535.out⟩,⟨by repeat (first|(with_reducible first|exact HB.out|apply below_alloc|apply pw_below_drewN|apply below_drew1|refine below_set ?_ GE533.out|refine below_set ?_ GE534.out|refine below_set ?_ GE535.out)|exact HB.out)⟩⟩
     case round=>
      clear H'
      try clear c5
      try clear c5b0
      try clear c6
      try clear c6b0
      try clear c6b1
      try clear hcz28_0
      try clear hcz28_1
      try clear hfz28_0
      try clear hfz28_1
      obtain ⟨x5_2,x536001_2,u536001,rfl,HA,HK2,HO_536000,HO_536001,BK533,BK534,BK535,HB⟩:=hrel
      cases gk with
      | zero=>exact absurd HA.out (by simp [ancepsref38_Made.l1])
      | succ k2=>
       have H:=HA.out
       clear HA
       simp only [ancepsref38_Made.l1] at H
       obtain ⟨ji30,hji30⟩:∃ j_:Int,(shl .i64 1 (x536000_1.length:Int))=j_:=⟨_,rfl⟩
       replace H:(if x5_2<(ji30) then (if 0≤x5_2 then (if (Int.tmod (shr .u64 a0_1 x5_2) 2)=1 then (if x536001_2.length<17592186044416 then (ancepsref38_Made.l1 k2 (wrap64 (x5_2+1)) a0_0 a0_1 x536000_1 (x536001_2++[x5_2])) else (none)) else (ancepsref38_Made.l1 k2 (wrap64 (x5_2+1)) a0_0 a0_1 x536000_1 x536001_2)) else (none)) else (some (x536000_1,x536001_2)))=some (r1,r2):=by first|(rw [hji30] at H;exact H)|(simp only [hji30] at H ⊢;exact H)
       have hji30_:(IntKind.i64.wrap (1 * 2 ^ min (x536000_1.length:Int).toNat 64))=ji30:=hji30
       have hji30z:(x536000_1.length:Int)≤64→(IntKind.i64.wrap (1 * 2 ^ (x536000_1.length:Int).toNat))=ji30:=shl_small hji30
       have hji30p:(IntKind.i64.wrap (1 * 2 ^ min x536000_1.length 64))=ji30:=hji30_
       have hji30q:(x536000_1.length:Int)≤64→(IntKind.i64.wrap (1 * 2 ^ x536000_1.length))=ji30:=hji30z
       have hji30r:(IntKind.i64.wrap (2 ^ min x536000_1.length 64))=ji30:=by have h_:=hji30p;rw [Int.one_mul] at h_;exact h_
       have hji30s:(x536000_1.length:Int)≤64→(IntKind.i64.wrap (2 ^ x536000_1.length))=ji30:=fun hle_=>by have h_:=hji30q hle_;rw [Int.one_mul] at h_;exact h_
       have hji30u:(IntKind.i64.wrap (2 ^ min (x536000_1.length:Int).toNat 64))=ji30:=by have h_:=hji30_;rw [Int.one_mul] at h_;exact h_
       have hji30v:(x536000_1.length:Int)≤64→(IntKind.i64.wrap (2 ^ (x536000_1.length:Int).toNat))=ji30:=fun hle_=>by have h_:=hji30z hle_;rw [Int.one_mul] at h_;exact h_
       have hji30y:(wrap64 (1 * 2 ^ min (x536000_1.length:Int).toNat 64))=ji30:=(i64_w _).symm.trans hji30_
       have hji30x:(x536000_1.length:Int)≤64→(wrap64 (1 * 2 ^ (x536000_1.length:Int).toNat))=ji30:=fun h_=>(i64_w _).symm.trans (hji30z h_)
       by_cases c31:x5_2<(ji30)
       ·rw [if_pos c31] at H
        have c31b0:decide (x5_2<(ji30))=true:=decide_eq_true c31
        clear c31
        by_cases c32:0≤x5_2
        ·rw [if_pos c32] at H
         have c32b0:=eq_true c32
         have c32b1:decide (0≤x5_2)=true:=decide_eq_true c32
         clear c32
         obtain ⟨ji33,hji33⟩:∃ j_:Int,(shr .u64 a0_1 x5_2)=j_:=⟨_,rfl⟩
         replace H:(if (Int.tmod (ji33) 2)=1 then (if x536001_2.length<17592186044416 then (ancepsref38_Made.l1 k2 (wrap64 (x5_2+1)) a0_0 a0_1 x536000_1 (x536001_2++[x5_2])) else (none)) else (ancepsref38_Made.l1 k2 (wrap64 (x5_2+1)) a0_0 a0_1 x536000_1 x536001_2))=some (r1,r2):=by first|(rw [hji33] at H;exact H)|(simp only [hji33] at H ⊢;exact H)
         have hji33_:(a0_1 / 2 ^ min x5_2.toNat 64)=ji33:=hji33
         have hji33z:x5_2≤64→(a0_1 / 2 ^ x5_2.toNat)=ji33:=shr_small hji33
         by_cases c34:(Int.tmod (ji33) 2)=1
         ·rw [if_pos c34] at H
          have c34b0:((Int.tmod (ji33) 2) == 1)=true:=beq_iff_eq.mpr c34
          have c34b1:((Int.tmod (ji33) 2) != 1)=false:=bne_eq_false_iff_eq.mpr c34
          clear c34
          by_cases c35:x536001_2.length<17592186044416
          ·rw [if_pos c35] at H
           have LMc35:=zA c35
           clear c35
           obtain ⟨y539,hy539⟩:∃ y_:List Int,y_=(x536001_2++[x5_2]):=⟨_,rfl⟩
           replace H:(ancepsref38_Made.l1 k2 (wrap64 (x5_2+1)) a0_0 a0_1 x536000_1 y539)=some (r1,r2):=by first|(rw [hy539];with_reducible exact H)|(have H2_:=(Option.bind_some _ _).symm.trans H;rw [hy539];with_reducible exact H2_)|(have H2_:=(Option.bind_some _ _).symm.trans H;with_reducible exact H2_)|with_reducible exact H|(rw [hy539];exact H)|exact H
           have Ny539:=zA hy539
           clear hy539
           have H':=zA H
           clear H
           have hnb36:=NB535_533.out
           have hnc36:=NB533_535.out
           have hnb37:=NB535_534.out
           have hnc37:=NB534_535.out
           have hcz38_0:wr.cell? ⟨gb535,0,none⟩=some (.slice Ao29 x536000_1.length co29):=(blk_cell BK535.out 0).trans rfl
           have hcz38_1:wr.cell? ⟨gb535,1,none⟩=some (u536001):=(blk_cell BK535.out 1).trans rfl
           have hfz38_0:=blk_frozen BK535.out 0
           have hfz38_1:=blk_frozen BK535.out 1
           have hnb39:=NB533_534.out
           have hnc39:=NB534_533.out
           have hcz40_0:wr.cell? ⟨gb533,0,none⟩=some (.int .u32 a0_0):=(blk_cell BK533.out 0).trans rfl
           have hcz40_1:wr.cell? ⟨gb533,1,none⟩=some (.int .u64 a0_1):=(blk_cell BK533.out 1).trans rfl
           have hfz40_0:=blk_frozen BK533.out 0
           have hfz40_1:=blk_frozen BK533.out 1
           go_wp2_with (first|((with_reducible refine gate_builtin (b:=.append) (xs:=#[.tmp 43,.tmp 45]) rfl ?_);(try (refine gate_guard (by rfl) ?_;dsimp only));at_builtin;refine Kd.R_append (Kd.int .i64) (w0:=w) w.heap.size rfl (.tmp 43) (.tmp 45) 30 3 (.int .i64 0) 8 rfl Try.underlying30 info3 rfl (by decide) (by omega) u536001 x536001_2 x5_2 [.int .i64 x5_2] (fun k_=>some k_≠(.slice Ao29 x536000_1.length co29:Value).ownBlock) (fun _=>False) rfl rfl ?aP (fun _ hk=>hk.elim) ?aF ?aO ?aB ?aS ?aL ?_;(case aP=>exact rfl);(case aB=>exact zB);(case aF=>exact (fun k_ hk=>Kd.fresh' (Kd.R_lt (zR HO_536000)) k_ hk));(case aO=>exact (zR HO_536001));(case aS=>exact (below_size zB));(case aL=>have:=LMc35.out;omega);intro v540 w41 ho hb hg hat;rw [← Ny539.out] at ho;have HO541:=zA (ho);replace HO_536000:=zA (Kd.R_after (ok:=(fun _=>True)) (by (with_reducible repeat (first|apply Kd.R_alloc|apply Kd.R_drewN|apply Kd.R_drew));exact Kd.R_mono HO_536000.out (fun _ hk=>⟨trivial,hk⟩)) hg hat);replace BK533:=zA (blk_grown (g:=gb533) (o:=.cells #[.int .u32 a0_0,.int .u64 a0_1] 54 (0,0)) (zk BK533) hg (Kd.R_ne HO_536001.out BK533.out (by decide)));replace BK534:=zA (blk_grown (g:=gb534) (o:=.cells #[.slice none 0 0,.slice none 0 0] 50 (0,0)) (zk BK534) hg (Kd.R_ne HO_536001.out BK534.out (by decide)));replace BK535:=zA (blk_grown (g:=gb535) (o:=.cells #[.slice Ao29 x536000_1.length co29,u536001] 50 (0,0)) (zk BK535) hg (Kd.R_ne HO_536001.out BK535.out (by decide)));replace HB:=zA (hb);clear HO_536001;clear ho hb hg hat;obtain ⟨Ao42,co42,eo42⟩:=Kd.R_slice HO541.out;subst eo42;have hcz43_0:w41.cell? ⟨gb535,0,none⟩=some (.slice Ao29 x536000_1.length co29):=(blk_cell BK535.out 0).trans rfl;have hcz43_1:w41.cell? ⟨gb535,1,none⟩=some (u536001):=(blk_cell BK535.out 1).trans rfl;have hfz43_0:=blk_frozen BK535.out 0;have hfz43_1:=blk_frozen BK535.out 1))
           go_roundg k2
           case measure=>have:=HK1.out;have:=HK2.out;omega
           case rel=>exact ⟨(wrap64 (x5_2+1)),(y539),(.slice Ao42 y539.length co42),zT,H',⟨by have:=HK1.out;have:=HK2.out;omega⟩,⟨by (with_reducible repeat (first|apply Kd.R_alloc|apply Kd.R_drewN|apply Kd.R_drew));exact Kd.R_mono (Kd.R_far (p:=⟨gb535,1,none⟩) (Kd.R_types HO_536000.out BK535.out (by decide)) (fun _ hk=>hk.2) (.slice Ao42 y539.length co42)) (fun _ hk=>hk.1.2)⟩,⟨by (with_reducible repeat (first|apply Kd.R_alloc|apply Kd.R_drewN|apply Kd.R_drew));exact Kd.R_mono (Kd.R_far (p:=⟨gb535,1,none⟩) (Kd.R_types HO541.out BK535.out (by decide)) (fun _ hk=>hk.2) (.slice Ao42 y539.length co42)) (fun _ hk=>hk.1)⟩,⟨by (with_reducible repeat (first|refine blk_drewN ?_ _|refine blk_drew ?_|refine blk_alloc ?_ _));refine blk_far ?_ NB533_535.out _;(with_reducible repeat (first|refine blk_drewN ?_ _|refine blk_drew ?_|refine blk_alloc ?_ _));exact BK533.out⟩,⟨by (with_reducible repeat (first|refine blk_drewN ?_ _|refine blk_drew ?_|refine blk_alloc ?_ _));refine blk_far ?_ NB534_535.out _;(with_reducible repeat (first|refine blk_drewN ?_ _|refine blk_drew ?_|refine blk_alloc ?_ _));exact BK534.out⟩,⟨by (with_reducible repeat (first|refine blk_drewN ?_ _|refine blk_drew ?_|refine blk_alloc ?_ _));refine blk_put (cs:=#[.slice Ao29 x536000_1.length co29,u536001]) ?_ 1 _ rfl;(with_reducible repeat (first|refine blk_drewN ?_ _|refine blk_drew ?_|refine blk_alloc ?_ _));exact BK535.out⟩,⟨by repeat (first|(with_reducible first|exact HB.out|apply below_alloc|apply pw_below_drewN|apply below_drew1|refine below_set ?_ GE533.out|refine below_set ?_ GE534.out|refine below_set ?_ GE535.out)|exact HB.out)⟩⟩
          ·rw [if_neg c35] at H
           exact absurd H (by simp)
         ·rw [if_neg c34] at H
          have c34b0:((Int.tmod (ji33) 2) == 1)=false:=beq_eq_false_iff_ne.mpr c34
          have c34b1:((Int.tmod (ji33) 2) != 1)=true:=bne_iff_ne.mpr c34
          have H':=zA H
          clear H
          have hnb44:=NB535_533.out
          have hnc44:=NB533_535.out
          have hnb45:=NB535_534.out
          have hnc45:=NB534_535.out
          have hcz46_0:wr.cell? ⟨gb535,0,none⟩=some (.slice Ao29 x536000_1.length co29):=(blk_cell BK535.out 0).trans rfl
          have hcz46_1:wr.cell? ⟨gb535,1,none⟩=some (u536001):=(blk_cell BK535.out 1).trans rfl
          have hfz46_0:=blk_frozen BK535.out 0
          have hfz46_1:=blk_frozen BK535.out 1
          have hnb47:=NB533_534.out
          have hnc47:=NB534_533.out
          have hcz48_0:wr.cell? ⟨gb533,0,none⟩=some (.int .u32 a0_0):=(blk_cell BK533.out 0).trans rfl
          have hcz48_1:wr.cell? ⟨gb533,1,none⟩=some (.int .u64 a0_1):=(blk_cell BK533.out 1).trans rfl
          have hfz48_0:=blk_frozen BK533.out 0
          have hfz48_1:=blk_frozen BK533.out 1
          go_wp2
          go_roundg k2
          case measure=>have:=HK1.out;have:=HK2.out;omega
          case rel=>exact ⟨(wrap64 (x5_2+1)),(x536001_2),(u536001),zT,H',⟨by have:=HK1.out;have:=HK2.out;omega⟩,⟨by (with_reducible repeat (first|apply Kd.R_alloc|apply Kd.R_drewN|apply Kd.R_drew));exact HO_536000.out⟩,⟨by (with_reducible repeat (first|apply Kd.R_alloc|apply Kd.R_drewN|apply Kd.R_drew));exact HO_536001.out⟩,⟨by (with_reducible repeat (first|refine blk_drewN ?_ _|refine blk_drew ?_|refine blk_alloc ?_ _));exact BK533.out⟩,⟨by (with_reducible repeat (first|refine blk_drewN ?_ _|refine blk_drew ?_|refine blk_alloc ?_ _));exact BK534.out⟩,⟨by (with_reducible repeat (first|refine blk_drewN ?_ _|refine blk_drew ?_|refine blk_alloc ?_ _));exact BK535.out⟩,⟨by repeat (first|(with_reducible first|exact HB.out|apply below_alloc|apply pw_below_drewN|apply below_drew1|refine below_set ?_ GE533.out|refine below_set ?_ GE534.out|refine below_set ?_ GE535.out)|exact HB.out)⟩⟩
        ·rw [if_neg c32] at H
         exact absurd H (by simp)
       ·rw [if_neg c31] at H
        have c31b0:decide (x5_2<(ji30))=false:=decide_eq_false c31
        clear c31
        simp only [Option.some.injEq,Prod.mk.injEq] at H
        obtain ⟨rfl,rfl⟩:=H
        have hnb49:=NB535_533.out
        have hnc49:=NB533_535.out
        have hnb50:=NB535_534.out
        have hnc50:=NB534_535.out
        have hcz51_0:wr.cell? ⟨gb535,0,none⟩=some (.slice Ao29 x536000_1.length co29):=(blk_cell BK535.out 0).trans rfl
        have hcz51_1:wr.cell? ⟨gb535,1,none⟩=some (u536001):=(blk_cell BK535.out 1).trans rfl
        have hfz51_0:=blk_frozen BK535.out 0
        have hfz51_1:=blk_frozen BK535.out 1
        have hnb52:=NB534_533.out
        have hnc52:=NB533_534.out
        have hcz53_0:wr.cell? ⟨gb534,0,none⟩=some (.slice none 0 0):=(blk_cell BK534.out 0).trans rfl
        have hcz53_1:wr.cell? ⟨gb534,1,none⟩=some (.slice none 0 0):=(blk_cell BK534.out 1).trans rfl
        have hfz53_0:=blk_frozen BK534.out 0
        have hfz53_1:=blk_frozen BK534.out 1
        obtain ⟨Ao54,co54,eo54⟩:=Kd.R_slice HO_536001.out
        subst eo54
        go_wp2
        refine bodyPost_ret (results_cell_row rfl _ _ gb534 50 #[.slice Ao29 x536000_1.length co29,.slice Ao54 x536001_2.length co54] (0,0) _ rfl (by (with_reducible repeat (first|refine blk_drewN ?_ _|refine blk_drew ?_|refine blk_alloc ?_ _));refine blk_put (cs:=#[.slice Ao29 x536000_1.length co29,.slice none 0 0]) ?_ 1 _ rfl;(with_reducible repeat (first|refine blk_drewN ?_ _|refine blk_drew ?_|refine blk_alloc ?_ _));refine blk_put (cs:=#[.slice none 0 0,.slice none 0 0]) ?_ 0 _ rfl;(with_reducible repeat (first|refine blk_drewN ?_ _|refine blk_drew ?_|refine blk_alloc ?_ _));exact BK534.out) Try.underlying50 rfl zK) rfl ?_
        exact ⟨_,_,by first|rfl|(simp [errW_none,errW_some] <;> rfl)|(simp only [← hji30];first|rfl|(simp [errW_none,errW_some] <;> rfl))|(simp [*,errW_none,errW_some] <;> rfl),by (with_reducible repeat (first|apply Kd.R_alloc|apply Kd.R_drewN|apply Kd.R_drew));exact Kd.R_mono (Kd.R_far (p:=⟨gb534,1,none⟩) (Kd.R_far (p:=⟨gb534,0,none⟩) (Kd.R_types HO_536000.out BK534.out (by decide)) (fun _ hk=>hk.2) (.slice Ao29 x536000_1.length co29)) (fun _ hk=>hk.2) (.slice Ao54 x536001_2.length co54)) (fun _ hk=>hk.1),by (with_reducible repeat (first|apply Kd.R_alloc|apply Kd.R_drewN|apply Kd.R_drew));exact Kd.R_mono (Kd.R_far (p:=⟨gb534,1,none⟩) (Kd.R_far (p:=⟨gb534,0,none⟩) (Kd.R_types HO_536001.out BK534.out (by decide)) (fun _ hk=>hk.2) (.slice Ao29 x536000_1.length co29)) (fun _ hk=>hk.2) (.slice Ao54 x536001_2.length co54)) (fun _ hk=>hk.1),by repeat (first|(with_reducible first|exact HB.out|apply below_alloc|apply pw_below_drewN|apply below_drew1|refine below_set ?_ GE533.out|refine below_set ?_ GE534.out|refine below_set ?_ GE535.out)|exact HB.out)⟩
   ·rw [if_neg c5] at H
    have c5b0:decide (x4_1<24)=false:=decide_eq_false c5
    clear c5
    have H':=zA H
    clear H
    go_wp2
    go_loopg [5] k1 (fun kq v5 w'=>∃ (x5_2:Int) (x536001_2:List Int) (u536001:Value),v5=.int .i64 x5_2∧Aside0 (ancepsref38_Made.l1 kq x5_2 a0_0 a0_1 x536000_1 x536001_2=some (r1,r2))∧Aside0 (kq≤k1)∧Aside0 (Kd.R (Kd.int .i64) 3 w' w.heap.size (fun k_=>some k_≠(u536001:Value).ownBlock) u536000 x536000_1)∧Aside0 (Kd.R (Kd.int .i64) 3 w' w.heap.size (fun k_=>some k_≠(u536000:Value).ownBlock) u536001 x536001_2)∧Aside0 (w'.heap[gb533]?=some (.cells #[.int .u32 a0_0,.int .u64 a0_1] 54 (0,0)))∧Aside0 (w'.heap[gb534]?=some (.cells #[(.slice none 0 0),(.slice none 0 0)] 50 (0,0)))∧Aside0 (w'.heap[gb535]?=some (.cells #[u536000,u536001] 50 (0,0)))∧Aside0 (Below w.heap.size w w'))
    case atStart=>exact ⟨(0),(([]:List Int)),(.slice none 0 0),zT,H',⟨Nat.le_refl _⟩,⟨by (with_reducible repeat (first|apply Kd.R_alloc|apply Kd.R_drewN|apply Kd.R_drew));exact Kd.R_mono HO_536000.out (fun _ hk=>(by simp [Value.ownBlock]))⟩,⟨by first|exact Kd.R_nil _ _ _ _ _|exact Kd.N_nil _ _ _ _ _|exact Kd.V_nil _ _ _ _ _|exact Kd.Q_nil _ _ _ _ _|exact Kd.S_nil _ _ _ _ _⟩,⟨by (with_reducible repeat (first|refine blk_drewN ?_ _|refine blk_drew ?_|refine blk_alloc ?_ _));exact BK533.out⟩,⟨by (with_reducible repeat (first|refine blk_drewN ?_ _|refine blk_drew ?_|refine blk_alloc ?_ _));exact BK534.out⟩,⟨by (with_reducible repeat (first|refine blk_drewN ?_ _|refine blk_drew ?_|refine blk_alloc ?_ _));exact BK535.out⟩,⟨by repeat (first|(with_reducible first|exact HB.out|apply below_alloc|apply pw_below_drewN|apply below_drew1|refine below_set ?_ GE533.out|refine below_set ?_ GE534.out|refine below_set ?_ GE535.out)|exact HB.out)⟩⟩
    case round=>
     clear H'
     try clear c5
     try clear c5b0
     obtain ⟨x5_2,x536001_2,u536001,rfl,HA,HK2,HO_536000,HO_536001,BK533,BK534,BK535,HB⟩:=hrel
     cases gk with
     | zero=>exact absurd HA.out (by simp [ancepsref38_Made.l1])
     | succ k2=>
      have H:=HA.out
      clear HA
      simp only [ancepsref38_Made.l1] at H
      obtain ⟨ji55,hji55⟩:∃ j_:Int,(shl .i64 1 (x536000_1.length:Int))=j_:=⟨_,rfl⟩
      replace H:(if x5_2<(ji55) then (if 0≤x5_2 then (if (Int.tmod (shr .u64 a0_1 x5_2) 2)=1 then (if x536001_2.length<17592186044416 then (ancepsref38_Made.l1 k2 (wrap64 (x5_2+1)) a0_0 a0_1 x536000_1 (x536001_2++[x5_2])) else (none)) else (ancepsref38_Made.l1 k2 (wrap64 (x5_2+1)) a0_0 a0_1 x536000_1 x536001_2)) else (none)) else (some (x536000_1,x536001_2)))=some (r1,r2):=by first|(rw [hji55] at H;exact H)|(simp only [hji55] at H ⊢;exact H)
      have hji55_:(IntKind.i64.wrap (1 * 2 ^ min (x536000_1.length:Int).toNat 64))=ji55:=hji55
      have hji55z:(x536000_1.length:Int)≤64→(IntKind.i64.wrap (1 * 2 ^ (x536000_1.length:Int).toNat))=ji55:=shl_small hji55
      have hji55p:(IntKind.i64.wrap (1 * 2 ^ min x536000_1.length 64))=ji55:=hji55_
      have hji55q:(x536000_1.length:Int)≤64→(IntKind.i64.wrap (1 * 2 ^ x536000_1.length))=ji55:=hji55z
      have hji55r:(IntKind.i64.wrap (2 ^ min x536000_1.length 64))=ji55:=by have h_:=hji55p;rw [Int.one_mul] at h_;exact h_
      have hji55s:(x536000_1.length:Int)≤64→(IntKind.i64.wrap (2 ^ x536000_1.length))=ji55:=fun hle_=>by have h_:=hji55q hle_;rw [Int.one_mul] at h_;exact h_
      have hji55u:(IntKind.i64.wrap (2 ^ min (x536000_1.length:Int).toNat 64))=ji55:=by have h_:=hji55_;rw [Int.one_mul] at h_;exact h_
      have hji55v:(x536000_1.length:Int)≤64→(IntKind.i64.wrap (2 ^ (x536000_1.length:Int).toNat))=ji55:=fun hle_=>by have h_:=hji55z hle_;rw [Int.one_mul] at h_;exact h_
      have hji55y:(wrap64 (1 * 2 ^ min (x536000_1.length:Int).toNat 64))=ji55:=(i64_w _).symm.trans hji55_
      have hji55x:(x536000_1.length:Int)≤64→(wrap64 (1 * 2 ^ (x536000_1.length:Int).toNat))=ji55:=fun h_=>(i64_w _).symm.trans (hji55z h_)
      by_cases c56:x5_2<(ji55)
      ·rw [if_pos c56] at H
       have c56b0:decide (x5_2<(ji55))=true:=decide_eq_true c56
       clear c56
       by_cases c57:0≤x5_2
       ·rw [if_pos c57] at H
        have c57b0:=eq_true c57
        have c57b1:decide (0≤x5_2)=true:=decide_eq_true c57
        clear c57
        obtain ⟨ji58,hji58⟩:∃ j_:Int,(shr .u64 a0_1 x5_2)=j_:=⟨_,rfl⟩
        replace H:(if (Int.tmod (ji58) 2)=1 then (if x536001_2.length<17592186044416 then (ancepsref38_Made.l1 k2 (wrap64 (x5_2+1)) a0_0 a0_1 x536000_1 (x536001_2++[x5_2])) else (none)) else (ancepsref38_Made.l1 k2 (wrap64 (x5_2+1)) a0_0 a0_1 x536000_1 x536001_2))=some (r1,r2):=by first|(rw [hji58] at H;exact H)|(simp only [hji58] at H ⊢;exact H)
        have hji58_:(a0_1 / 2 ^ min x5_2.toNat 64)=ji58:=hji58
        have hji58z:x5_2≤64→(a0_1 / 2 ^ x5_2.toNat)=ji58:=shr_small hji58
        by_cases c59:(Int.tmod (ji58) 2)=1
        ·rw [if_pos c59] at H
         have c59b0:((Int.tmod (ji58) 2) == 1)=true:=beq_iff_eq.mpr c59
         have c59b1:((Int.tmod (ji58) 2) != 1)=false:=bne_eq_false_iff_eq.mpr c59
         clear c59
         by_cases c60:x536001_2.length<17592186044416
         ·rw [if_pos c60] at H
          have LMc60:=zA c60
          clear c60
          obtain ⟨y539,hy539⟩:∃ y_:List Int,y_=(x536001_2++[x5_2]):=⟨_,rfl⟩
          replace H:(ancepsref38_Made.l1 k2 (wrap64 (x5_2+1)) a0_0 a0_1 x536000_1 y539)=some (r1,r2):=by first|(rw [hy539];with_reducible exact H)|(have H2_:=(Option.bind_some _ _).symm.trans H;rw [hy539];with_reducible exact H2_)|(have H2_:=(Option.bind_some _ _).symm.trans H;with_reducible exact H2_)|with_reducible exact H|(rw [hy539];exact H)|exact H
          have Ny539:=zA hy539
          clear hy539
          have H':=zA H
          clear H
          have hnb61:=NB535_533.out
          have hnc61:=NB533_535.out
          have hnb62:=NB535_534.out
          have hnc62:=NB534_535.out
          have hcz63_0:wr.cell? ⟨gb535,0,none⟩=some (u536000):=(blk_cell BK535.out 0).trans rfl
          have hcz63_1:wr.cell? ⟨gb535,1,none⟩=some (u536001):=(blk_cell BK535.out 1).trans rfl
          have hfz63_0:=blk_frozen BK535.out 0
          have hfz63_1:=blk_frozen BK535.out 1
          obtain ⟨Ao64,co64,eo64⟩:=Kd.R_slice HO_536000.out
          subst eo64
          have hnb65:=NB533_534.out
          have hnc65:=NB534_533.out
          have hcz66_0:wr.cell? ⟨gb533,0,none⟩=some (.int .u32 a0_0):=(blk_cell BK533.out 0).trans rfl
          have hcz66_1:wr.cell? ⟨gb533,1,none⟩=some (.int .u64 a0_1):=(blk_cell BK533.out 1).trans rfl
          have hfz66_0:=blk_frozen BK533.out 0
          have hfz66_1:=blk_frozen BK533.out 1
          go_wp2_with (first|((with_reducible refine gate_builtin (b:=.append) (xs:=#[.tmp 43,.tmp 45]) rfl ?_);(try (refine gate_guard (by rfl) ?_;dsimp only));at_builtin;refine Kd.R_append (Kd.int .i64) (w0:=w) w.heap.size rfl (.tmp 43) (.tmp 45) 30 3 (.int .i64 0) 8 rfl Try.underlying30 info3 rfl (by decide) (by omega) u536001 x536001_2 x5_2 [.int .i64 x5_2] (fun k_=>some k_≠(.slice Ao64 x536000_1.length co64:Value).ownBlock) (fun _=>False) rfl rfl ?aP (fun _ hk=>hk.elim) ?aF ?aO ?aB ?aS ?aL ?_;(case aP=>exact rfl);(case aB=>exact zB);(case aF=>exact (fun k_ hk=>Kd.fresh' (Kd.R_lt (zR HO_536000)) k_ hk));(case aO=>exact (zR HO_536001));(case aS=>exact (below_size zB));(case aL=>have:=LMc60.out;omega);intro v540 w67 ho hb hg hat;rw [← Ny539.out] at ho;have HO541:=zA (ho);replace HO_536000:=zA (Kd.R_after (ok:=(fun _=>True)) (by (with_reducible repeat (first|apply Kd.R_alloc|apply Kd.R_drewN|apply Kd.R_drew));exact Kd.R_mono HO_536000.out (fun _ hk=>⟨trivial,hk⟩)) hg hat);replace BK533:=zA (blk_grown (g:=gb533) (o:=.cells #[.int .u32 a0_0,.int .u64 a0_1] 54 (0,0)) (zk BK533) hg (Kd.R_ne HO_536001.out BK533.out (by decide)));replace BK534:=zA (blk_grown (g:=gb534) (o:=.cells #[.slice none 0 0,.slice none 0 0] 50 (0,0)) (zk BK534) hg (Kd.R_ne HO_536001.out BK534.out (by decide)));replace BK535:=zA (blk_grown (g:=gb535) (o:=.cells #[.slice Ao64 x536000_1.length co64,u536001] 50 (0,0)) (zk BK535) hg (Kd.R_ne HO_536001.out BK535.out (by decide)));replace HB:=zA (hb);clear HO_536001;clear ho hb hg hat;obtain ⟨Ao68,co68,eo68⟩:=Kd.R_slice HO541.out;subst eo68;have hcz69_0:w67.cell? ⟨gb535,0,none⟩=some (.slice Ao64 x536000_1.length co64):=(blk_cell BK535.out 0).trans rfl;have hcz69_1:w67.cell? ⟨gb535,1,none⟩=some (u536001):=(blk_cell BK535.out 1).trans rfl;have hfz69_0:=blk_frozen BK535.out 0;have hfz69_1:=blk_frozen BK535.out 1))
          go_roundg k2
          case measure=>have:=HK1.out;have:=HK2.out;omega
          case rel=>exact ⟨(wrap64 (x5_2+1)),(y539),(.slice Ao68 y539.length co68),zT,H',⟨by have:=HK1.out;have:=HK2.out;omega⟩,⟨by (with_reducible repeat (first|apply Kd.R_alloc|apply Kd.R_drewN|apply Kd.R_drew));exact Kd.R_mono (Kd.R_far (p:=⟨gb535,1,none⟩) (Kd.R_types HO_536000.out BK535.out (by decide)) (fun _ hk=>hk.2) (.slice Ao68 y539.length co68)) (fun _ hk=>hk.1.2)⟩,⟨by (with_reducible repeat (first|apply Kd.R_alloc|apply Kd.R_drewN|apply Kd.R_drew));exact Kd.R_mono (Kd.R_far (p:=⟨gb535,1,none⟩) (Kd.R_types HO541.out BK535.out (by decide)) (fun _ hk=>hk.2) (.slice Ao68 y539.length co68)) (fun _ hk=>hk.1)⟩,⟨by (with_reducible repeat (first|refine blk_drewN ?_ _|refine blk_drew ?_|refine blk_alloc ?_ _));refine blk_far ?_ NB533_535.out _;(with_reducible repeat (first|refine blk_drewN ?_ _|refine blk_drew ?_|refine blk_alloc ?_ _));exact BK533.out⟩,⟨by (with_reducible repeat (first|refine blk_drewN ?_ _|refine blk_drew ?_|refine blk_alloc ?_ _));refine blk_far ?_ NB534_535.out _;(with_reducible repeat (first|refine blk_drewN ?_ _|refine blk_drew ?_|refine blk_alloc ?_ _));exact BK534.out⟩,⟨by (with_reducible repeat (first|refine blk_drewN ?_ _|refine blk_drew ?_|refine blk_alloc ?_ _));refine blk_put (cs:=#[.slice Ao64 x536000_1.length co64,u536001]) ?_ 1 _ rfl;(with_reducible repeat (first|refine blk_drewN ?_ _|refine blk_drew ?_|refine blk_alloc ?_ _));exact BK535.out⟩,⟨by repeat (first|(with_reducible first|exact HB.out|apply below_alloc|apply pw_below_drewN|apply below_drew1|refine below_set ?_ GE533.out|refine below_set ?_ GE534.out|refine below_set ?_ GE535.out)|exact HB.out)⟩⟩
         ·rw [if_neg c60] at H
          exact absurd H (by simp)
        ·rw [if_neg c59] at H
         have c59b0:((Int.tmod (ji58) 2) == 1)=false:=beq_eq_false_iff_ne.mpr c59
         have c59b1:((Int.tmod (ji58) 2) != 1)=true:=bne_iff_ne.mpr c59
         have H':=zA H
         clear H
         have hnb70:=NB535_533.out
         have hnc70:=NB533_535.out
         have hnb71:=NB535_534.out
         have hnc71:=NB534_535.out
         have hcz72_0:wr.cell? ⟨gb535,0,none⟩=some (u536000):=(blk_cell BK535.out 0).trans rfl
         have hcz72_1:wr.cell? ⟨gb535,1,none⟩=some (u536001):=(blk_cell BK535.out 1).trans rfl
         have hfz72_0:=blk_frozen BK535.out 0
         have hfz72_1:=blk_frozen BK535.out 1
         obtain ⟨Ao73,co73,eo73⟩:=Kd.R_slice HO_536000.out
         subst eo73
         have hnb74:=NB533_534.out
         have hnc74:=NB534_533.out
         have hcz75_0:wr.cell? ⟨gb533,0,none⟩=some (.int .u32 a0_0):=(blk_cell BK533.out 0).trans rfl
         have hcz75_1:wr.cell? ⟨gb533,1,none⟩=some (.int .u64 a0_1):=(blk_cell BK533.out 1).trans rfl
         have hfz75_0:=blk_frozen BK533.out 0
         have hfz75_1:=blk_frozen BK533.out 1
         go_wp2
         go_roundg k2
         case measure=>have:=HK1.out;have:=HK2.out;omega
         case rel=>exact ⟨(wrap64 (x5_2+1)),(x536001_2),(u536001),zT,H',⟨by have:=HK1.out;have:=HK2.out;omega⟩,⟨by (with_reducible repeat (first|apply Kd.R_alloc|apply Kd.R_drewN|apply Kd.R_drew));exact HO_536000.out⟩,⟨by (with_reducible repeat (first|apply Kd.R_alloc|apply Kd.R_drewN|apply Kd.R_drew));exact HO_536001.out⟩,⟨by (with_reducible repeat (first|refine blk_drewN ?_ _|refine blk_drew ?_|refine blk_alloc ?_ _));exact BK533.out⟩,⟨by (with_reducible repeat (first|refine blk_drewN ?_ _|refine blk_drew ?_|refine blk_alloc ?_ _));exact BK534.out⟩,⟨by (with_reducible repeat (first|refine blk_drewN ?_ _|refine blk_drew ?_|refine blk_alloc ?_ _));exact BK535.out⟩,⟨by repeat (first|(with_reducible first|exact HB.out|apply below_alloc|apply pw_below_drewN|apply below_drew1|refine below_set ?_ GE533.out|refine below_set ?_ GE534.out|refine below_set ?_ GE535.out)|exact HB.out)⟩⟩
       ·rw [if_neg c57] at H
        exact absurd H (by simp)
      ·rw [if_neg c56] at H
       have c56b0:decide (x5_2<(ji55))=false:=decide_eq_false c56
       clear c56
       simp only [Option.some.injEq,Prod.mk.injEq] at H
       obtain ⟨rfl,rfl⟩:=H
       have hnb76:=NB535_533.out
       have hnc76:=NB533_535.out
       have hnb77:=NB535_534.out
       have hnc77:=NB534_535.out
       have hcz78_0:wr.cell? ⟨gb535,0,none⟩=some (u536000):=(blk_cell BK535.out 0).trans rfl
       have hcz78_1:wr.cell? ⟨gb535,1,none⟩=some (u536001):=(blk_cell BK535.out 1).trans rfl
       have hfz78_0:=blk_frozen BK535.out 0
       have hfz78_1:=blk_frozen BK535.out 1
       obtain ⟨Ao79,co79,eo79⟩:=Kd.R_slice HO_536000.out
       subst eo79
       have hnb80:=NB534_533.out
       have hnc80:=NB533_534.out
       have hcz81_0:wr.cell? ⟨gb534,0,none⟩=some (.slice none 0 0):=(blk_cell BK534.out 0).trans rfl
       have hcz81_1:wr.cell? ⟨gb534,1,none⟩=some (.slice none 0 0):=(blk_cell BK534.out 1).trans rfl
       have hfz81_0:=blk_frozen BK534.out 0
       have hfz81_1:=blk_frozen BK534.out 1
       obtain ⟨Ao82,co82,eo82⟩:=Kd.R_slice HO_536001.out
       subst eo82
       go_wp2
       refine bodyPost_ret (results_cell_row rfl _ _ gb534 50 #[.slice Ao79 x536000_1.length co79,.slice Ao82 x536001_2.length co82] (0,0) _ rfl (by (with_reducible repeat (first|refine blk_drewN ?_ _|refine blk_drew ?_|refine blk_alloc ?_ _));refine blk_put (cs:=#[.slice Ao79 x536000_1.length co79,.slice none 0 0]) ?_ 1 _ rfl;(with_reducible repeat (first|refine blk_drewN ?_ _|refine blk_drew ?_|refine blk_alloc ?_ _));refine blk_put (cs:=#[.slice none 0 0,.slice none 0 0]) ?_ 0 _ rfl;(with_reducible repeat (first|refine blk_drewN ?_ _|refine blk_drew ?_|refine blk_alloc ?_ _));exact BK534.out) Try.underlying50 rfl zK) rfl ?_
       exact ⟨_,_,by first|rfl|(simp [errW_none,errW_some] <;> rfl)|(simp only [← hji55];first|rfl|(simp [errW_none,errW_some] <;> rfl))|(simp [*,errW_none,errW_some] <;> rfl),by (with_reducible repeat (first|apply Kd.R_alloc|apply Kd.R_drewN|apply Kd.R_drew));exact Kd.R_mono (Kd.R_far (p:=⟨gb534,1,none⟩) (Kd.R_far (p:=⟨gb534,0,none⟩) (Kd.R_types HO_536000.out BK534.out (by decide)) (fun _ hk=>hk.2) (.slice Ao79 x536000_1.length co79)) (fun _ hk=>hk.2) (.slice Ao82 x536001_2.length co82)) (fun _ hk=>hk.1),by (with_reducible repeat (first|apply Kd.R_alloc|apply Kd.R_drewN|apply Kd.R_drew));exact Kd.R_mono (Kd.R_far (p:=⟨gb534,1,none⟩) (Kd.R_far (p:=⟨gb534,0,none⟩) (Kd.R_types HO_536001.out BK534.out (by decide)) (fun _ hk=>hk.2) (.slice Ao79 x536000_1.length co79)) (fun _ hk=>hk.2) (.slice Ao82 x536001_2.length co82)) (fun _ hk=>hk.1),by repeat (first|(with_reducible first|exact HB.out|apply below_alloc|apply pw_below_drewN|apply below_drew1|refine below_set ?_ GE533.out|refine below_set ?_ GE534.out|refine below_set ?_ GE535.out)|exact HB.out)⟩
def ancepsref40_Made.l0:Nat→List (S54)→List (S50)→Int→Option ((List (S50)))
 | 0,_,_,_=>none
 | k+1,x0,x3,x4=>if x4<(x0.length:Int) then (if x4<6 then (if 0≤x4 then ((ancepsref38_Made.f k (Int.tmod ((rd_T54 x0 x4).f0) 256) ((rd_T54 x0 x4).f1)).bind fun bt544=>(if x3.length<2932031007402 then (ancepsref40_Made.l0 k x0 (x3++[(⟨bt544.1,bt544.2⟩:S50)]) (wrap64 (x4+1))) else (none))) else (none)) else (some x3)) else (some x3)
def ancepsref40_Made.f (k:Nat) (l0:List (S54)):Option ((List (S50))):=ancepsref40_Made.l0 k l0 ([]:List (S50)) 0
theorem ancepsref40_Made.mono_l:∀ k,(∀ y0 y1 y2,LeO (ancepsref40_Made.l0 k y0 y1 y2) (ancepsref40_Made.l0 (k+1) y0 y1 y2))
 | 0=>fun _ _ _ r h=>by simp [ancepsref40_Made.l0] at h
 | k+1=>by
  have ih0:=ancepsref40_Made.mono_l k
  ·intro y0 y1 y2
   unfold ancepsref40_Made.l0
   repeat' first
   | (with_reducible exact ih0 _ _ _)
   | (with_reducible exact ancepsref38_Made.mono _ _ _)
   | (with_reducible exact LeO.refl _)
   | (with_reducible exact LeO.none _)
   | (with_reducible refine LeO.ite ?_ ?_)
   | (with_reducible refine LeO.bind ?_ (fun _=>?_))
   | exact LeO.none _
   | refine LeO.ite ?_ ?_
   | refine LeO.bind ?_ (fun _=>?_)
theorem ancepsref40_Made.mono:∀ a0 k,LeO (ancepsref40_Made.f k a0) (ancepsref40_Made.f (k+1) a0):=by
 intro a0 k
 have ih0:=ancepsref40_Made.mono_l k
 unfold ancepsref40_Made.f
 repeat' first
   | (with_reducible exact ih0 _ _ _)
   | (with_reducible exact ancepsref38_Made.mono _ _ _)
   | (with_reducible exact LeO.refl _)
   | (with_reducible exact LeO.none _)
   | (with_reducible refine LeO.ite ?_ ?_)
   | (with_reducible refine LeO.bind ?_ (fun _=>?_))
   | exact LeO.none _
   | refine LeO.ite ?_ ?_
   | refine LeO.bind ?_ (fun _=>?_)
set_option maxHeartbeats 8000000 in
set_option maxRecDepth 100000 in
theorem ancepsref40_Made.calls (k:Nat) (A0:Option Addr) (c0:Nat) (l0:List (S54)) (r:List (S50)) (w:World) (hr0:Kd.C k54 w A0 l0.length l0) (hc0:l0.length≤c0) (h:ancepsref40_Made.f k l0=some r) :
  Calls Try.prog 25 #[.slice A0 l0.length c0] w fun e w'=>∃ v0_:Value,e=.returned (v0_)∧Kd.S k50 50 w' w.heap.size (fun _=>True) v0_ r∧Below w.heap.size w w':=by
 have hu54:=Try.underlying54
 have hu51:=Try.underlying51
 have HR0:=zA hr0
 have HC0:=zA hc0
 clear hr0 hc0
 have HB:=zA (Below.refl w.heap.size w)
 have H:(ancepsref40_Made.l0 k l0 ([]:List (S50)) 0)=some r:=h
 clear h
 have H':=zA H
 clear H
 go_enter Try.func25,Try.ntmps25
 go_wp2
 go_loopg [3,4] k (fun kq v3 v4 w'=>∃ (x3_1:List (S50)) (x4_1:Int),v4=.int .i64 x4_1∧Aside0 (ancepsref40_Made.l0 kq l0 x3_1 x4_1=some r)∧Aside0 (kq≤k)∧Aside0 (Kd.S k50 50 w' w.heap.size (fun _=>True) v3 x3_1)∧Aside0 (Below w.heap.size w w'))
 case atStart=>exact ⟨(([]:List (S50))),(0),zT,H',⟨Nat.le_refl _⟩,⟨by first|exact Kd.S_nil _ _ _ _ _|exact Kd.N_nil _ _ _ _ _|exact Kd.V_nil _ _ _ _ _|exact Kd.Q_nil _ _ _ _ _|exact Kd.R_nil _ _ _ _ _⟩,⟨by repeat (first|(with_reducible first|exact HB.out|apply below_alloc|apply pw_below_drewN|apply below_drew1)|exact HB.out)⟩⟩
 case round=>
  clear H'
  obtain ⟨x3_1,x4_1,rfl,HA,HK1,HO_3,HB⟩:=hrel
  cases gk with
  | zero=>exact absurd HA.out (by simp [ancepsref40_Made.l0])
  | succ k1=>
   have H:=HA.out
   clear HA
   simp only [ancepsref40_Made.l0] at H
   by_cases c2:x4_1<(l0.length:Int)
   ·rw [if_pos c2] at H
    have c2b0:decide (x4_1<(l0.length:Int))=true:=decide_eq_true c2
    clear c2
    by_cases c3:x4_1<6
    ·rw [if_pos c3] at H
     have c3b0:decide (x4_1<6)=true:=decide_eq_true c3
     clear c3
     by_cases c4:0≤x4_1
     ·rw [if_pos c4] at H
      have c4b0:decide (0≤x4_1)=true:=decide_eq_true c4
      clear c4
      replace H:=Option.bind_eq_some_iff.mp H
      obtain ⟨⟨t544,t547⟩,A50,H⟩:=H
      replace H:(if x3_1.length<2932031007402 then (ancepsref40_Made.l0 k1 l0 (x3_1++[(⟨t544,t547⟩:S50)]) (wrap64 (x4_1+1))) else (none))=some r:=H
      have A5:=zA A50
      clear A50
      by_cases c6:x3_1.length<2932031007402
      ·rw [if_pos c6] at H
       have LMc6:=zA c6
       clear c6
       obtain ⟨y550,hy550⟩:∃ y_:List (S50),y_=(x3_1++[(⟨t544,t547⟩:S50)]):=⟨_,rfl⟩
       replace H:(ancepsref40_Made.l0 k1 l0 y550 (wrap64 (x4_1+1)))=some r:=by first|(rw [hy550];with_reducible exact H)|(have H2_:=(Option.bind_some _ _).symm.trans H;rw [hy550];with_reducible exact H2_)|(have H2_:=(Option.bind_some _ _).symm.trans H;with_reducible exact H2_)|with_reducible exact H|(rw [hy550];exact H)|exact H
       have Ny550:=zA hy550
       clear hy550
       have H':=zA H
       clear H
       have p542:0≤(x4_1:Int):=of_decide_eq_true zh
       have q542:x4_1<(l0.length:Int):=of_decide_eq_true zh
       obtain ⟨ad542,e542,hx542_0,hx542_1⟩:=at_T54 HR0.out x4_1 p542 q542
       cases e542
       replace hx542_0:=(HB.out.cell (World.block_lt_of_cell? w _ hx542_0)).trans hx542_0
       replace hx542_1:=(HB.out.cell (World.block_lt_of_cell? w _ hx542_1)).trans hx542_1
       replace p542:=eq_true p542
       replace q542:=eq_true q542
       go_wp2_with (first|((with_reducible refine gate_dst (N:=5) rfl ?_);refine box_event ?hg (N:=5) ?hd (cs:=#[.int .u32 0,.int .u64 0]) (t:=54) ?hr ?_;(case hd=>rfl);(case hg=>rfl);(case hr=>first|(go_simp;done)|(go_simp;rfl));intro gb543 hg w7 hbox hb;have BK543:=zA (hbox);have GW543:=zA ((zG hg (below_size zB):w.heap.size≤gb543));have GE543:=zA ((zG hg (below_size zB):w.heap.size≤gb543));replace HO_3:=zA (Kd.S_below (zS HO_3) hb);replace HB:=zA (below_step zB hb);clear hb hbox hg;have hcz8_0:w7.cell? ⟨gb543,0,none⟩=some (.int .u32 0):=(blk_cell BK543.out 0).trans rfl;have hcz8_1:w7.cell? ⟨gb543,1,none⟩=some (.int .u64 0):=(blk_cell BK543.out 1).trans rfl;have hfz8_0:=blk_frozen BK543.out 0;have hfz8_1:=blk_frozen BK543.out 1)|((with_reducible refine gate_callee (f:=31) rfl ?_);refine goesL_ (some 26) rfl rfl Try.func31 zK rfl #[.agg #[.int .u32 (Int.tmod ((rd_T54 l0 x4_1).f0) 256),.int .u64 ((rd_T54 l0 x4_1).f1)]] rfl zM ?_;(with_reducible refine (ancepsref38_Made.calls k1 (Int.tmod ((rd_T54 l0 x4_1).f0) 256) ((rd_T54 l0 x4_1).f1) t544 t547 _ A5.out).mono ?_);rintro e w9 ⟨v545,v548,rfl,ho0,ho1,hb⟩;refine ⟨_,rfl,?_⟩;have HO546:=zA (Kd.R_lower ho0 (below_size zB));have HO549:=zA (Kd.R_lower ho1 (below_size zB));replace HO_3:=zA (Kd.S_mono (Kd.S_told (Kd.S_told (Kd.S_old (by (with_reducible repeat (first|apply Kd.S_alloc|apply Kd.S_drewN|apply Kd.S_drew));exact (Kd.S_mono (Kd.S_far (p:=⟨gb543,0,none⟩) (Kd.S_far (p:=⟨gb543,1,none⟩) (Kd.S_far (p:=⟨gb543,0,none⟩) (Kd.S_types HO_3.out BK543.out (by decide)) (fun _ hk=>hk.2) (.int .u32 ((rd_T54 l0 x4_1).f0))) (fun _ hk=>hk.2) (.int .u64 ((rd_T54 l0 x4_1).f1))) (fun _ hk=>hk.2) (.int .u32 (Int.tmod ((rd_T54 l0 x4_1).f0) 256))) (fun _ h_=>h_.1))) hb) (Kd.R_base ho0)) (Kd.R_base ho1)) (fun _ h_=>h_.1));replace BK543:=zA (blk_below (g:=gb543) (o:=.cells #[.int .u32 (Int.tmod ((rd_T54 l0 x4_1).f0) 256),.int .u64 ((rd_T54 l0 x4_1).f1)] 54 (0,0)) (by (with_reducible repeat (first|refine blk_drewN ?_ _|refine blk_drew ?_|refine blk_alloc ?_ _));refine blk_put (cs:=#[.int .u32 ((rd_T54 l0 x4_1).f0),.int .u64 ((rd_T54 l0 x4_1).f1)]) ?_ 0 _ rfl;(with_reducible repeat (first|refine blk_drewN ?_ _|refine blk_drew ?_|refine blk_alloc ?_ _));refine blk_put (cs:=#[.int .u32 ((rd_T54 l0 x4_1).f0),.int .u64 0]) ?_ 1 _ rfl;(with_reducible repeat (first|refine blk_drewN ?_ _|refine blk_drew ?_|refine blk_alloc ?_ _));refine blk_put (cs:=#[.int .u32 0,.int .u64 0]) ?_ 0 _ rfl;(with_reducible repeat (first|refine blk_drewN ?_ _|refine blk_drew ?_|refine blk_alloc ?_ _));exact BK543.out) hb);replace HB:=zA (below_step zB hb);(try clear hb);(try clear hb2);(try clear hk);(try clear hi);(try clear ho0);(try clear ho1);obtain ⟨Ao11,co11,eo11⟩:=Kd.R_slice HO546.out;subst eo11;obtain ⟨Ao12,co12,eo12⟩:=Kd.R_slice HO549.out;subst eo12)|((with_reducible refine gate_builtin (b:=.append) (xs:=#[.tmp 24,.tmp 27]) rfl ?_);at_builtin;refine Kd.S_append k50 (w0:=w) w.heap.size rfl (.tmp 24) (.tmp 27) 22 50 (.agg #[(.slice none 0 0),(.slice none 0 0)]) 48 rfl Try.underlying22 info50 rfl (by decide) (by omega) u3 x3_1 (⟨t544,t547⟩:S50) [.slice Ao11 t544.length co11,.slice Ao12 t547.length co12] (fun _=>True) (fun k_=>some k_=(.slice Ao11 t544.length co11:Value).ownBlock∨some k_=(.slice Ao12 t547.length co12:Value).ownBlock) rfl rfl ?aP (fun k_ hk_=>hk_.elim (fun h_=>((Kd.R_mono (ok':=fun k_=>((fun _=>True)) k_∧some k_≠(u3:Value).ownBlock) (Kd.R_apart' (HO546.out) (Kd.S_typed HO_3.out) (by decide)) (fun k_ hk=>⟨trivial,hk.2⟩))).1 k_ h_.symm) (fun h_=>((Kd.R_mono (ok':=fun k_=>((fun _=>True)) k_∧some k_≠(u3:Value).ownBlock) (Kd.R_apart' (HO549.out) (Kd.S_typed HO_3.out) (by decide)) (fun k_ hk=>⟨trivial,hk.2⟩))).1 k_ h_.symm)) ?aF ?aO ?aB ?aS ?aL ?_;(case aP=>exact k50_mkM _ _ _ (⟨t544,t547⟩:S50) (Kd.R_mono (Kd.R_tight rfl (Kd.R_mono (ok':=fun k_=>((fun _=>True)) k_∧some k_≠(u3:Value).ownBlock) (Kd.R_apart' (HO546.out) (Kd.S_typed HO_3.out) (by decide)) (fun k_ hk=>⟨trivial,hk.2⟩))) (fun _ h_=>Or.inl h_)) (Kd.R_mono (Kd.R_tight rfl (Kd.R_mono (ok':=fun k_=>((fun _=>True)) k_∧some k_≠(u3:Value).ownBlock) (Kd.R_apart' (HO549.out) (Kd.S_typed HO_3.out) (by decide)) (fun k_ hk=>⟨trivial,hk.2⟩))) (fun _ h_=>Or.inr (h_))));(case aB=>exact zB);(case aF=>exact (fun _ _=>trivial));(case aO=>exact (by (with_reducible repeat (first|apply Kd.S_alloc|apply Kd.S_drewN|apply Kd.S_drew));exact Kd.S_mono HO_3.out (fun k_ hk=>⟨trivial,fun e_=>e_.elim (fun h_=>hk.1.2 h_) (fun h_=>hk.2 h_)⟩)));(case aS=>exact (below_size zB));(case aL=>have:=LMc6.out;omega);intro v551 w10 ho hb hg hat;rw [← Ny550.out] at ho;have HO552:=zA (ho);replace BK543:=zA (blk_grown (g:=gb543) (o:=.cells #[.int .u32 (Int.tmod ((rd_T54 l0 x4_1).f0) 256),.int .u64 ((rd_T54 l0 x4_1).f1)] 54 (0,0)) (zk BK543) hg (Kd.S_ne HO_3.out BK543.out (by decide)));replace HB:=zA (hb);clear HO_3 HO546 HO549;clear ho hb hg hat))
       go_roundg k1
       case measure=>have:=HK1.out;omega
       case rel=>exact ⟨(y550),(wrap64 (x4_1+1)),zT,H',⟨by have:=HK1.out;omega⟩,⟨by (with_reducible repeat (first|apply Kd.S_alloc|apply Kd.S_drewN|apply Kd.S_drew));exact HO552.out⟩,⟨by repeat (first|(with_reducible first|exact HB.out|apply below_alloc|apply pw_below_drewN|apply below_drew1|refine below_set ?_ GE543.out)|exact HB.out)⟩⟩
      ·rw [if_neg c6] at H
       exact absurd H (by simp)
     ·rw [if_neg c4] at H
      exact absurd H (by simp)
    ·rw [if_neg c3] at H
     have c3b0:decide (x4_1<6)=false:=decide_eq_false c3
     clear c3
     obtain rfl:=Option.some.inj H
     go_wp2
     go_ret
     exact ⟨_,by first|rfl|(simp [errW_none,errW_some] <;> rfl)|(simp [*,errW_none,errW_some] <;> rfl),by (with_reducible repeat (first|apply Kd.S_alloc|apply Kd.S_drewN|apply Kd.S_drew));exact HO_3.out,by repeat (first|(with_reducible first|exact HB.out|apply below_alloc|apply pw_below_drewN|apply below_drew1)|exact HB.out)⟩
   ·rw [if_neg c2] at H
    have c2b0:decide (x4_1<(l0.length:Int))=false:=decide_eq_false c2
    clear c2
    obtain rfl:=Option.some.inj H
    go_wp2
    go_ret
    exact ⟨_,by first|rfl|(simp [errW_none,errW_some] <;> rfl)|(simp [*,errW_none,errW_some] <;> rfl),by (with_reducible repeat (first|apply Kd.S_alloc|apply Kd.S_drewN|apply Kd.S_drew));exact HO_3.out,by repeat (first|(with_reducible first|exact HB.out|apply below_alloc|apply pw_below_drewN|apply below_drew1)|exact HB.out)⟩
end Go.Proofs.Ytkjghablbeaioaa.S
