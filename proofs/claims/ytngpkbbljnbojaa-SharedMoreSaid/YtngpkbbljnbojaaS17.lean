import Derived.Test.YtngpkbbljnbojaaS0
import Derived.Test.YtngpkbbljnbojaaS5
import Derived.Test.YtngpkbbljnbojaaS11
import Derived.Test.YtngpkbbljnbojaaS12
namespace Go.Proofs.Ytngpkbbljnbojaa.S
open Go.RowKit Go.Proofs.YtngpkbbljnbojaaW.PrintWords Go.Proofs.YtngpkbbljnbojaaW.PrintLast Go.Proofs.YtngpkbbljnbojaaW.PrintMore
attribute [local go_sem] max2_int min2_int max_two min_two max_three min_three max_four min_four
set_option linter.unusedVariables false
set_option linter.unusedSimpArgs false
mutual
def ancepsref38_Made.l0:Nat→Int→Int→Int→List Int→Option (List Int×List Int)
 | 0,_,_,_,_=>none
 | k+1,x4,x781000,x781001,x783000=>if x4<24 then (if (x783000.length:Int)<6 then (if 0≤x4 then (if (Int.tmod (shr .u32 x781000 x4) 2)=1 then (if x783000.length<17592186044416 then (ancepsref38_Made.l0 k (wrap64 (x4+1)) x781000 x781001 (x783000++[x4])) else (none)) else (ancepsref38_Made.l0 k (wrap64 (x4+1)) x781000 x781001 x783000)) else (none)) else (ancepsref38_Made.l1 k 0 x781000 x781001 x783000 ([]:List Int))) else (ancepsref38_Made.l1 k 0 x781000 x781001 x783000 ([]:List Int))
def ancepsref38_Made.l1:Nat→Int→Int→Int→List Int→List Int→Option (List Int×List Int)
 | 0,_,_,_,_,_=>none
 | k+1,x5,x781000,x781001,x783000,x783001=>if x5<(shl .i64 1 (x783000.length:Int)) then (if 0≤x5 then (if (Int.tmod (shr .u64 x781001 x5) 2)=1 then (if x783001.length<17592186044416 then (ancepsref38_Made.l1 k (wrap64 (x5+1)) x781000 x781001 x783000 (x783001++[x5])) else (none)) else (ancepsref38_Made.l1 k (wrap64 (x5+1)) x781000 x781001 x783000 x783001)) else (none)) else (some (x783000,x783001))
end
def ancepsref38_Made.f (k:Nat) (a0_0:Int) (a0_1:Int):Option (List Int×List Int):=ancepsref38_Made.l0 k 0 a0_0 a0_1 ([]:List Int)
theorem ancepsref38_Made.mono_l:∀ k,(∀ y0 y1 y2 y3,LeO (ancepsref38_Made.l0 k y0 y1 y2 y3) (ancepsref38_Made.l0 (k+1) y0 y1 y2 y3))∧(∀ y0 y1 y2 y3 y4,LeO (ancepsref38_Made.l1 k y0 y1 y2 y3 y4) (ancepsref38_Made.l1 (k+1) y0 y1 y2 y3 y4))
 | 0=>⟨fun _ _ _ _ r h=>by simp [ancepsref38_Made.l0] at h,fun _ _ _ _ _ r h=>by simp [ancepsref38_Made.l1] at h⟩
 | k+1=>by
  obtain ⟨ih0,ih1⟩:=ancepsref38_Made.mono_l k
  refine ⟨?_,?_⟩
  ·intro y0 y1 y2 y3
   unfold ancepsref38_Made.l0
   repeat' first
   | (with_reducible exact ih0 _ _ _ _)
   | (with_reducible exact ih1 _ _ _ _ _)
   | (with_reducible exact LeO.refl _)
   | (with_reducible exact LeO.none _)
   | (with_reducible refine LeO.ite ?_ ?_)
   | (with_reducible refine LeO.bind ?_ (fun _=>?_))
   | exact LeO.none _
   | refine LeO.ite ?_ ?_
   | refine LeO.bind ?_ (fun _=>?_)
  ·intro y0 y1 y2 y3 y4
   unfold ancepsref38_Made.l1
   repeat' first
   | (with_reducible exact ih0 _ _ _ _)
   | (with_reducible exact ih1 _ _ _ _ _)
   | (with_reducible exact LeO.refl _)
   | (with_reducible exact LeO.none _)
   | (with_reducible refine LeO.ite ?_ ?_)
   | (with_reducible refine LeO.bind ?_ (fun _=>?_))
   | exact LeO.none _
   | refine LeO.ite ?_ ?_
   | refine LeO.bind ?_ (fun _=>?_)
theorem ancepsref38_Made.mono:∀ a0 a1 k,LeO (ancepsref38_Made.f k a0 a1) (ancepsref38_Made.f (k+1) a0 a1):=by
 intro a0 a1 k
 obtain ⟨ih0,ih1⟩:=ancepsref38_Made.mono_l k
 unfold ancepsref38_Made.f
 repeat' first
   | (with_reducible exact ih0 _ _ _ _)
   | (with_reducible exact ih1 _ _ _ _ _)
   | (with_reducible exact LeO.refl _)
   | (with_reducible exact LeO.none _)
   | (with_reducible refine LeO.ite ?_ ?_)
   | (with_reducible refine LeO.bind ?_ (fun _=>?_))
   | exact LeO.none _
   | refine LeO.ite ?_ ?_
   | refine LeO.bind ?_ (fun _=>?_)
set_option maxHeartbeats 8000000 in
set_option maxRecDepth 100000 in
theorem ancepsref38_Made.calls (k:Nat) (a0_0:Int) (a0_1:Int) (r1:List Int) (r2:List Int) (w:World) (h:ancepsref38_Made.f k a0_0 a0_1=some (r1,r2)) :
  Calls Try.prog 19 #[.agg #[.int .u32 a0_0,.int .u64 a0_1]] w fun e w'=>∃ v0_ v1_:Value,e=.returned (.agg #[v0_,v1_])∧Kd.R (Kd.int .i64) 3 w' w.heap.size (fun k_=>some k_≠(v1_:Value).ownBlock) v0_ r1∧Kd.R (Kd.int .i64) 3 w' w.heap.size (fun k_=>some k_≠(v0_:Value).ownBlock) v1_ r2∧Below w.heap.size w w':=by
 have hu46:=Try.underlying46
 have hu34:=Try.underlying34
 have hu29:=Try.underlying29
 have hu43:=Try.underlying43
 have hu44:=Try.underlying44
 have HB:=zA (Below.refl w.heap.size w)
 have H:(ancepsref38_Made.l0 k 0 a0_0 a0_1 ([]:List Int))=some (r1,r2):=h
 clear h
 have H':=zA H
 clear H
 go_enter Try.func19,Try.ntmps19
 go_wp2_with (first|((with_reducible refine gate_dst (N:=1) rfl ?_);(try (refine gate_guard (by rfl) ?_;dsimp only));refine box_event ?hg (N:=1) ?hd (cs:=#[.int .u32 a0_0,.int .u64 a0_1]) (t:=46) ?hr ?_;(case hd=>rfl);(case hg=>rfl);(case hr=>first|(go_simp;done)|(go_simp;rfl));intro gb780 hg w2 hbox hb;have BK780:=zA (hbox);have GW780:=zA (zG hg (below_size zB):w.heap.size≤gb780);have GE780:=GW780;replace HB:=zA (below_step zB hb);clear hb hbox hg)|((with_reducible refine gate_dst (N:=2) rfl ?_);(try (refine gate_guard (by rfl) ?_;dsimp only));refine box_event ?hg (N:=2) ?hd (cs:=#[.slice none 0 0,.slice none 0 0]) (t:=34) ?hr ?_;(case hd=>rfl);(case hg=>rfl);(case hr=>first|(go_simp;done)|(go_simp;rfl));intro gb781 hg w3 hbox hb;have BK781:=zA (hbox);have GW781:=zA (zG hg (below_size zB):w.heap.size≤gb781);have GE781:=GW781;have NB780_781:=zA ((zl hg (zk BK780):gb780≠gb781));have NB781_780:=zA ((zg hg (zk BK780):gb781≠gb780));replace BK780:=zA (zb BK780 hb);replace HB:=zA (below_step zB hb);clear hb hbox hg)|((with_reducible refine gate_dst (N:=3) rfl ?_);(try (refine gate_guard (by rfl) ?_;dsimp only));refine box_event ?hg (N:=3) ?hd (cs:=#[.slice none 0 0,.slice none 0 0]) (t:=34) ?hr ?_;(case hd=>rfl);(case hg=>rfl);(case hr=>first|(go_simp;done)|(go_simp;rfl));intro gb782 hg w4 hbox hb;have BK782:=zA (hbox);have GW782:=zA (zG hg (below_size zB):w.heap.size≤gb782);have GE782:=GW782;have NB780_782:=zA ((zl hg (zk BK780):gb780≠gb782));have NB782_780:=zA ((zg hg (zk BK780):gb782≠gb780));have NB781_782:=zA ((zl hg (zk BK781):gb781≠gb782));have NB782_781:=zA ((zg hg (zk BK781):gb782≠gb781));replace BK780:=zA (zb BK780 hb);replace BK781:=zA (zb BK781 hb);replace HB:=zA (below_step zB hb);clear hb hbox hg))
 go_loopg [4] k (fun kq v4 w'=>∃ (x4_1:Int) (x783000_1:List Int) (u783000:Value),v4=.int .i64 x4_1∧Aside0 (ancepsref38_Made.l0 kq x4_1 a0_0 a0_1 x783000_1=some (r1,r2))∧Aside0 (kq≤k)∧Aside0 (Kd.R (Kd.int .i64) 3 w' w.heap.size (fun _=>True) u783000 x783000_1)∧Aside0 (w'.heap[gb780]?=some (.cells #[.int .u32 a0_0,.int .u64 a0_1] 46 (0,0)))∧Aside0 (w'.heap[gb781]?=some (.cells #[(.slice none 0 0),(.slice none 0 0)] 34 (0,0)))∧Aside0 (w'.heap[gb782]?=some (.cells #[u783000,(.slice none 0 0)] 34 (0,0)))∧Aside0 (Below w.heap.size w w'))
 case atStart=>exact ⟨(0),(([]:List Int)),(.slice none 0 0),zT,H',⟨Nat.le_refl _⟩,⟨by first|exact Kd.R_nil _ _ _ _ _|exact Kd.N_nil _ _ _ _ _|exact Kd.V_nil _ _ _ _ _|exact Kd.Q_nil _ _ _ _ _|exact Kd.S_nil _ _ _ _ _⟩,⟨by refine zj ?_;exact BK780.out⟩,⟨by refine zj ?_;exact BK781.out⟩,⟨by refine zj ?_;exact BK782.out⟩,⟨by repeat (first|(with_reducible first|exact HB.out|apply below_alloc|apply pw_below_drewN|apply below_drew1|refine below_set ?_ GE780.out|refine below_set ?_ GE781.out|refine below_set ?_ GE782.out)|exact HB.out)⟩⟩
 case round=>
  clear H'
  obtain ⟨x4_1,x783000_1,u783000,rfl,HA,HK1,HO_783000,BK780,BK781,BK782,HB⟩:=hrel
  cases gk with
  | zero=>exact absurd HA.out (by simp [ancepsref38_Made.l0])
  | succ k1=>
   have H:=HA.out
   clear HA
   simp only [ancepsref38_Made.l0] at H
   by_cases c5:x4_1<24
   ·rw [if_pos c5] at H
    have c5b0:decide (x4_1<24)=true:=decide_eq_true c5
    clear c5
    by_cases c6:(x783000_1.length:Int)<6
    ·rw [if_pos c6] at H
     have c6b0:decide ((x783000_1.length:Int)<6)=true:=decide_eq_true c6
     have c6b1:decide (x783000_1.length<6)=true:=decide_eq_true (by omega)
     clear c6
     by_cases c7:0≤x4_1
     ·rw [if_pos c7] at H
      have c7b0:=eq_true c7
      have c7b1:decide (0≤x4_1)=true:=decide_eq_true c7
      clear c7
      obtain ⟨ji8,hji8⟩:∃ j_:Int,(shr .u32 a0_0 x4_1)=j_:=⟨_,rfl⟩
      replace H:(if (Int.tmod (ji8) 2)=1 then (if x783000_1.length<17592186044416 then (ancepsref38_Made.l0 k1 (wrap64 (x4_1+1)) a0_0 a0_1 (x783000_1++[x4_1])) else (none)) else (ancepsref38_Made.l0 k1 (wrap64 (x4_1+1)) a0_0 a0_1 x783000_1))=some (r1,r2):=by first|(rw [hji8] at H;exact H)|(simp only [hji8] at H ⊢;exact H)
      have hji8_:(a0_0 / 2 ^ min x4_1.toNat 32)=ji8:=hji8
      have hji8z:x4_1≤32→(a0_0 / 2 ^ x4_1.toNat)=ji8:=shr_small hji8
      by_cases c9:(Int.tmod (ji8) 2)=1
      ·rw [if_pos c9] at H
       have c9b0:((Int.tmod (ji8) 2) == 1)=true:=beq_iff_eq.mpr c9
       have c9b1:((Int.tmod (ji8) 2) != 1)=false:=bne_eq_false_iff_eq.mpr c9
       clear c9
       by_cases c10:x783000_1.length<17592186044416
       ·rw [if_pos c10] at H
        have LMc10:=zA c10
        clear c10
        obtain ⟨y783,hy783⟩:∃ y_:List Int,y_=(x783000_1++[x4_1]):=⟨_,rfl⟩
        replace H:(ancepsref38_Made.l0 k1 (wrap64 (x4_1+1)) a0_0 a0_1 y783)=some (r1,r2):=by first|(rw [hy783];with_reducible exact H)|(have H2_:=(Option.bind_some _ _).symm.trans H;rw [hy783];with_reducible exact H2_)|(have H2_:=(Option.bind_some _ _).symm.trans H;with_reducible exact H2_)|with_reducible exact H|(rw [hy783];exact H)|exact H
        have Ny783:=zA hy783
        clear hy783
        have H':=zA H
        clear H
        have hnb11:=NB782_780.out
        have hnc11:=NB780_782.out
        have hnb12:=NB782_781.out
        have hnc12:=NB781_782.out
        have hcz13_0:wr.cell? ⟨gb782,0,none⟩=some (u783000):=(blk_cell BK782.out 0).trans rfl
        have hcz13_1:wr.cell? ⟨gb782,1,none⟩=some (.slice none 0 0):=(blk_cell BK782.out 1).trans rfl
        have hfz13_0:=blk_frozen BK782.out 0
        have hfz13_1:=blk_frozen BK782.out 1
        obtain ⟨Ao14,co14,eo14⟩:=Kd.R_slice HO_783000.out
        subst eo14
        have hnb15:=NB780_781.out
        have hnc15:=NB781_780.out
        have hcz16_0:wr.cell? ⟨gb780,0,none⟩=some (.int .u32 a0_0):=(blk_cell BK780.out 0).trans rfl
        have hcz16_1:wr.cell? ⟨gb780,1,none⟩=some (.int .u64 a0_1):=(blk_cell BK780.out 1).trans rfl
        have hfz16_0:=blk_frozen BK780.out 0
        have hfz16_1:=blk_frozen BK780.out 1
        go_wp2_with (first|((with_reducible refine gate_builtin (b:=.append) (xs:=#[.tmp 23,.tmp 25]) rfl ?_);(try (refine gate_guard (by rfl) ?_;dsimp only));at_builtin;refine Kd.R_append (Kd.int .i64) (w0:=w) w.heap.size rfl (.tmp 23) (.tmp 25) 29 3 (.int .i64 0) 8 rfl Try.underlying29 info3 rfl (by decide) (by omega) (.slice Ao14 x783000_1.length co14) x783000_1 x4_1 [.int .i64 x4_1] (fun _=>True) (fun _=>False) rfl rfl ?aP (fun _ hk=>hk.elim) ?aF ?aO ?aB ?aS ?aL ?_;(case aP=>exact rfl);(case aB=>exact zB);(case aF=>exact (fun _ _=>trivial));(case aO=>exact (zR HO_783000));(case aS=>exact (below_size zB));(case aL=>have:=LMc10.out;omega);intro v784 w17 ho hb hg hat;rw [← Ny783.out] at ho;have HO785:=zA (ho);replace BK780:=zA (blk_grown (g:=gb780) (o:=.cells #[.int .u32 a0_0,.int .u64 a0_1] 46 (0,0)) (zk BK780) hg (Kd.R_ne HO_783000.out BK780.out (by decide)));replace BK781:=zA (blk_grown (g:=gb781) (o:=.cells #[.slice none 0 0,.slice none 0 0] 34 (0,0)) (zk BK781) hg (Kd.R_ne HO_783000.out BK781.out (by decide)));replace BK782:=zA (blk_grown (g:=gb782) (o:=.cells #[.slice Ao14 x783000_1.length co14,.slice none 0 0] 34 (0,0)) (zk BK782) hg (Kd.R_ne HO_783000.out BK782.out (by decide)));replace HB:=zA (hb);clear HO_783000;clear ho hb hg hat;obtain ⟨Ao18,co18,eo18⟩:=Kd.R_slice HO785.out;subst eo18;have hcz19_0:w17.cell? ⟨gb782,0,none⟩=some (.slice Ao14 x783000_1.length co14):=(blk_cell BK782.out 0).trans rfl;have hcz19_1:w17.cell? ⟨gb782,1,none⟩=some (.slice none 0 0):=(blk_cell BK782.out 1).trans rfl;have hfz19_0:=blk_frozen BK782.out 0;have hfz19_1:=blk_frozen BK782.out 1))
        go_roundg k1
        case measure=>have:=HK1.out;omega
        case rel=>exact ⟨(wrap64 (x4_1+1)),(y783),(.slice Ao18 y783.length co18),zT,H',⟨by have:=HK1.out;omega⟩,⟨by refine zr ?_;exact Kd.R_mono (Kd.R_far (p:=⟨gb782,0,none⟩) (Kd.R_types HO785.out BK782.out (by decide)) (fun _ hk=>hk.2) (.slice Ao18 y783.length co18)) (fun _ hk=>trivial)⟩,⟨by refine zj ?_;refine blk_far ?_ NB780_782.out _;refine zj ?_;exact BK780.out⟩,⟨by refine zj ?_;refine blk_far ?_ NB781_782.out _;refine zj ?_;exact BK781.out⟩,⟨by refine zj ?_;refine blk_put (cs:=#[.slice Ao14 x783000_1.length co14,.slice none 0 0]) ?_ 0 _ rfl;refine zj ?_;exact BK782.out⟩,⟨by repeat (first|(with_reducible first|exact HB.out|apply below_alloc|apply pw_below_drewN|apply below_drew1|refine below_set ?_ GE780.out|refine below_set ?_ GE781.out|refine below_set ?_ GE782.out)|exact HB.out)⟩⟩
       ·rw [if_neg c10] at H
        exact absurd H (by simp)
      ·rw [if_neg c9] at H
       have c9b0:((Int.tmod (ji8) 2) == 1)=false:=beq_eq_false_iff_ne.mpr c9
       have c9b1:((Int.tmod (ji8) 2) != 1)=true:=bne_iff_ne.mpr c9
       have H':=zA H
       clear H
       have hnb20:=NB782_780.out
       have hnc20:=NB780_782.out
       have hnb21:=NB782_781.out
       have hnc21:=NB781_782.out
       have hcz22_0:wr.cell? ⟨gb782,0,none⟩=some (u783000):=(blk_cell BK782.out 0).trans rfl
       have hcz22_1:wr.cell? ⟨gb782,1,none⟩=some (.slice none 0 0):=(blk_cell BK782.out 1).trans rfl
       have hfz22_0:=blk_frozen BK782.out 0
       have hfz22_1:=blk_frozen BK782.out 1
       obtain ⟨Ao23,co23,eo23⟩:=Kd.R_slice HO_783000.out
       subst eo23
       have hnb24:=NB780_781.out
       have hnc24:=NB781_780.out
       have hcz25_0:wr.cell? ⟨gb780,0,none⟩=some (.int .u32 a0_0):=(blk_cell BK780.out 0).trans rfl
       have hcz25_1:wr.cell? ⟨gb780,1,none⟩=some (.int .u64 a0_1):=(blk_cell BK780.out 1).trans rfl
       have hfz25_0:=blk_frozen BK780.out 0
       have hfz25_1:=blk_frozen BK780.out 1
       go_wp2
       go_roundg k1
       case measure=>have:=HK1.out;omega
       case rel=>exact ⟨(wrap64 (x4_1+1)),(x783000_1),(.slice Ao23 x783000_1.length co23),zT,H',⟨by have:=HK1.out;omega⟩,⟨by refine zr ?_;exact HO_783000.out⟩,⟨by refine zj ?_;exact BK780.out⟩,⟨by refine zj ?_;exact BK781.out⟩,⟨by refine zj ?_;exact BK782.out⟩,⟨by repeat (first|(with_reducible first|exact HB.out|apply below_alloc|apply pw_below_drewN|apply below_drew1|refine below_set ?_ GE780.out|refine below_set ?_ GE781.out|refine below_set ?_ GE782.out)|exact HB.out)⟩⟩
     ·rw [if_neg c7] at H
      exact absurd H (by simp)
    ·rw [if_neg c6] at H
     have c6b0:decide ((x783000_1.length:Int)<6)=false:=decide_eq_false c6
     have c6b1:decide (x783000_1.length<6)=false:=decide_eq_false (by omega)
     clear c6
     have H':=zA H
     clear H
     have hnb26:=NB782_780.out
     have hnc26:=NB780_782.out
     have hnb27:=NB782_781.out
     have hnc27:=NB781_782.out
     have hcz28_0:wr.cell? ⟨gb782,0,none⟩=some (u783000):=(blk_cell BK782.out 0).trans rfl
     have hcz28_1:wr.cell? ⟨gb782,1,none⟩=some (.slice none 0 0):=(blk_cell BK782.out 1).trans rfl
     have hfz28_0:=blk_frozen BK782.out 0
     have hfz28_1:=blk_frozen BK782.out 1
     obtain ⟨Ao29,co29,eo29⟩:=Kd.R_slice HO_783000.out
     subst eo29
     go_wp2
     go_loopg [5] k1 (fun kq v5 w'=>∃ (x5_2:Int) (x783001_2:List Int) (u783001:Value),v5=.int .i64 x5_2∧Aside0 (ancepsref38_Made.l1 kq x5_2 a0_0 a0_1 x783000_1 x783001_2=some (r1,r2))∧Aside0 (kq≤k1)∧Aside0 (Kd.R (Kd.int .i64) 3 w' w.heap.size (fun k_=>some k_≠(u783001:Value).ownBlock) (.slice Ao29 x783000_1.length co29) x783000_1)∧Aside0 (Kd.R (Kd.int .i64) 3 w' w.heap.size (fun k_=>some k_≠((.slice Ao29 x783000_1.length co29):Value).ownBlock) u783001 x783001_2)∧Aside0 (w'.heap[gb780]?=some (.cells #[.int .u32 a0_0,.int .u64 a0_1] 46 (0,0)))∧Aside0 (w'.heap[gb781]?=some (.cells #[(.slice none 0 0),(.slice none 0 0)] 34 (0,0)))∧Aside0 (w'.heap[gb782]?=some (.cells #[(.slice Ao29 x783000_1.length co29),u783001] 34 (0,0)))∧Aside0 (Below w.heap.size w w'))
     case atStart=>exact ⟨(0),(([]:List Int)),(.slice none 0 0),zT,H',⟨Nat.le_refl _⟩,⟨by refine zr ?_;exact Kd.R_mono HO_783000.out (fun _ hk=>(by simp [Value.ownBlock]))⟩,⟨by first|exact Kd.R_nil _ _ _ _ _|exact Kd.N_nil _ _ _ _ _|exact Kd.V_nil _ _ _ _ _|exact Kd.Q_nil _ _ _ _ _|exact Kd.S_nil _ _ _ _ _⟩,⟨by refine zj ?_;exact BK780.out⟩,⟨by refine zj ?_;exact BK781.out⟩,⟨by refine zj ?_;exact BK782.out⟩,⟨by repeat (first|(with_reducible first|exact HB.out|apply below_alloc|apply pw_below_drewN|apply below_drew1|refine below_set ?_ GE780.out|refine below_set ?_ GE781.out|refine below_set ?_ GE782.out)|exact HB.out)⟩⟩
     case round=>
      clear H'
      try clear c5
      try clear c5b0
      try clear c6
      try clear c6b0
      try clear c6b1
      try clear hcz28_0
      try clear hcz28_1
      try clear hfz28_0
      try clear hfz28_1
      obtain ⟨x5_2,x783001_2,u783001,rfl,HA,HK2,HO_783000,HO_783001,BK780,BK781,BK782,HB⟩:=hrel
      cases gk with
      | zero=>exact absurd HA.out (by simp [ancepsref38_Made.l1])
      | succ k2=>
       have H:=HA.out
       clear HA
       simp only [ancepsref38_Made.l1] at H
       obtain ⟨ji30,hji30⟩:∃ j_:Int,(shl .i64 1 (x783000_1.length:Int))=j_:=⟨_,rfl⟩
       replace H:(if x5_2<(ji30) then (if 0≤x5_2 then (if (Int.tmod (shr .u64 a0_1 x5_2) 2)=1 then (if x783001_2.length<17592186044416 then (ancepsref38_Made.l1 k2 (wrap64 (x5_2+1)) a0_0 a0_1 x783000_1 (x783001_2++[x5_2])) else (none)) else (ancepsref38_Made.l1 k2 (wrap64 (x5_2+1)) a0_0 a0_1 x783000_1 x783001_2)) else (none)) else (some (x783000_1,x783001_2)))=some (r1,r2):=by first|(rw [hji30] at H;exact H)|(simp only [hji30] at H ⊢;exact H)
       have hji30_:(IntKind.i64.wrap (1 * 2 ^ min (x783000_1.length:Int).toNat 64))=ji30:=hji30
       have hji30z:(x783000_1.length:Int)≤64→(IntKind.i64.wrap (1 * 2 ^ (x783000_1.length:Int).toNat))=ji30:=shl_small hji30
       have hji30p:(IntKind.i64.wrap (1 * 2 ^ min x783000_1.length 64))=ji30:=hji30_
       have hji30q:(x783000_1.length:Int)≤64→(IntKind.i64.wrap (1 * 2 ^ x783000_1.length))=ji30:=hji30z
       have hji30r:(IntKind.i64.wrap (2 ^ min x783000_1.length 64))=ji30:=by have h_:=hji30p;rw [Int.one_mul] at h_;exact h_
       have hji30s:(x783000_1.length:Int)≤64→(IntKind.i64.wrap (2 ^ x783000_1.length))=ji30:=fun hle_=>by have h_:=hji30q hle_;rw [Int.one_mul] at h_;exact h_
       have hji30u:(IntKind.i64.wrap (2 ^ min (x783000_1.length:Int).toNat 64))=ji30:=by have h_:=hji30_;rw [Int.one_mul] at h_;exact h_
       have hji30v:(x783000_1.length:Int)≤64→(IntKind.i64.wrap (2 ^ (x783000_1.length:Int).toNat))=ji30:=fun hle_=>by have h_:=hji30z hle_;rw [Int.one_mul] at h_;exact h_
       have hji30y:(wrap64 (1 * 2 ^ min (x783000_1.length:Int).toNat 64))=ji30:=(i64_w _).symm.trans hji30_
       have hji30x:(x783000_1.length:Int)≤64→(wrap64 (1 * 2 ^ (x783000_1.length:Int).toNat))=ji30:=fun h_=>(i64_w _).symm.trans (hji30z h_)
       by_cases c31:x5_2<(ji30)
       ·rw [if_pos c31] at H
        have c31b0:decide (x5_2<(ji30))=true:=decide_eq_true c31
        clear c31
        by_cases c32:0≤x5_2
        ·rw [if_pos c32] at H
         have c32b0:=eq_true c32
         have c32b1:decide (0≤x5_2)=true:=decide_eq_true c32
         clear c32
         obtain ⟨ji33,hji33⟩:∃ j_:Int,(shr .u64 a0_1 x5_2)=j_:=⟨_,rfl⟩
         replace H:(if (Int.tmod (ji33) 2)=1 then (if x783001_2.length<17592186044416 then (ancepsref38_Made.l1 k2 (wrap64 (x5_2+1)) a0_0 a0_1 x783000_1 (x783001_2++[x5_2])) else (none)) else (ancepsref38_Made.l1 k2 (wrap64 (x5_2+1)) a0_0 a0_1 x783000_1 x783001_2))=some (r1,r2):=by first|(rw [hji33] at H;exact H)|(simp only [hji33] at H ⊢;exact H)
         have hji33_:(a0_1 / 2 ^ min x5_2.toNat 64)=ji33:=hji33
         have hji33z:x5_2≤64→(a0_1 / 2 ^ x5_2.toNat)=ji33:=shr_small hji33
         by_cases c34:(Int.tmod (ji33) 2)=1
         ·rw [if_pos c34] at H
          have c34b0:((Int.tmod (ji33) 2) == 1)=true:=beq_iff_eq.mpr c34
          have c34b1:((Int.tmod (ji33) 2) != 1)=false:=bne_eq_false_iff_eq.mpr c34
          clear c34
          by_cases c35:x783001_2.length<17592186044416
          ·rw [if_pos c35] at H
           have LMc35:=zA c35
           clear c35
           obtain ⟨y786,hy786⟩:∃ y_:List Int,y_=(x783001_2++[x5_2]):=⟨_,rfl⟩
           replace H:(ancepsref38_Made.l1 k2 (wrap64 (x5_2+1)) a0_0 a0_1 x783000_1 y786)=some (r1,r2):=by first|(rw [hy786];with_reducible exact H)|(have H2_:=(Option.bind_some _ _).symm.trans H;rw [hy786];with_reducible exact H2_)|(have H2_:=(Option.bind_some _ _).symm.trans H;with_reducible exact H2_)|with_reducible exact H|(rw [hy786];exact H)|exact H
           have Ny786:=zA hy786
           clear hy786
           have H':=zA H
           clear H
           have hnb36:=NB782_780.out
           have hnc36:=NB780_782.out
           have hnb37:=NB782_781.out
           have hnc37:=NB781_782.out
           have hcz38_0:wr.cell? ⟨gb782,0,none⟩=some (.slice Ao29 x783000_1.length co29):=(blk_cell BK782.out 0).trans rfl
           have hcz38_1:wr.cell? ⟨gb782,1,none⟩=some (u783001):=(blk_cell BK782.out 1).trans rfl
           have hfz38_0:=blk_frozen BK782.out 0
           have hfz38_1:=blk_frozen BK782.out 1
           have hnb39:=NB780_781.out
           have hnc39:=NB781_780.out
           have hcz40_0:wr.cell? ⟨gb780,0,none⟩=some (.int .u32 a0_0):=(blk_cell BK780.out 0).trans rfl
           have hcz40_1:wr.cell? ⟨gb780,1,none⟩=some (.int .u64 a0_1):=(blk_cell BK780.out 1).trans rfl
           have hfz40_0:=blk_frozen BK780.out 0
           have hfz40_1:=blk_frozen BK780.out 1
           go_wp2_with (first|((with_reducible refine gate_builtin (b:=.append) (xs:=#[.tmp 43,.tmp 45]) rfl ?_);(try (refine gate_guard (by rfl) ?_;dsimp only));at_builtin;refine Kd.R_append (Kd.int .i64) (w0:=w) w.heap.size rfl (.tmp 43) (.tmp 45) 29 3 (.int .i64 0) 8 rfl Try.underlying29 info3 rfl (by decide) (by omega) u783001 x783001_2 x5_2 [.int .i64 x5_2] (fun k_=>some k_≠(.slice Ao29 x783000_1.length co29:Value).ownBlock) (fun _=>False) rfl rfl ?aP (fun _ hk=>hk.elim) ?aF ?aO ?aB ?aS ?aL ?_;(case aP=>exact rfl);(case aB=>exact zB);(case aF=>exact (fun k_ hk=>Kd.fresh' (Kd.R_lt (zR HO_783000)) k_ hk));(case aO=>exact (zR HO_783001));(case aS=>exact (below_size zB));(case aL=>have:=LMc35.out;omega);intro v787 w41 ho hb hg hat;rw [← Ny786.out] at ho;have HO788:=zA (ho);replace HO_783000:=zA (Kd.R_after (ok:=(fun _=>True)) (by refine zr ?_;exact Kd.R_mono HO_783000.out (fun _ hk=>⟨trivial,hk⟩)) hg hat);replace BK780:=zA (blk_grown (g:=gb780) (o:=.cells #[.int .u32 a0_0,.int .u64 a0_1] 46 (0,0)) (zk BK780) hg (Kd.R_ne HO_783001.out BK780.out (by decide)));replace BK781:=zA (blk_grown (g:=gb781) (o:=.cells #[.slice none 0 0,.slice none 0 0] 34 (0,0)) (zk BK781) hg (Kd.R_ne HO_783001.out BK781.out (by decide)));replace BK782:=zA (blk_grown (g:=gb782) (o:=.cells #[.slice Ao29 x783000_1.length co29,u783001] 34 (0,0)) (zk BK782) hg (Kd.R_ne HO_783001.out BK782.out (by decide)));replace HB:=zA (hb);clear HO_783001;clear ho hb hg hat;obtain ⟨Ao42,co42,eo42⟩:=Kd.R_slice HO788.out;subst eo42;have hcz43_0:w41.cell? ⟨gb782,0,none⟩=some (.slice Ao29 x783000_1.length co29):=(blk_cell BK782.out 0).trans rfl;have hcz43_1:w41.cell? ⟨gb782,1,none⟩=some (u783001):=(blk_cell BK782.out 1).trans rfl;have hfz43_0:=blk_frozen BK782.out 0;have hfz43_1:=blk_frozen BK782.out 1))
           go_roundg k2
           case measure=>have:=HK1.out;have:=HK2.out;omega
           case rel=>exact ⟨(wrap64 (x5_2+1)),(y786),(.slice Ao42 y786.length co42),zT,H',⟨by have:=HK1.out;have:=HK2.out;omega⟩,⟨by refine zr ?_;exact Kd.R_mono (Kd.R_far (p:=⟨gb782,1,none⟩) (Kd.R_types HO_783000.out BK782.out (by decide)) (fun _ hk=>hk.2) (.slice Ao42 y786.length co42)) (fun _ hk=>hk.1.2)⟩,⟨by refine zr ?_;exact Kd.R_mono (Kd.R_far (p:=⟨gb782,1,none⟩) (Kd.R_types HO788.out BK782.out (by decide)) (fun _ hk=>hk.2) (.slice Ao42 y786.length co42)) (fun _ hk=>hk.1)⟩,⟨by refine zj ?_;refine blk_far ?_ NB780_782.out _;refine zj ?_;exact BK780.out⟩,⟨by refine zj ?_;refine blk_far ?_ NB781_782.out _;refine zj ?_;exact BK781.out⟩,⟨by refine zj ?_;refine blk_put (cs:=#[.slice Ao29 x783000_1.length co29,u783001]) ?_ 1 _ rfl;refine zj ?_;exact BK782.out⟩,⟨by repeat (first|(with_reducible first|exact HB.out|apply below_alloc|apply pw_below_drewN|apply below_drew1|refine below_set ?_ GE780.out|refine below_set ?_ GE781.out|refine below_set ?_ GE782.out)|exact HB.out)⟩⟩
          ·rw [if_neg c35] at H
           exact absurd H (by simp)
         ·rw [if_neg c34] at H
          have c34b0:((Int.tmod (ji33) 2) == 1)=false:=beq_eq_false_iff_ne.mpr c34
          have c34b1:((Int.tmod (ji33) 2) != 1)=true:=bne_iff_ne.mpr c34
          have H':=zA H
          clear H
          have hnb44:=NB782_780.out
          have hnc44:=NB780_782.out
          have hnb45:=NB782_781.out
          have hnc45:=NB781_782.out
          have hcz46_0:wr.cell? ⟨gb782,0,none⟩=some (.slice Ao29 x783000_1.length co29):=(blk_cell BK782.out 0).trans rfl
          have hcz46_1:wr.cell? ⟨gb782,1,none⟩=some (u783001):=(blk_cell BK782.out 1).trans rfl
          have hfz46_0:=blk_frozen BK782.out 0
          have hfz46_1:=blk_frozen BK782.out 1
          have hnb47:=NB780_781.out
          have hnc47:=NB781_780.out
          have hcz48_0:wr.cell? ⟨gb780,0,none⟩=some (.int .u32 a0_0):=(blk_cell BK780.out 0).trans rfl
          have hcz48_1:wr.cell? ⟨gb780,1,none⟩=some (.int .u64 a0_1):=(blk_cell BK780.out 1).trans rfl
          have hfz48_0:=blk_frozen BK780.out 0
          have hfz48_1:=blk_frozen BK780.out 1
          go_wp2
          go_roundg k2
          case measure=>have:=HK1.out;have:=HK2.out;omega
          case rel=>exact ⟨(wrap64 (x5_2+1)),(x783001_2),(u783001),zT,H',⟨by have:=HK1.out;have:=HK2.out;omega⟩,⟨by refine zr ?_;exact HO_783000.out⟩,⟨by refine zr ?_;exact HO_783001.out⟩,⟨by refine zj ?_;exact BK780.out⟩,⟨by refine zj ?_;exact BK781.out⟩,⟨by refine zj ?_;exact BK782.out⟩,⟨by repeat (first|(with_reducible first|exact HB.out|apply below_alloc|apply pw_below_drewN|apply below_drew1|refine below_set ?_ GE780.out|refine below_set ?_ GE781.out|refine below_set ?_ GE782.out)|exact HB.out)⟩⟩
        ·rw [if_neg c32] at H
         exact absurd H (by simp)
       ·rw [if_neg c31] at H
        have c31b0:decide (x5_2<(ji30))=false:=decide_eq_false c31
        clear c31
        simp only [Option.some.injEq,Prod.mk.injEq] at H
        obtain ⟨rfl,rfl⟩:=H
        have hnb49:=NB782_780.out
        have hnc49:=NB780_782.out
        have hnb50:=NB782_781.out
        have hnc50:=NB781_782.out
        have hcz51_0:wr.cell? ⟨gb782,0,none⟩=some (.slice Ao29 x783000_1.length co29):=(blk_cell BK782.out 0).trans rfl
        have hcz51_1:wr.cell? ⟨gb782,1,none⟩=some (u783001):=(blk_cell BK782.out 1).trans rfl
        have hfz51_0:=blk_frozen BK782.out 0
        have hfz51_1:=blk_frozen BK782.out 1
        have hnb52:=NB781_780.out
        have hnc52:=NB780_781.out
        have hcz53_0:wr.cell? ⟨gb781,0,none⟩=some (.slice none 0 0):=(blk_cell BK781.out 0).trans rfl
        have hcz53_1:wr.cell? ⟨gb781,1,none⟩=some (.slice none 0 0):=(blk_cell BK781.out 1).trans rfl
        have hfz53_0:=blk_frozen BK781.out 0
        have hfz53_1:=blk_frozen BK781.out 1
        obtain ⟨Ao54,co54,eo54⟩:=Kd.R_slice HO_783001.out
        subst eo54
        go_wp2
        refine bodyPost_ret (results_cell_row rfl _ _ gb781 34 #[.slice Ao29 x783000_1.length co29,.slice Ao54 x783001_2.length co54] (0,0) _ rfl (by refine zj ?_;refine blk_put (cs:=#[.slice Ao29 x783000_1.length co29,.slice none 0 0]) ?_ 1 _ rfl;refine zj ?_;refine blk_put (cs:=#[.slice none 0 0,.slice none 0 0]) ?_ 0 _ rfl;refine zj ?_;exact BK781.out) Try.underlying34 rfl zK) rfl ?_
        exact ⟨_,_,by first|rfl|(simp [errW_none,errW_some] <;> rfl)|(simp only [← hji30];first|rfl|(simp [errW_none,errW_some] <;> rfl))|(simp [*,errW_none,errW_some] <;> rfl),by refine zr ?_;exact Kd.R_mono (Kd.R_far (p:=⟨gb781,1,none⟩) (Kd.R_far (p:=⟨gb781,0,none⟩) (Kd.R_types HO_783000.out BK781.out (by decide)) (fun _ hk=>hk.2) (.slice Ao29 x783000_1.length co29)) (fun _ hk=>hk.2) (.slice Ao54 x783001_2.length co54)) (fun _ hk=>hk.1),by refine zr ?_;exact Kd.R_mono (Kd.R_far (p:=⟨gb781,1,none⟩) (Kd.R_far (p:=⟨gb781,0,none⟩) (Kd.R_types HO_783001.out BK781.out (by decide)) (fun _ hk=>hk.2) (.slice Ao29 x783000_1.length co29)) (fun _ hk=>hk.2) (.slice Ao54 x783001_2.length co54)) (fun _ hk=>hk.1),by repeat (first|(with_reducible first|exact HB.out|apply below_alloc|apply pw_below_drewN|apply below_drew1|refine below_set ?_ GE780.out|refine below_set ?_ GE781.out|refine below_set ?_ GE782.out)|exact HB.out)⟩
   ·rw [if_neg c5] at H
    have c5b0:decide (x4_1<24)=false:=decide_eq_false c5
    clear c5
    have H':=zA H
    clear H
    go_wp2
    go_loopg [5] k1 (fun kq v5 w'=>∃ (x5_2:Int) (x783001_2:List Int) (u783001:Value),v5=.int .i64 x5_2∧Aside0 (ancepsref38_Made.l1 kq x5_2 a0_0 a0_1 x783000_1 x783001_2=some (r1,r2))∧Aside0 (kq≤k1)∧Aside0 (Kd.R (Kd.int .i64) 3 w' w.heap.size (fun k_=>some k_≠(u783001:Value).ownBlock) u783000 x783000_1)∧Aside0 (Kd.R (Kd.int .i64) 3 w' w.heap.size (fun k_=>some k_≠(u783000:Value).ownBlock) u783001 x783001_2)∧Aside0 (w'.heap[gb780]?=some (.cells #[.int .u32 a0_0,.int .u64 a0_1] 46 (0,0)))∧Aside0 (w'.heap[gb781]?=some (.cells #[(.slice none 0 0),(.slice none 0 0)] 34 (0,0)))∧Aside0 (w'.heap[gb782]?=some (.cells #[u783000,u783001] 34 (0,0)))∧Aside0 (Below w.heap.size w w'))
    case atStart=>exact ⟨(0),(([]:List Int)),(.slice none 0 0),zT,H',⟨Nat.le_refl _⟩,⟨by refine zr ?_;exact Kd.R_mono HO_783000.out (fun _ hk=>(by simp [Value.ownBlock]))⟩,⟨by first|exact Kd.R_nil _ _ _ _ _|exact Kd.N_nil _ _ _ _ _|exact Kd.V_nil _ _ _ _ _|exact Kd.Q_nil _ _ _ _ _|exact Kd.S_nil _ _ _ _ _⟩,⟨by refine zj ?_;exact BK780.out⟩,⟨by refine zj ?_;exact BK781.out⟩,⟨by refine zj ?_;exact BK782.out⟩,⟨by repeat (first|(with_reducible first|exact HB.out|apply below_alloc|apply pw_below_drewN|apply below_drew1|refine below_set ?_ GE780.out|refine below_set ?_ GE781.out|refine below_set ?_ GE782.out)|exact HB.out)⟩⟩
    case round=>
     clear H'
     try clear c5
     try clear c5b0
     obtain ⟨x5_2,x783001_2,u783001,rfl,HA,HK2,HO_783000,HO_783001,BK780,BK781,BK782,HB⟩:=hrel
     cases gk with
     | zero=>exact absurd HA.out (by simp [ancepsref38_Made.l1])
     | succ k2=>
      have H:=HA.out
      clear HA
      simp only [ancepsref38_Made.l1] at H
      obtain ⟨ji55,hji55⟩:∃ j_:Int,(shl .i64 1 (x783000_1.length:Int))=j_:=⟨_,rfl⟩
      replace H:(if x5_2<(ji55) then (if 0≤x5_2 then (if (Int.tmod (shr .u64 a0_1 x5_2) 2)=1 then (if x783001_2.length<17592186044416 then (ancepsref38_Made.l1 k2 (wrap64 (x5_2+1)) a0_0 a0_1 x783000_1 (x783001_2++[x5_2])) else (none)) else (ancepsref38_Made.l1 k2 (wrap64 (x5_2+1)) a0_0 a0_1 x783000_1 x783001_2)) else (none)) else (some (x783000_1,x783001_2)))=some (r1,r2):=by first|(rw [hji55] at H;exact H)|(simp only [hji55] at H ⊢;exact H)
      have hji55_:(IntKind.i64.wrap (1 * 2 ^ min (x783000_1.length:Int).toNat 64))=ji55:=hji55
      have hji55z:(x783000_1.length:Int)≤64→(IntKind.i64.wrap (1 * 2 ^ (x783000_1.length:Int).toNat))=ji55:=shl_small hji55
      have hji55p:(IntKind.i64.wrap (1 * 2 ^ min x783000_1.length 64))=ji55:=hji55_
      have hji55q:(x783000_1.length:Int)≤64→(IntKind.i64.wrap (1 * 2 ^ x783000_1.length))=ji55:=hji55z
      have hji55r:(IntKind.i64.wrap (2 ^ min x783000_1.length 64))=ji55:=by have h_:=hji55p;rw [Int.one_mul] at h_;exact h_
      have hji55s:(x783000_1.length:Int)≤64→(IntKind.i64.wrap (2 ^ x783000_1.length))=ji55:=fun hle_=>by have h_:=hji55q hle_;rw [Int.one_mul] at h_;exact h_
      have hji55u:(IntKind.i64.wrap (2 ^ min (x783000_1.length:Int).toNat 64))=ji55:=by have h_:=hji55_;rw [Int.one_mul] at h_;exact h_
      have hji55v:(x783000_1.length:Int)≤64→(IntKind.i64.wrap (2 ^ (x783000_1.length:Int).toNat))=ji55:=fun hle_=>by have h_:=hji55z hle_;rw [Int.one_mul] at h_;exact h_
      have hji55y:(wrap64 (1 * 2 ^ min (x783000_1.length:Int).toNat 64))=ji55:=(i64_w _).symm.trans hji55_
      have hji55x:(x783000_1.length:Int)≤64→(wrap64 (1 * 2 ^ (x783000_1.length:Int).toNat))=ji55:=fun h_=>(i64_w _).symm.trans (hji55z h_)
      by_cases c56:x5_2<(ji55)
      ·rw [if_pos c56] at H
       have c56b0:decide (x5_2<(ji55))=true:=decide_eq_true c56
       clear c56
       by_cases c57:0≤x5_2
       ·rw [if_pos c57] at H
        have c57b0:=eq_true c57
        have c57b1:decide (0≤x5_2)=true:=decide_eq_true c57
        clear c57
        obtain ⟨ji58,hji58⟩:∃ j_:Int,(shr .u64 a0_1 x5_2)=j_:=⟨_,rfl⟩
        replace H:(if (Int.tmod (ji58) 2)=1 then (if x783001_2.length<17592186044416 then (ancepsref38_Made.l1 k2 (wrap64 (x5_2+1)) a0_0 a0_1 x783000_1 (x783001_2++[x5_2])) else (none)) else (ancepsref38_Made.l1 k2 (wrap64 (x5_2+1)) a0_0 a0_1 x783000_1 x783001_2))=some (r1,r2):=by first|(rw [hji58] at H;exact H)|(simp only [hji58] at H ⊢;exact H)
        have hji58_:(a0_1 / 2 ^ min x5_2.toNat 64)=ji58:=hji58
        have hji58z:x5_2≤64→(a0_1 / 2 ^ x5_2.toNat)=ji58:=shr_small hji58
        by_cases c59:(Int.tmod (ji58) 2)=1
        ·rw [if_pos c59] at H
         have c59b0:((Int.tmod (ji58) 2) == 1)=true:=beq_iff_eq.mpr c59
         have c59b1:((Int.tmod (ji58) 2) != 1)=false:=bne_eq_false_iff_eq.mpr c59
         clear c59
         by_cases c60:x783001_2.length<17592186044416
         ·rw [if_pos c60] at H
          have LMc60:=zA c60
          clear c60
          obtain ⟨y786,hy786⟩:∃ y_:List Int,y_=(x783001_2++[x5_2]):=⟨_,rfl⟩
          replace H:(ancepsref38_Made.l1 k2 (wrap64 (x5_2+1)) a0_0 a0_1 x783000_1 y786)=some (r1,r2):=by first|(rw [hy786];with_reducible exact H)|(have H2_:=(Option.bind_some _ _).symm.trans H;rw [hy786];with_reducible exact H2_)|(have H2_:=(Option.bind_some _ _).symm.trans H;with_reducible exact H2_)|with_reducible exact H|(rw [hy786];exact H)|exact H
          have Ny786:=zA hy786
          clear hy786
          have H':=zA H
          clear H
          have hnb61:=NB782_780.out
          have hnc61:=NB780_782.out
          have hnb62:=NB782_781.out
          have hnc62:=NB781_782.out
          have hcz63_0:wr.cell? ⟨gb782,0,none⟩=some (u783000):=(blk_cell BK782.out 0).trans rfl
          have hcz63_1:wr.cell? ⟨gb782,1,none⟩=some (u783001):=(blk_cell BK782.out 1).trans rfl
          have hfz63_0:=blk_frozen BK782.out 0
          have hfz63_1:=blk_frozen BK782.out 1
          obtain ⟨Ao64,co64,eo64⟩:=Kd.R_slice HO_783000.out
          subst eo64
          have hnb65:=NB780_781.out
          have hnc65:=NB781_780.out
          have hcz66_0:wr.cell? ⟨gb780,0,none⟩=some (.int .u32 a0_0):=(blk_cell BK780.out 0).trans rfl
          have hcz66_1:wr.cell? ⟨gb780,1,none⟩=some (.int .u64 a0_1):=(blk_cell BK780.out 1).trans rfl
          have hfz66_0:=blk_frozen BK780.out 0
          have hfz66_1:=blk_frozen BK780.out 1
          go_wp2_with (first|((with_reducible refine gate_builtin (b:=.append) (xs:=#[.tmp 43,.tmp 45]) rfl ?_);(try (refine gate_guard (by rfl) ?_;dsimp only));at_builtin;refine Kd.R_append (Kd.int .i64) (w0:=w) w.heap.size rfl (.tmp 43) (.tmp 45) 29 3 (.int .i64 0) 8 rfl Try.underlying29 info3 rfl (by decide) (by omega) u783001 x783001_2 x5_2 [.int .i64 x5_2] (fun k_=>some k_≠(.slice Ao64 x783000_1.length co64:Value).ownBlock) (fun _=>False) rfl rfl ?aP (fun _ hk=>hk.elim) ?aF ?aO ?aB ?aS ?aL ?_;(case aP=>exact rfl);(case aB=>exact zB);(case aF=>exact (fun k_ hk=>Kd.fresh' (Kd.R_lt (zR HO_783000)) k_ hk));(case aO=>exact (zR HO_783001));(case aS=>exact (below_size zB));(case aL=>have:=LMc60.out;omega);intro v787 w67 ho hb hg hat;rw [← Ny786.out] at ho;have HO788:=zA (ho);replace HO_783000:=zA (Kd.R_after (ok:=(fun _=>True)) (by refine zr ?_;exact Kd.R_mono HO_783000.out (fun _ hk=>⟨trivial,hk⟩)) hg hat);replace BK780:=zA (blk_grown (g:=gb780) (o:=.cells #[.int .u32 a0_0,.int .u64 a0_1] 46 (0,0)) (zk BK780) hg (Kd.R_ne HO_783001.out BK780.out (by decide)));replace BK781:=zA (blk_grown (g:=gb781) (o:=.cells #[.slice none 0 0,.slice none 0 0] 34 (0,0)) (zk BK781) hg (Kd.R_ne HO_783001.out BK781.out (by decide)));replace BK782:=zA (blk_grown (g:=gb782) (o:=.cells #[.slice Ao64 x783000_1.length co64,u783001] 34 (0,0)) (zk BK782) hg (Kd.R_ne HO_783001.out BK782.out (by decide)));replace HB:=zA (hb);clear HO_783001;clear ho hb hg hat;obtain ⟨Ao68,co68,eo68⟩:=Kd.R_slice HO788.out;subst eo68;have hcz69_0:w67.cell? ⟨gb782,0,none⟩=some (.slice Ao64 x783000_1.length co64):=(blk_cell BK782.out 0).trans rfl;have hcz69_1:w67.cell? ⟨gb782,1,none⟩=some (u783001):=(blk_cell BK782.out 1).trans rfl;have hfz69_0:=blk_frozen BK782.out 0;have hfz69_1:=blk_frozen BK782.out 1))
          go_roundg k2
          case measure=>have:=HK1.out;have:=HK2.out;omega
          case rel=>exact ⟨(wrap64 (x5_2+1)),(y786),(.slice Ao68 y786.length co68),zT,H',⟨by have:=HK1.out;have:=HK2.out;omega⟩,⟨by refine zr ?_;exact Kd.R_mono (Kd.R_far (p:=⟨gb782,1,none⟩) (Kd.R_types HO_783000.out BK782.out (by decide)) (fun _ hk=>hk.2) (.slice Ao68 y786.length co68)) (fun _ hk=>hk.1.2)⟩,⟨by refine zr ?_;exact Kd.R_mono (Kd.R_far (p:=⟨gb782,1,none⟩) (Kd.R_types HO788.out BK782.out (by decide)) (fun _ hk=>hk.2) (.slice Ao68 y786.length co68)) (fun _ hk=>hk.1)⟩,⟨by refine zj ?_;refine blk_far ?_ NB780_782.out _;refine zj ?_;exact BK780.out⟩,⟨by refine zj ?_;refine blk_far ?_ NB781_782.out _;refine zj ?_;exact BK781.out⟩,⟨by refine zj ?_;refine blk_put (cs:=#[.slice Ao64 x783000_1.length co64,u783001]) ?_ 1 _ rfl;refine zj ?_;exact BK782.out⟩,⟨by repeat (first|(with_reducible first|exact HB.out|apply below_alloc|apply pw_below_drewN|apply below_drew1|refine below_set ?_ GE780.out|refine below_set ?_ GE781.out|refine below_set ?_ GE782.out)|exact HB.out)⟩⟩
         ·rw [if_neg c60] at H
          exact absurd H (by simp)
        ·rw [if_neg c59] at H
         have c59b0:((Int.tmod (ji58) 2) == 1)=false:=beq_eq_false_iff_ne.mpr c59
         have c59b1:((Int.tmod (ji58) 2) != 1)=true:=bne_iff_ne.mpr c59
         have H':=zA H
         clear H
         have hnb70:=NB782_780.out
         have hnc70:=NB780_782.out
         have hnb71:=NB782_781.out
         have hnc71:=NB781_782.out
         have hcz72_0:wr.cell? ⟨gb782,0,none⟩=some (u783000):=(blk_cell BK782.out 0).trans rfl
         have hcz72_1:wr.cell? ⟨gb782,1,none⟩=some (u783001):=(blk_cell BK782.out 1).trans rfl
         have hfz72_0:=blk_frozen BK782.out 0
         have hfz72_1:=blk_frozen BK782.out 1
         obtain ⟨Ao73,co73,eo73⟩:=Kd.R_slice HO_783000.out
         subst eo73
         have hnb74:=NB780_781.out
         have hnc74:=NB781_780.out
         have hcz75_0:wr.cell? ⟨gb780,0,none⟩=some (.int .u32 a0_0):=(blk_cell BK780.out 0).trans rfl
         have hcz75_1:wr.cell? ⟨gb780,1,none⟩=some (.int .u64 a0_1):=(blk_cell BK780.out 1).trans rfl
         have hfz75_0:=blk_frozen BK780.out 0
         have hfz75_1:=blk_frozen BK780.out 1
         go_wp2
         go_roundg k2
         case measure=>have:=HK1.out;have:=HK2.out;omega
         case rel=>exact ⟨(wrap64 (x5_2+1)),(x783001_2),(u783001),zT,H',⟨by have:=HK1.out;have:=HK2.out;omega⟩,⟨by refine zr ?_;exact HO_783000.out⟩,⟨by refine zr ?_;exact HO_783001.out⟩,⟨by refine zj ?_;exact BK780.out⟩,⟨by refine zj ?_;exact BK781.out⟩,⟨by refine zj ?_;exact BK782.out⟩,⟨by repeat (first|(with_reducible first|exact HB.out|apply below_alloc|apply pw_below_drewN|apply below_drew1|refine below_set ?_ GE780.out|refine below_set ?_ GE781.out|refine below_set ?_ GE782.out)|exact HB.out)⟩⟩
       ·rw [if_neg c57] at H
        exact absurd H (by simp)
      ·rw [if_neg c56] at H
       have c56b0:decide (x5_2<(ji55))=false:=decide_eq_false c56
       clear c56
       simp only [Option.some.injEq,Prod.mk.injEq] at H
       obtain ⟨rfl,rfl⟩:=H
       have hnb76:=NB782_780.out
       have hnc76:=NB780_782.out
       have hnb77:=NB782_781.out
       have hnc77:=NB781_782.out
       have hcz78_0:wr.cell? ⟨gb782,0,none⟩=some (u783000):=(blk_cell BK782.out 0).trans rfl
       have hcz78_1:wr.cell? ⟨gb782,1,none⟩=some (u783001):=(blk_cell BK782.out 1).trans rfl
       have hfz78_0:=blk_frozen BK782.out 0
       have hfz78_1:=blk_frozen BK782.out 1
       obtain ⟨Ao79,co79,eo79⟩:=Kd.R_slice HO_783000.out
       subst eo79
       have hnb80:=NB781_780.out
       have hnc80:=NB780_781.out
       have hcz81_0:wr.cell? ⟨gb781,0,none⟩=some (.slice none 0 0):=(blk_cell BK781.out 0).trans rfl
       have hcz81_1:wr.cell? ⟨gb781,1,none⟩=some (.slice none 0 0):=(blk_cell BK781.out 1).trans rfl
       have hfz81_0:=blk_frozen BK781.out 0
       have hfz81_1:=blk_frozen BK781.out 1
       obtain ⟨Ao82,co82,eo82⟩:=Kd.R_slice HO_783001.out
       subst eo82
       go_wp2
       refine bodyPost_ret (results_cell_row rfl _ _ gb781 34 #[.slice Ao79 x783000_1.length co79,.slice Ao82 x783001_2.length co82] (0,0) _ rfl (by refine zj ?_;refine blk_put (cs:=#[.slice Ao79 x783000_1.length co79,.slice none 0 0]) ?_ 1 _ rfl;refine zj ?_;refine blk_put (cs:=#[.slice none 0 0,.slice none 0 0]) ?_ 0 _ rfl;refine zj ?_;exact BK781.out) Try.underlying34 rfl zK) rfl ?_
       exact ⟨_,_,by first|rfl|(simp [errW_none,errW_some] <;> rfl)|(simp only [← hji55];first|rfl|(simp [errW_none,errW_some] <;> rfl))|(simp [*,errW_none,errW_some] <;> rfl),by refine zr ?_;exact Kd.R_mono (Kd.R_far (p:=⟨gb781,1,none⟩) (Kd.R_far (p:=⟨gb781,0,none⟩) (Kd.R_types HO_783000.out BK781.out (by decide)) (fun _ hk=>hk.2) (.slice Ao79 x783000_1.length co79)) (fun _ hk=>hk.2) (.slice Ao82 x783001_2.length co82)) (fun _ hk=>hk.1),by refine zr ?_;exact Kd.R_mono (Kd.R_far (p:=⟨gb781,1,none⟩) (Kd.R_far (p:=⟨gb781,0,none⟩) (Kd.R_types HO_783001.out BK781.out (by decide)) (fun _ hk=>hk.2) (.slice Ao79 x783000_1.length co79)) (fun _ hk=>hk.2) (.slice Ao82 x783001_2.length co82)) (fun _ hk=>hk.1),by repeat (first|(with_reducible first|exact HB.out|apply below_alloc|apply pw_below_drewN|apply below_drew1|refine below_set ?_ GE780.out|refine below_set ?_ GE781.out|refine below_set ?_ GE782.out)|exact HB.out)⟩
def ancepsref40_Made.l0:Nat→List (S46)→List (S34)→Int→Option ((List (S34)))
 | 0,_,_,_=>none
 | k+1,x0,x3,x4=>if x4<(x0.length:Int) then (if x4<6 then (if 0≤x4 then ((ancepsref38_Made.f k (Int.tmod ((rd_T46 x0 x4).f0) 256) ((rd_T46 x0 x4).f1)).bind fun bt791=>(if x3.length<2932031007402 then (ancepsref40_Made.l0 k x0 (x3++[(⟨bt791.1,bt791.2⟩:S34)]) (wrap64 (x4+1))) else (none))) else (none)) else (some x3)) else (some x3)
def ancepsref40_Made.f (k:Nat) (l0:List (S46)):Option ((List (S34))):=ancepsref40_Made.l0 k l0 ([]:List (S34)) 0
theorem ancepsref40_Made.mono_l:∀ k,(∀ y0 y1 y2,LeO (ancepsref40_Made.l0 k y0 y1 y2) (ancepsref40_Made.l0 (k+1) y0 y1 y2))
 | 0=>fun _ _ _ r h=>by simp [ancepsref40_Made.l0] at h
 | k+1=>by
  have ih0:=ancepsref40_Made.mono_l k
  ·intro y0 y1 y2
   unfold ancepsref40_Made.l0
   repeat' first
   | (with_reducible exact ih0 _ _ _)
   | (with_reducible exact ancepsref38_Made.mono _ _ _)
   | (with_reducible exact LeO.refl _)
   | (with_reducible exact LeO.none _)
   | (with_reducible refine LeO.ite ?_ ?_)
   | (with_reducible refine LeO.bind ?_ (fun _=>?_))
   | exact LeO.none _
   | refine LeO.ite ?_ ?_
   | refine LeO.bind ?_ (fun _=>?_)
theorem ancepsref40_Made.mono:∀ a0 k,LeO (ancepsref40_Made.f k a0) (ancepsref40_Made.f (k+1) a0):=by
 intro a0 k
 have ih0:=ancepsref40_Made.mono_l k
 unfold ancepsref40_Made.f
 repeat' first
   | (with_reducible exact ih0 _ _ _)
   | (with_reducible exact ancepsref38_Made.mono _ _ _)
   | (with_reducible exact LeO.refl _)
   | (with_reducible exact LeO.none _)
   | (with_reducible refine LeO.ite ?_ ?_)
   | (with_reducible refine LeO.bind ?_ (fun _=>?_))
   | exact LeO.none _
   | refine LeO.ite ?_ ?_
   | refine LeO.bind ?_ (fun _=>?_)
set_option maxHeartbeats 8000000 in
set_option maxRecDepth 100000 in
theorem ancepsref40_Made.calls (k:Nat) (A0:Option Addr) (c0:Nat) (l0:List (S46)) (r:List (S34)) (w:World) (hr0:Kd.C k46 w A0 l0.length l0) (hc0:l0.length≤c0) (h:ancepsref40_Made.f k l0=some r) :
  Calls Try.prog 18 #[.slice A0 l0.length c0] w fun e w'=>∃ v0_:Value,e=.returned (v0_)∧Kd.S k34 34 w' w.heap.size (fun _=>True) v0_ r∧Below w.heap.size w w':=by
 have hu46:=Try.underlying46
 have hu43:=Try.underlying43
 have HR0:=zA hr0
 have HC0:=zA hc0
 clear hr0 hc0
 have HB:=zA (Below.refl w.heap.size w)
 have H:(ancepsref40_Made.l0 k l0 ([]:List (S34)) 0)=some r:=h
 clear h
 have H':=zA H
 clear H
 go_enter Try.func18,Try.ntmps18
 go_wp2
 go_loopg [3,4] k (fun kq v3 v4 w'=>∃ (x3_1:List (S34)) (x4_1:Int),v4=.int .i64 x4_1∧Aside0 (ancepsref40_Made.l0 kq l0 x3_1 x4_1=some r)∧Aside0 (kq≤k)∧Aside0 (Kd.S k34 34 w' w.heap.size (fun _=>True) v3 x3_1)∧Aside0 (Below w.heap.size w w'))
 case atStart=>exact ⟨(([]:List (S34))),(0),zT,H',⟨Nat.le_refl _⟩,⟨by first|exact Kd.S_nil _ _ _ _ _|exact Kd.N_nil _ _ _ _ _|exact Kd.V_nil _ _ _ _ _|exact Kd.Q_nil _ _ _ _ _|exact Kd.R_nil _ _ _ _ _⟩,⟨by repeat (first|(with_reducible first|exact HB.out|apply below_alloc|apply pw_below_drewN|apply below_drew1)|exact HB.out)⟩⟩
 case round=>
  clear H'
  obtain ⟨x3_1,x4_1,rfl,HA,HK1,HO_3,HB⟩:=hrel
  cases gk with
  | zero=>exact absurd HA.out (by simp [ancepsref40_Made.l0])
  | succ k1=>
   have H:=HA.out
   clear HA
   simp only [ancepsref40_Made.l0] at H
   by_cases c2:x4_1<(l0.length:Int)
   ·rw [if_pos c2] at H
    have c2b0:decide (x4_1<(l0.length:Int))=true:=decide_eq_true c2
    clear c2
    by_cases c3:x4_1<6
    ·rw [if_pos c3] at H
     have c3b0:decide (x4_1<6)=true:=decide_eq_true c3
     clear c3
     by_cases c4:0≤x4_1
     ·rw [if_pos c4] at H
      have c4b0:decide (0≤x4_1)=true:=decide_eq_true c4
      clear c4
      replace H:=Option.bind_eq_some_iff.mp H
      obtain ⟨⟨t791,t794⟩,A50,H⟩:=H
      replace H:(if x3_1.length<2932031007402 then (ancepsref40_Made.l0 k1 l0 (x3_1++[(⟨t791,t794⟩:S34)]) (wrap64 (x4_1+1))) else (none))=some r:=H
      have A5:=zA A50
      clear A50
      by_cases c6:x3_1.length<2932031007402
      ·rw [if_pos c6] at H
       have LMc6:=zA c6
       clear c6
       obtain ⟨y797,hy797⟩:∃ y_:List (S34),y_=(x3_1++[(⟨t791,t794⟩:S34)]):=⟨_,rfl⟩
       replace H:(ancepsref40_Made.l0 k1 l0 y797 (wrap64 (x4_1+1)))=some r:=by first|(rw [hy797];with_reducible exact H)|(have H2_:=(Option.bind_some _ _).symm.trans H;rw [hy797];with_reducible exact H2_)|(have H2_:=(Option.bind_some _ _).symm.trans H;with_reducible exact H2_)|with_reducible exact H|(rw [hy797];exact H)|exact H
       have Ny797:=zA hy797
       clear hy797
       have H':=zA H
       clear H
       have p789:0≤(x4_1:Int):=of_decide_eq_true zh
       have q789:x4_1<(l0.length:Int):=of_decide_eq_true zh
       obtain ⟨ad789,e789,hx789_0,hx789_1⟩:=at_T46 HR0.out x4_1 p789 q789
       cases e789
       replace hx789_0:=(HB.out.cell (World.block_lt_of_cell? w _ hx789_0)).trans hx789_0
       replace hx789_1:=(HB.out.cell (World.block_lt_of_cell? w _ hx789_1)).trans hx789_1
       replace p789:=eq_true p789
       replace q789:=eq_true q789
       go_wp2_with (first|((with_reducible refine gate_dst (N:=5) rfl ?_);refine box_event ?hg (N:=5) ?hd (cs:=#[.int .u32 0,.int .u64 0]) (t:=46) ?hr ?_;(case hd=>rfl);(case hg=>rfl);(case hr=>first|(go_simp;done)|(go_simp;rfl));intro gb790 hg w7 hbox hb;have BK790:=zA (hbox);have GW790:=zA (zG hg (below_size zB):w.heap.size≤gb790);have GE790:=GW790;replace HO_3:=zA (Kd.S_below (zS HO_3) hb);replace HB:=zA (below_step zB hb);clear hb hbox hg;have hcz8_0:w7.cell? ⟨gb790,0,none⟩=some (.int .u32 0):=(blk_cell BK790.out 0).trans rfl;have hcz8_1:w7.cell? ⟨gb790,1,none⟩=some (.int .u64 0):=(blk_cell BK790.out 1).trans rfl;have hfz8_0:=blk_frozen BK790.out 0;have hfz8_1:=blk_frozen BK790.out 1)|((with_reducible refine gate_callee (f:=19) rfl ?_);refine goesL_ (some 26) rfl rfl Try.func19 zK rfl #[.agg #[.int .u32 (Int.tmod ((rd_T46 l0 x4_1).f0) 256),.int .u64 ((rd_T46 l0 x4_1).f1)]] rfl zM ?_;(with_reducible refine (ancepsref38_Made.calls k1 (Int.tmod ((rd_T46 l0 x4_1).f0) 256) ((rd_T46 l0 x4_1).f1) t791 t794 _ A5.out).mono ?_);rintro e w9 ⟨v792,v795,rfl,ho0,ho1,hb⟩;refine ⟨_,rfl,?_⟩;have HO793:=zA (Kd.R_lower ho0 (below_size zB));have HO796:=zA (Kd.R_lower ho1 (below_size zB));replace HO_3:=zA (Kd.S_mono (Kd.S_told (Kd.S_told (Kd.S_old (by (with_reducible repeat (first|apply Kd.S_alloc|apply Kd.S_drewN|apply Kd.S_drew));exact (Kd.S_mono (Kd.S_far (p:=⟨gb790,0,none⟩) (Kd.S_far (p:=⟨gb790,1,none⟩) (Kd.S_far (p:=⟨gb790,0,none⟩) (Kd.S_types HO_3.out BK790.out (by decide)) (fun _ hk=>hk.2) (.int .u32 ((rd_T46 l0 x4_1).f0))) (fun _ hk=>hk.2) (.int .u64 ((rd_T46 l0 x4_1).f1))) (fun _ hk=>hk.2) (.int .u32 (Int.tmod ((rd_T46 l0 x4_1).f0) 256))) (fun _ h_=>h_.1))) hb) (Kd.R_base ho0)) (Kd.R_base ho1)) (fun _ h_=>h_.1));replace BK790:=zA (blk_below (g:=gb790) (o:=.cells #[.int .u32 (Int.tmod ((rd_T46 l0 x4_1).f0) 256),.int .u64 ((rd_T46 l0 x4_1).f1)] 46 (0,0)) (by refine zj ?_;refine blk_put (cs:=#[.int .u32 ((rd_T46 l0 x4_1).f0),.int .u64 ((rd_T46 l0 x4_1).f1)]) ?_ 0 _ rfl;refine zj ?_;refine blk_put (cs:=#[.int .u32 ((rd_T46 l0 x4_1).f0),.int .u64 0]) ?_ 1 _ rfl;refine zj ?_;refine blk_put (cs:=#[.int .u32 0,.int .u64 0]) ?_ 0 _ rfl;refine zj ?_;exact BK790.out) hb);replace HB:=zA (below_step zB hb);(try clear hb);(try clear hb2);(try clear hk);(try clear hi);(try clear ho0);(try clear ho1);obtain ⟨Ao11,co11,eo11⟩:=Kd.R_slice HO793.out;subst eo11;obtain ⟨Ao12,co12,eo12⟩:=Kd.R_slice HO796.out;subst eo12)|((with_reducible refine gate_builtin (b:=.append) (xs:=#[.tmp 24,.tmp 27]) rfl ?_);at_builtin;refine Kd.S_append k34 (w0:=w) w.heap.size rfl (.tmp 24) (.tmp 27) 22 34 (.agg #[(.slice none 0 0),(.slice none 0 0)]) 48 rfl Try.underlying22 info34 rfl (by decide) (by omega) u3 x3_1 (⟨t791,t794⟩:S34) [.slice Ao11 t791.length co11,.slice Ao12 t794.length co12] (fun _=>True) (fun k_=>some k_=(.slice Ao11 t791.length co11:Value).ownBlock∨some k_=(.slice Ao12 t794.length co12:Value).ownBlock) rfl rfl ?aP (fun k_ hk_=>hk_.elim (fun h_=>((Kd.R_mono (ok':=fun k_=>((fun _=>True)) k_∧some k_≠(u3:Value).ownBlock) (Kd.R_apart' (HO793.out) (Kd.S_typed HO_3.out) (by decide)) (fun k_ hk=>⟨trivial,hk.2⟩))).1 k_ h_.symm) (fun h_=>((Kd.R_mono (ok':=fun k_=>((fun _=>True)) k_∧some k_≠(u3:Value).ownBlock) (Kd.R_apart' (HO796.out) (Kd.S_typed HO_3.out) (by decide)) (fun k_ hk=>⟨trivial,hk.2⟩))).1 k_ h_.symm)) ?aF ?aO ?aB ?aS ?aL ?_;(case aP=>exact k34_mkM _ _ _ (⟨t791,t794⟩:S34) (Kd.R_mono (Kd.R_tight rfl (Kd.R_mono (ok':=fun k_=>((fun _=>True)) k_∧some k_≠(u3:Value).ownBlock) (Kd.R_apart' (HO793.out) (Kd.S_typed HO_3.out) (by decide)) (fun k_ hk=>⟨trivial,hk.2⟩))) (fun _ h_=>Or.inl h_)) (Kd.R_mono (Kd.R_tight rfl (Kd.R_mono (ok':=fun k_=>((fun _=>True)) k_∧some k_≠(u3:Value).ownBlock) (Kd.R_apart' (HO796.out) (Kd.S_typed HO_3.out) (by decide)) (fun k_ hk=>⟨trivial,hk.2⟩))) (fun _ h_=>Or.inr (h_))));(case aB=>exact zB);(case aF=>exact (fun _ _=>trivial));(case aO=>exact (by (with_reducible repeat (first|apply Kd.S_alloc|apply Kd.S_drewN|apply Kd.S_drew));exact Kd.S_mono HO_3.out (fun k_ hk=>⟨trivial,fun e_=>e_.elim (fun h_=>hk.1.2 h_) (fun h_=>hk.2 h_)⟩)));(case aS=>exact (below_size zB));(case aL=>have:=LMc6.out;omega);intro v798 w10 ho hb hg hat;rw [← Ny797.out] at ho;have HO799:=zA (ho);replace BK790:=zA (blk_grown (g:=gb790) (o:=.cells #[.int .u32 (Int.tmod ((rd_T46 l0 x4_1).f0) 256),.int .u64 ((rd_T46 l0 x4_1).f1)] 46 (0,0)) (zk BK790) hg (Kd.S_ne HO_3.out BK790.out (by decide)));replace HB:=zA (hb);clear HO_3 HO793 HO796;clear ho hb hg hat))
       go_roundg k1
       case measure=>have:=HK1.out;omega
       case rel=>exact ⟨(y797),(wrap64 (x4_1+1)),zT,H',⟨by have:=HK1.out;omega⟩,⟨by (with_reducible repeat (first|apply Kd.S_alloc|apply Kd.S_drewN|apply Kd.S_drew));exact HO799.out⟩,⟨by repeat (first|(with_reducible first|exact HB.out|apply below_alloc|apply pw_below_drewN|apply below_drew1|refine below_set ?_ GE790.out)|exact HB.out)⟩⟩
      ·rw [if_neg c6] at H
       exact absurd H (by simp)
     ·rw [if_neg c4] at H
      exact absurd H (by simp)
    ·rw [if_neg c3] at H
     have c3b0:decide (x4_1<6)=false:=decide_eq_false c3
     clear c3
     obtain rfl:=Option.some.inj H
     go_wp2
     go_ret
     exact ⟨_,ze,by (with_reducible repeat (first|apply Kd.S_alloc|apply Kd.S_drewN|apply Kd.S_drew));exact HO_3.out,by repeat (first|(with_reducible first|exact HB.out|apply below_alloc|apply pw_below_drewN|apply below_drew1)|exact HB.out)⟩
   ·rw [if_neg c2] at H
    have c2b0:decide (x4_1<(l0.length:Int))=false:=decide_eq_false c2
    clear c2
    obtain rfl:=Option.some.inj H
    go_wp2
    go_ret
    exact ⟨_,ze,by (with_reducible repeat (first|apply Kd.S_alloc|apply Kd.S_drewN|apply Kd.S_drew));exact HO_3.out,by repeat (first|(with_reducible first|exact HB.out|apply below_alloc|apply pw_below_drewN|apply below_drew1)|exact HB.out)⟩
def ancepslaw41_SharedMore.l0:Nat→List (S34)→List (S34)→List Int→Int→Int→Option (Bool)
 | 0,_,_,_,_,_=>none
 | k+1,x5,x6,x38,x39,x40=>if x40<x39 then (if 0≤x40 then (if x40<(x38.length:Int) then ((ancepslaw41_own.f k x5).bind fun t824=>((shared_Value.f k t824 (rd x38 x40)).bind fun bt827=>((ancepslaw41_own.f k x6).bind fun t829=>((shared_Value.f k t829 (rd x38 x40)).bind fun bt832=>(if bt827.2=12 then (if bt832.2=12 then (if bt827.2=0 then (if bt832.2=0 then (if bt827.1=3 then (ancepslaw41_SharedMore.l0 k x5 x6 x38 x39 (wrap64 (x40+1))) else (if bt827.1=bt832.1 then (ancepslaw41_SharedMore.l0 k x5 x6 x38 x39 (wrap64 (x40+1))) else (none))) else (ancepslaw41_SharedMore.l0 k x5 x6 x38 x39 (wrap64 (x40+1)))) else (ancepslaw41_SharedMore.l0 k x5 x6 x38 x39 (wrap64 (x40+1)))) else (none)) else (if bt827.2=0 then (if bt832.2=0 then (if bt827.1=3 then (ancepslaw41_SharedMore.l0 k x5 x6 x38 x39 (wrap64 (x40+1))) else (if bt827.1=bt832.1 then (ancepslaw41_SharedMore.l0 k x5 x6 x38 x39 (wrap64 (x40+1))) else (none))) else (if bt832.2=12 then (ancepslaw41_SharedMore.l0 k x5 x6 x38 x39 (wrap64 (x40+1))) else (none))) else (ancepslaw41_SharedMore.l0 k x5 x6 x38 x39 (wrap64 (x40+1))))))))) else (none)) else (none)) else (some true)
def ancepslaw41_SharedMore.f (k:Nat) (l0:List (S46)) (a1_0:Int) (a1_1:Int):Option (Bool):=(ancepsref40_Made.f k l0).bind fun t801=>((ancepslaw41_awake.f k).bind fun t804=>(if t804=true then (if (l0.length:Int)>10 then ((ancepslaw41_awake.f k).bind fun t805=>(some t805)) else ((ancepsref41_FewTables.f k t801).bind fun t806=>(if t806=true then ((ancepslaw41_own.f k t801).bind fun t807=>((ancepsref38_Made.f k a1_0 a1_1).bind fun bt810=>(if t807.length<2932031007402 then ((some (t807++[(⟨bt810.1,bt810.2⟩:S34)]:List (S34))).bind fun y816=>((ancepsref41_FewTables.f k y816).bind fun t819=>(if t819=true then ((ancepsref40_Vars.f k t801).bind fun t820=>(ancepslaw41_SharedMore.l0 k t801 y816 t820 (t820.length:Int) 0)) else (some true)))) else (none)))) else ((ancepslaw41_awake.f k).bind fun t834=>(some t834))))) else ((ancepslaw41_awake.f k).bind fun t835=>(some t835))))
theorem ancepslaw41_SharedMore.mono_l:∀ k,(∀ y0 y1 y2 y3 y4,LeO (ancepslaw41_SharedMore.l0 k y0 y1 y2 y3 y4) (ancepslaw41_SharedMore.l0 (k+1) y0 y1 y2 y3 y4))
 | 0=>fun _ _ _ _ _ r h=>by simp [ancepslaw41_SharedMore.l0] at h
 | k+1=>by
  have ih0:=ancepslaw41_SharedMore.mono_l k
  ·intro y0 y1 y2 y3 y4
   unfold ancepslaw41_SharedMore.l0
   repeat' first
   | (with_reducible exact ih0 _ _ _ _ _)
   | (with_reducible exact ancepslaw41_awake.mono _)
   | (with_reducible exact ancepslaw41_own.mono _ _)
   | (with_reducible exact ancepsref38_Made.mono _ _ _)
   | (with_reducible exact ancepsref40_Made.mono _ _)
   | (with_reducible exact ancepsref40_Vars.mono _ _)
   | (with_reducible exact ancepsref41_FewTables.mono _ _)
   | (with_reducible exact shared_Value.mono _ _ _)
   | (with_reducible exact LeO.refl _)
   | (with_reducible exact LeO.none _)
   | (with_reducible refine LeO.ite ?_ ?_)
   | (with_reducible refine LeO.bind ?_ (fun _=>?_))
   | exact LeO.none _
   | refine LeO.ite ?_ ?_
   | refine LeO.bind ?_ (fun _=>?_)
theorem ancepslaw41_SharedMore.mono:∀ a0 a1 a2 k,LeO (ancepslaw41_SharedMore.f k a0 a1 a2) (ancepslaw41_SharedMore.f (k+1) a0 a1 a2):=by
 intro a0 a1 a2 k
 have ih0:=ancepslaw41_SharedMore.mono_l k
 unfold ancepslaw41_SharedMore.f
 repeat' first
   | (with_reducible exact ih0 _ _ _ _ _)
   | (with_reducible exact ancepslaw41_awake.mono _)
   | (with_reducible exact ancepslaw41_own.mono _ _)
   | (with_reducible exact ancepsref38_Made.mono _ _ _)
   | (with_reducible exact ancepsref40_Made.mono _ _)
   | (with_reducible exact ancepsref40_Vars.mono _ _)
   | (with_reducible exact ancepsref41_FewTables.mono _ _)
   | (with_reducible exact shared_Value.mono _ _ _)
   | (with_reducible exact LeO.refl _)
   | (with_reducible exact LeO.none _)
   | (with_reducible refine LeO.ite ?_ ?_)
   | (with_reducible refine LeO.bind ?_ (fun _=>?_))
   | exact LeO.none _
   | refine LeO.ite ?_ ?_
   | refine LeO.bind ?_ (fun _=>?_)
set_option maxHeartbeats 8000000 in
set_option maxRecDepth 100000 in
theorem ancepslaw41_SharedMore.calls (k:Nat) (A0:Option Addr) (c0:Nat) (l0:List (S46)) (a1_0:Int) (a1_1:Int) (r:Bool) (w:World) (hr0:Kd.C k46 w A0 l0.length l0) (hc0:l0.length≤c0) (h:ancepslaw41_SharedMore.f k l0 a1_0 a1_1=some r) :
  Calls Try.prog 5 #[.slice A0 l0.length c0,.agg #[.int .u32 a1_0,.int .u64 a1_1]] w fun e w'=>e=.returned (.bool r)∧Below w.heap.size w w':=by
 have hu46:=Try.underlying46
 have hu3:=Try.underlying3
 have HR0:=zA hr0
 have HC0:=zA hc0
 clear hr0 hc0
 have HB:=zA (Below.refl w.heap.size w)
 have H:((ancepsref40_Made.f k l0).bind fun t801=>((ancepslaw41_awake.f k).bind fun t804=>(if t804=true then (if (l0.length:Int)>10 then ((ancepslaw41_awake.f k).bind fun t805=>(some t805)) else ((ancepsref41_FewTables.f k t801).bind fun t806=>(if t806=true then ((ancepslaw41_own.f k t801).bind fun t807=>((ancepsref38_Made.f k a1_0 a1_1).bind fun bt810=>(if t807.length<2932031007402 then ((some (t807++[(⟨bt810.1,bt810.2⟩:S34)]:List (S34))).bind fun y816=>((ancepsref41_FewTables.f k y816).bind fun t819=>(if t819=true then ((ancepsref40_Vars.f k t801).bind fun t820=>(ancepslaw41_SharedMore.l0 k t801 y816 t820 (t820.length:Int) 0)) else (some true)))) else (none)))) else ((ancepslaw41_awake.f k).bind fun t834=>(some t834))))) else ((ancepslaw41_awake.f k).bind fun t835=>(some t835)))))=some r:=h
 clear h
 replace H:=Option.bind_eq_some_iff.mp H
 obtain ⟨t801,A30,H⟩:=H
 replace H:((ancepslaw41_awake.f k).bind fun t804=>(if t804=true then (if (l0.length:Int)>10 then ((ancepslaw41_awake.f k).bind fun t805=>(some t805)) else ((ancepsref41_FewTables.f k t801).bind fun t806=>(if t806=true then ((ancepslaw41_own.f k t801).bind fun t807=>((ancepsref38_Made.f k a1_0 a1_1).bind fun bt810=>(if t807.length<2932031007402 then ((some (t807++[(⟨bt810.1,bt810.2⟩:S34)]:List (S34))).bind fun y816=>((ancepsref41_FewTables.f k y816).bind fun t819=>(if t819=true then ((ancepsref40_Vars.f k t801).bind fun t820=>(ancepslaw41_SharedMore.l0 k t801 y816 t820 (t820.length:Int) 0)) else (some true)))) else (none)))) else ((ancepslaw41_awake.f k).bind fun t834=>(some t834))))) else ((ancepslaw41_awake.f k).bind fun t835=>(some t835))))=some r:=H
 have A3:=zA A30
 clear A30
 have HC4:=zA H
 clear H
 go_enter Try.func5,Try.ntmps5
 go_upto_region 2 with (first|((with_reducible refine gate_dst (N:=3) rfl ?_);(try (refine gate_guard (by rfl) ?_;dsimp only));refine box_event ?hg (N:=3) ?hd (cs:=#[.int .u32 a1_0,.int .u64 a1_1]) (t:=46) ?hr ?_;(case hd=>rfl);(case hg=>rfl);(case hr=>first|(go_simp;done)|(go_simp;rfl));intro gb800 hg w5 hbox hb;have BK800:=zA (hbox);have GW800:=zA (zG hg (below_size zB):w.heap.size≤gb800);have GE800:=GW800;replace HB:=zA (below_step zB hb);clear hb hbox hg)|((with_reducible refine gate_callee (f:=18) rfl ?_);refine goesL_ (some 14) rfl rfl Try.func18 zK rfl #[.slice A0 l0.length c0] rfl zM ?_;(with_reducible refine (ancepsref40_Made.calls k _ _ l0 t801 _ ?side1 ?side2 A3.out).mono ?_);(case side1=>exact zC (Kd.C_below HR0.out HB.out));(case side2=>exact HC0.out);rintro e w6 ⟨v802,rfl,ho0,hb⟩;refine ⟨_,rfl,?_⟩;have HO803:=zA (Kd.S_lower ho0 (below_size zB));replace BK800:=zA (zb BK800 hb);replace HB:=zA (below_step zB hb);(try clear hb);(try clear hb2);(try clear hk);(try clear hi);(try clear ho0)))
 (try simp only [Act.put,zi,zs,zt])
 have H:=HC4.out
 clear HC4
 replace H:=Option.bind_eq_some_iff.mp H
 obtain ⟨t804,A70,H⟩:=H
 replace H:(if t804=true then (if (l0.length:Int)>10 then ((ancepslaw41_awake.f k).bind fun t805=>(some t805)) else ((ancepsref41_FewTables.f k t801).bind fun t806=>(if t806=true then ((ancepslaw41_own.f k t801).bind fun t807=>((ancepsref38_Made.f k a1_0 a1_1).bind fun bt810=>(if t807.length<2932031007402 then ((some (t807++[(⟨bt810.1,bt810.2⟩:S34)]:List (S34))).bind fun y816=>((ancepsref41_FewTables.f k y816).bind fun t819=>(if t819=true then ((ancepsref40_Vars.f k t801).bind fun t820=>(ancepslaw41_SharedMore.l0 k t801 y816 t820 (t820.length:Int) 0)) else (some true)))) else (none)))) else ((ancepslaw41_awake.f k).bind fun t834=>(some t834))))) else ((ancepslaw41_awake.f k).bind fun t835=>(some t835)))=some r:=H
 have A7:=zA A70
 clear A70
 by_cases c8:t804=true
 ·subst c8
  have H1:(if (l0.length:Int)>10 then ((ancepslaw41_awake.f k).bind fun t805=>(some t805)) else ((ancepsref41_FewTables.f k t801).bind fun t806=>(if t806=true then ((ancepslaw41_own.f k t801).bind fun t807=>((ancepsref38_Made.f k a1_0 a1_1).bind fun bt810=>(if t807.length<2932031007402 then ((some (t807++[(⟨bt810.1,bt810.2⟩:S34)]:List (S34))).bind fun y816=>((ancepsref41_FewTables.f k y816).bind fun t819=>(if t819=true then ((ancepsref40_Vars.f k t801).bind fun t820=>(ancepslaw41_SharedMore.l0 k t801 y816 t820 (t820.length:Int) 0)) else (some true)))) else (none)))) else ((ancepslaw41_awake.f k).bind fun t834=>(some t834)))))=some r:=by rw [if_pos rfl] at H;exact H
  clear H
  have H:=H1
  clear H1
  by_cases c9:(l0.length:Int)>10
  ·rw [if_pos c9] at H
   have c9b0:decide (10<(l0.length:Int))=true:=decide_eq_true c9
   have c9b1:decide (10<l0.length)=true:=decide_eq_true (by omega)
   clear c9
   (first|rw [c9b0]|(simp only [i64_w,i32_w];rw [c9b0])|skip)
   (try rw [c9b1])
   replace H:=Option.bind_eq_some_iff.mp H
   obtain ⟨t805,A100,H⟩:=H
   replace H:(some t805)=some r:=H
   have A10:=zA A100
   clear A100
   obtain rfl:=Option.some.inj H
   go_wp2_with (first|((with_reducible refine gate_callee (f:=6) rfl ?_);refine goesL_ (some 15) rfl rfl Try.func6 zK rfl #[] rfl zM ?_;(with_reducible refine (ancepslaw41_awake.calls k  true _ A7.out).mono ?_);rintro e w11 ⟨rfl,hb⟩;refine ⟨_,rfl,?_⟩;replace HO803:=zA (Kd.S_below (zS HO803) hb);replace BK800:=zA (zb BK800 hb);replace HB:=zA (below_step zB hb);(try clear hb);(try clear hb2);(try clear hk);(try clear hi))|((with_reducible refine gate_callee (f:=6) rfl ?_);refine goesL_ (some 27) rfl rfl Try.func6 zK rfl #[] rfl zM ?_;(with_reducible refine (ancepslaw41_awake.calls k  t805 _ A10.out).mono ?_);rintro e w12 ⟨rfl,hb⟩;refine ⟨_,rfl,?_⟩;replace HO803:=zA (Kd.S_below (zS HO803) hb);replace BK800:=zA (zb BK800 hb);replace HB:=zA (below_step zB hb);(try clear hb);(try clear hb2);(try clear hk);(try clear hi)))
   go_ret
   exact ⟨ze,by repeat (first|(with_reducible first|exact HB.out|apply below_alloc|apply pw_below_drewN|apply below_drew1|refine below_set ?_ GE800.out)|exact HB.out)⟩
  ·rw [if_neg c9] at H
   have c9b0:decide (10<(l0.length:Int))=false:=decide_eq_false c9
   have c9b1:decide (10<l0.length)=false:=decide_eq_false (by omega)
   clear c9
   (first|rw [c9b0]|(simp only [i64_w,i32_w];rw [c9b0])|skip)
   (try rw [c9b1])
   replace H:=Option.bind_eq_some_iff.mp H
   obtain ⟨t806,A130,H⟩:=H
   replace H:(if t806=true then ((ancepslaw41_own.f k t801).bind fun t807=>((ancepsref38_Made.f k a1_0 a1_1).bind fun bt810=>(if t807.length<2932031007402 then ((some (t807++[(⟨bt810.1,bt810.2⟩:S34)]:List (S34))).bind fun y816=>((ancepsref41_FewTables.f k y816).bind fun t819=>(if t819=true then ((ancepsref40_Vars.f k t801).bind fun t820=>(ancepslaw41_SharedMore.l0 k t801 y816 t820 (t820.length:Int) 0)) else (some true)))) else (none)))) else ((ancepslaw41_awake.f k).bind fun t834=>(some t834)))=some r:=H
   have A13:=zA A130
   clear A130
   have HC14:=zA H
   clear H
   go_upto_if 26 with (first|((with_reducible refine gate_callee (f:=6) rfl ?_);refine goesL_ (some 15) rfl rfl Try.func6 zK rfl #[] rfl zM ?_;(with_reducible refine (ancepslaw41_awake.calls k  true _ A7.out).mono ?_);rintro e w15 ⟨rfl,hb⟩;refine ⟨_,rfl,?_⟩;replace HO803:=zA (Kd.S_below (zS HO803) hb);replace BK800:=zA (zb BK800 hb);replace HB:=zA (below_step zB hb);(try clear hb);(try clear hb2);(try clear hk);(try clear hi);obtain ⟨Ao16,co16,eo16⟩:=Kd.S_slice HO803.out;subst eo16)|(go_at_call 7;(with_reducible refine (ancepsref41_FewTables.calls k _ _ t801 t806 _ ?side1 ?side2 A13.out).mono ?_);(case side1=>exact zC (Kd.S_reads' HO803.out).2.2);(case side2=>exact (Kd.S_reads' HO803.out).2.1);rintro e w17 ⟨rfl,hb⟩;replace HO803:=zA (Kd.S_below (zS HO803) hb);replace BK800:=zA (zb BK800 hb);replace HB:=zA (below_step zB hb);(try clear hb);(try clear hb2);(try clear hk);(try clear hi)))
   (try simp only [Act.put,zi,zs,zt])
   have H:=HC14.out
   clear HC14
   by_cases c18:t806=true
   ·subst c18
    have H1:((ancepslaw41_own.f k t801).bind fun t807=>((ancepsref38_Made.f k a1_0 a1_1).bind fun bt810=>(if t807.length<2932031007402 then ((some (t807++[(⟨bt810.1,bt810.2⟩:S34)]:List (S34))).bind fun y816=>((ancepsref41_FewTables.f k y816).bind fun t819=>(if t819=true then ((ancepsref40_Vars.f k t801).bind fun t820=>(ancepslaw41_SharedMore.l0 k t801 y816 t820 (t820.length:Int) 0)) else (some true)))) else (none))))=some r:=by rw [if_pos rfl] at H;exact H
    clear H
    have H:=H1
    clear H1
    replace H:=Option.bind_eq_some_iff.mp H
    obtain ⟨t807,A190,H⟩:=H
    replace H:((ancepsref38_Made.f k a1_0 a1_1).bind fun bt810=>(if t807.length<2932031007402 then ((some (t807++[(⟨bt810.1,bt810.2⟩:S34)]:List (S34))).bind fun y816=>((ancepsref41_FewTables.f k y816).bind fun t819=>(if t819=true then ((ancepsref40_Vars.f k t801).bind fun t820=>(ancepslaw41_SharedMore.l0 k t801 y816 t820 (t820.length:Int) 0)) else (some true)))) else (none)))=some r:=H
    have A19:=zA A190
    clear A190
    replace H:=Option.bind_eq_some_iff.mp H
    obtain ⟨⟨t810,t813⟩,A200,H⟩:=H
    replace H:(if t807.length<2932031007402 then ((some (t807++[(⟨t810,t813⟩:S34)]:List (S34))).bind fun y816=>((ancepsref41_FewTables.f k y816).bind fun t819=>(if t819=true then ((ancepsref40_Vars.f k t801).bind fun t820=>(ancepslaw41_SharedMore.l0 k t801 y816 t820 (t820.length:Int) 0)) else (some true)))) else (none))=some r:=H
    have A20:=zA A200
    clear A200
    by_cases c21:t807.length<2932031007402
    ·rw [if_pos c21] at H
     have LMc21:=zA c21
     clear c21
     obtain ⟨y816,hy816⟩:∃ y_:List (S34),y_=(t807++[(⟨t810,t813⟩:S34)]):=⟨_,rfl⟩
     replace H:((ancepsref41_FewTables.f k y816).bind fun t819=>(if t819=true then ((ancepsref40_Vars.f k t801).bind fun t820=>(ancepslaw41_SharedMore.l0 k t801 y816 t820 (t820.length:Int) 0)) else (some true)))=some r:=by first|(rw [hy816];with_reducible exact H)|(have H2_:=(Option.bind_some _ _).symm.trans H;rw [hy816];with_reducible exact H2_)|(have H2_:=(Option.bind_some _ _).symm.trans H;with_reducible exact H2_)|with_reducible exact H|(rw [hy816];exact H)|exact H
     have Ny816:=zA hy816
     clear hy816
     replace H:=Option.bind_eq_some_iff.mp H
     obtain ⟨t819,A220,H⟩:=H
     replace H:(if t819=true then ((ancepsref40_Vars.f k t801).bind fun t820=>(ancepslaw41_SharedMore.l0 k t801 y816 t820 (t820.length:Int) 0)) else (some true))=some r:=H
     have A22:=zA A220
     clear A220
     have HC23:=zA H
     clear H
     try go_wp2
     replace HO803:=zA (Kd.S_drew HO803.out)
     replace BK800:=zA (blk_drew BK800.out)
     replace HB:=zA (below_drew1 HB.out)
     refine start_ (n:=7) (S:=fun w'=>w'.cell? ⟨gb800,0,none⟩=some (.int .u32 a1_0)∧w'.cell? ⟨gb800,1,none⟩=some (.int .u64 a1_1)) (ds:=[]) #[false,false,false,false,false,false,false] zK rfl rfl ⟨(blk_cell BK800.out 0).trans rfl,(blk_cell BK800.out 1).trans rfl⟩ (fun hHeld=>?_)
     generalize w17.drew=w24 at HO803 BK800 HB hHeld ⊢
     refine pure_ (i:=0) (N:=some 28) (v:=?_) (a':=?_) #[true,false,false,false,false,false,false] rfl rfl zK (fun _ _ _ h=>h) (Or.inl ⟨by rfl,?_⟩) ?_ ?_
     rotate_left
     ·intro w'
      go_simp
      with_reducible rfl
     rotate_left
     ·simp only [Act.put,zi,zs,zt,i64_w,i32_w]
      rfl
     refine take_ (i:=2) (N:=some 30) (v:=?_) (a':=?_) #[true,false,true,false,false,false,false] rfl rfl zK (fun _ _ _ h=>h) (Or.inl ⟨by rfl,?_⟩) hHeld ?_ ?_
     rotate_left
     ·rintro w' ⟨s0,s1⟩
      go_simp
      with_reducible rfl
     rotate_left
     ·simp only [Act.put,zi,zs,zt,i64_w,i32_w]
      rfl
     refine one_ (i:=1) (N:=some 29) #[true,true,true,false,false,false,false] rfl rfl zK (by decide) (fun K hK=>?_)
     refine goes_ Try.func9 zK rfl #[.slice Ao16 t801.length co16] (by rfl) rfl rfl zM ?_
     with_reducible refine (ancepslaw41_own.calls k _ _ t801 t807 _ ?side1 ?side2 A19.out).mono ?_
     (case side1=>exact zC (Kd.S_reads' HO803.out).2.2)
     (case side2=>exact (Kd.S_reads' HO803.out).2.1)
     rintro e w25 ⟨v808,rfl,ho0,hb⟩
     refine ⟨_,rfl,?_⟩
     have HO809:=zA (Kd.S_lower (Kd.S_new' ho0 (Kd.S_lt (zS HO803))) (below_size zB))
     replace HO803:=zA (Kd.S_elder' (zS HO803) (Kd.S_base ho0) hb)
     replace BK800:=zA (zb BK800 hb)
     replace HB:=zA (below_step zB hb)
     (try clear hb)
     (try clear hb2)
     (try clear hk)
     (try clear hi)
     (try clear ho0)
     refine hK.out _ _ ⟨(blk_cell BK800.out 0).trans rfl,(blk_cell BK800.out 1).trans rfl⟩ (fun hHeld=>?_)
     clear hK K
     refine norm_ (a':=?_) ?_ ?_
     rotate_left
     ·show Act.put _ (some 29) _=_
      simp only [Act.put,zi,zs,zt,i64_w,i32_w]
      rfl
     refine one_ (i:=3) (N:=some 31) #[true,true,true,true,false,false,false] rfl rfl zK (by decide) (fun K hK=>?_)
     refine goes_ Try.func19 zK rfl #[.agg #[.int .u32 a1_0,.int .u64 a1_1]] (by rfl) rfl rfl zM ?_
     with_reducible refine (ancepsref38_Made.calls k a1_0 a1_1 t810 t813 _ A20.out).mono ?_
     rintro e w26 ⟨v811,v814,rfl,ho0,ho1,hb⟩
     refine ⟨_,rfl,?_⟩
     have HO812:=zA (Kd.R_lower ho0 (below_size zB))
     have HO815:=zA (Kd.R_lower ho1 (below_size zB))
     replace HO803:=zA (Kd.S_mono (Kd.S_told (Kd.S_told (Kd.S_old (zS HO803) hb) (Kd.R_base ho0)) (Kd.R_base ho1)) (fun _ h_=>h_.1))
     replace HO809:=zA (Kd.S_mono (Kd.S_told (Kd.S_told (Kd.S_old (zS HO809) hb) (Kd.R_base ho0)) (Kd.R_base ho1)) (fun _ h_=>h_.1))
     replace BK800:=zA (zb BK800 hb)
     replace HB:=zA (below_step zB hb)
     (try clear hb)
     (try clear hb2)
     (try clear hk)
     (try clear hi)
     (try clear ho0)
     (try clear ho1)
     obtain ⟨Ao28,co28,eo28⟩:=Kd.R_slice HO812.out
     (first|subst eo28|(injection eo28 with f1_ f2_ f3_;have f4_:=f1_.symm;have f5_:=f3_.symm;clear f1_ f2_ f3_;subst f4_;subst f5_))
     obtain ⟨Ao29,co29,eo29⟩:=Kd.R_slice HO815.out
     (first|subst eo29|(injection eo29 with f1_ f2_ f3_;have f4_:=f1_.symm;have f5_:=f3_.symm;clear f1_ f2_ f3_;subst f4_;subst f5_))
     refine hK.out _ _ ⟨(blk_cell BK800.out 0).trans rfl,(blk_cell BK800.out 1).trans rfl⟩ (fun hHeld=>?_)
     clear hK K
     refine norm_ (a':=?_) ?_ ?_
     rotate_left
     ·show Act.put _ (some 31) _=_
      simp only [Act.put,zi,zs,zt,i64_w,i32_w]
      rfl
     refine one_ (i:=4) (N:=some 32) #[true,true,true,true,true,false,false] rfl rfl zK (by decide) (fun K hK=>?_)
     refine value_ (w1:=?_) (v:=?_) (by rfl) rfl ?_ ?_
     rotate_left 2
     ·go_simp
      constructor
      ·rfl
      ·rfl
     refine hK.out _ _ ⟨(blk_cell (blk_alloc BK800.out _) 0).trans rfl,(blk_cell (blk_alloc BK800.out _) 1).trans rfl⟩ (fun hHeld=>?_)
     clear hK K
     refine norm_ (a':=?_) ?_ ?_
     rotate_left
     ·show Act.put _ (some 32) _=_
      simp only [Act.put,zi,zs,zt,i64_w,i32_w]
      rfl
     refine one_ (i:=5) (N:=some 33) #[true,true,true,true,true,true,false] rfl rfl zK (by decide) (fun K hK=>?_)
     refine Kd.S_append_step k34 (w0:=w) w.heap.size (by rfl) (.tmp 29) (.tmp 32) 22 34 (.agg #[(.slice none 0 0),(.slice none 0 0)]) 48 rfl Try.underlying22 info34 rfl (by decide) (by omega) v808 t807 (⟨t810,t813⟩:S34) [.slice Ao28 t810.length co28,.slice Ao29 t813.length co29] (fun k_=>some k_≠(.slice Ao16 t801.length co16:Value).ownBlock) (fun k_=>some k_=(.slice Ao28 t810.length co28:Value).ownBlock∨some k_=(.slice Ao29 t813.length co29:Value).ownBlock) rfl rfl ?aP (fun k_ hk_=>hk_.elim (fun h_=>((Kd.R_mono (ok':=fun k_=>((fun k_=>some k_≠(.slice Ao16 t801.length co16:Value).ownBlock)) k_∧some k_≠(v808:Value).ownBlock) (Kd.R_apart' (Kd.R_apart' (HO812.out) (Kd.S_typed HO803.out) (by decide)) (Kd.S_typed HO809.out) (by decide)) (fun k_ hk=>⟨hk.1.2,hk.2⟩))).1 k_ h_.symm) (fun h_=>((Kd.R_mono (ok':=fun k_=>((fun k_=>some k_≠(.slice Ao16 t801.length co16:Value).ownBlock)) k_∧some k_≠(v808:Value).ownBlock) (Kd.R_apart' (Kd.R_apart' (HO815.out) (Kd.S_typed HO803.out) (by decide)) (Kd.S_typed HO809.out) (by decide)) (fun k_ hk=>⟨hk.1.2,hk.2⟩))).1 k_ h_.symm)) ?aF ?aO ?aB ?aS ?aL ?_
     (case aP=>exact k34_mkM _ _ _ (⟨t810,t813⟩:S34) (Kd.R_mono (Kd.R_tight rfl (Kd.R_mono (ok':=fun k_=>((fun k_=>some k_≠(.slice Ao16 t801.length co16:Value).ownBlock)) k_∧some k_≠(v808:Value).ownBlock) (Kd.R_apart' (Kd.R_apart' (HO812.out) (Kd.S_typed HO803.out) (by decide)) (Kd.S_typed HO809.out) (by decide)) (fun k_ hk=>⟨hk.1.2,hk.2⟩))) (fun _ h_=>Or.inl h_)) (Kd.R_mono (Kd.R_tight rfl (Kd.R_mono (ok':=fun k_=>((fun k_=>some k_≠(.slice Ao16 t801.length co16:Value).ownBlock)) k_∧some k_≠(v808:Value).ownBlock) (Kd.R_apart' (Kd.R_apart' (HO815.out) (Kd.S_typed HO803.out) (by decide)) (Kd.S_typed HO809.out) (by decide)) (fun k_ hk=>⟨hk.1.2,hk.2⟩))) (fun _ h_=>Or.inr (h_))))
     (case aB=>exact zB)
     (case aF=>exact (fun k_ hk=>Kd.fresh' (Kd.S_lt (zS HO803)) k_ hk))
     (case aO=>exact (by (with_reducible repeat (first|apply Kd.S_alloc|apply Kd.S_drewN|apply Kd.S_drew));exact Kd.S_mono HO809.out (fun k_ hk=>⟨hk.1.1.2,fun e_=>e_.elim (fun h_=>hk.1.2 h_) (fun h_=>hk.2 h_)⟩)))
     (case aS=>exact (below_size zB))
     (case aL=>have:=LMc21.out;omega)
     intro v817 w27 ho hb hg hat
     rw [← Ny816.out] at ho
     have HO818:=zA (ho)
     replace BK800:=zA (blk_grown (g:=gb800) (o:=.cells #[.int .u32 a1_0,.int .u64 a1_1] 46 (0,0)) (zk BK800) hg (Kd.S_ne HO809.out BK800.out (by decide)))
     replace HO803:=zA (Kd.S_after (ok:=(fun k_=>some k_≠(.slice Ao28 t810.length co28:Value).ownBlock∧some k_≠(.slice Ao29 t813.length co29:Value).ownBlock)) (by (with_reducible repeat (first|apply Kd.S_alloc|apply Kd.S_drewN|apply Kd.S_drew));exact Kd.S_mono HO803.out (fun _ hk=>⟨⟨hk.1.2,hk.2⟩,hk.1.1.2⟩)) hg hat)
     replace HB:=zA (hb)
     clear HO809 HO812 HO815
     clear ho hb hg hat
     refine hK.out _ _ ⟨(blk_cell BK800.out 0).trans rfl,(blk_cell BK800.out 1).trans rfl⟩ (fun hHeld=>?_)
     clear hK K
     refine norm_ (a':=?_) ?_ ?_
     rotate_left
     ·show Act.put _ (some 33) _=_
      simp only [Act.put,zi,zs,zt,i64_w,i32_w]
      rfl
     refine pure_ (i:=6) (N:=some 6) (v:=?_) (a':=?_) #[true,true,true,true,true,true,true] rfl rfl zK (fun _ _ _ h=>h) (Or.inl ⟨by rfl,?_⟩) ?_ ?_
     rotate_left
     ·intro w'
      go_simp
      with_reducible rfl
     rotate_left
     ·simp only [Act.put,zi,zs,zt,i64_w,i32_w]
      rfl
     refine done_ zK ?_
     obtain ⟨Ao30,co30,eo30⟩:=Kd.S_slice HO818.out
     subst eo30
     go_upto_if 36 with (first|((with_reducible refine gate_callee (f:=7) rfl ?_);refine goesL_ (some 35) rfl rfl Try.func7 zK rfl #[.slice Ao30 y816.length co30] rfl zM ?_;(with_reducible refine (ancepsref41_FewTables.calls k _ _ y816 t819 _ ?side1 ?side2 A22.out).mono ?_);(case side1=>exact zC (Kd.S_reads' HO818.out).2.2);(case side2=>exact (Kd.S_reads' HO818.out).2.1);rintro e w31 ⟨rfl,hb⟩;refine ⟨_,rfl,?_⟩;replace HO803:=zA (Kd.S_below (zS HO803) hb);replace HO818:=zA (Kd.S_below (zS HO818) hb);replace BK800:=zA (zb BK800 hb);replace HB:=zA (below_step zB hb);(try clear hb);(try clear hb2);(try clear hk);(try clear hi)))
     (try simp only [Act.put,zi,zs,zt])
     have H:=HC23.out
     clear HC23
     by_cases c32:t819=true
     ·subst c32
      have H1:((ancepsref40_Vars.f k t801).bind fun t820=>(ancepslaw41_SharedMore.l0 k t801 y816 t820 (t820.length:Int) 0))=some r:=by rw [if_pos rfl] at H;exact H
      clear H
      have H:=H1
      clear H1
      replace H:=Option.bind_eq_some_iff.mp H
      obtain ⟨t820,A330,H⟩:=H
      replace H:(ancepslaw41_SharedMore.l0 k t801 y816 t820 (t820.length:Int) 0)=some r:=H
      have A33:=zA A330
      clear A330
      have H':=zA H
      clear H
      go_wp2_with (first|((with_reducible refine gate_callee (f:=16) rfl ?_);refine goesL_ (some 38) rfl rfl Try.func16 zK rfl #[.slice Ao16 t801.length co16] rfl zM ?_;(with_reducible refine (ancepsref40_Vars.calls k _ _ t801 t820 _ ?side1 ?side2 A33.out).mono ?_);(case side1=>exact zC (Kd.S_reads' HO803.out).2.2);(case side2=>exact (Kd.S_reads' HO803.out).2.1);rintro e w34 ⟨v821,rfl,ho0,hb⟩;refine ⟨_,rfl,?_⟩;have HO822:=zA (Kd.R_lower ho0 (below_size zB));replace HO803:=zA (Kd.S_elder' (zS HO803) (Kd.R_base ho0) hb);replace HO818:=zA (Kd.S_elder' (zS HO818) (Kd.R_base ho0) hb);replace BK800:=zA (zb BK800 hb);replace HB:=zA (below_step zB hb);(try clear hb);(try clear hb2);(try clear hk);(try clear hi);(try clear ho0);obtain ⟨Ao35,co35,eo35⟩:=Kd.R_slice HO822.out;subst eo35))
      go_loopg [40] k (fun kq v40 w'=>∃ (x40_1:Int),v40=.int .i64 x40_1∧Aside0 (ancepslaw41_SharedMore.l0 kq t801 y816 t820 (t820.length:Int) x40_1=some r)∧Aside0 (kq≤k)∧Aside0 (Kd.S k34 34 w' w.heap.size (fun k_=>some k_≠((.slice Ao30 y816.length co30):Value).ownBlock∧some k_≠((.slice Ao35 t820.length co35):Value).ownBlock) (.slice Ao16 t801.length co16) t801)∧Aside0 (Kd.S k34 34 w' w.heap.size (fun k_=>some k_≠((.slice Ao16 t801.length co16):Value).ownBlock∧some k_≠((.slice Ao35 t820.length co35):Value).ownBlock) (.slice Ao30 y816.length co30) y816)∧Aside0 (Kd.R (Kd.int .i64) 3 w' w.heap.size (fun _=>True) (.slice Ao35 t820.length co35) t820)∧Aside0 (w'.heap[gb800]?=some (.cells #[.int .u32 a1_0,.int .u64 a1_1] 46 (0,0)))∧Aside0 (Below w.heap.size w w'))
      case atStart=>exact ⟨(0),zT,H',⟨Nat.le_refl _⟩,⟨by (with_reducible repeat (first|apply Kd.S_alloc|apply Kd.S_drewN|apply Kd.S_drew));exact Kd.S_mono HO803.out (fun _ hk=>⟨hk.1.2,hk.2⟩)⟩,⟨by (with_reducible repeat (first|apply Kd.S_alloc|apply Kd.S_drewN|apply Kd.S_drew));exact HO818.out⟩,⟨by refine zr ?_;exact HO822.out⟩,⟨by refine zj ?_;exact BK800.out⟩,⟨by repeat (first|(with_reducible first|exact HB.out|apply below_alloc|apply pw_below_drewN|apply below_drew1|refine below_set ?_ GE800.out)|exact HB.out)⟩⟩
      case round=>
       clear H'
       try clear c8
       try clear c9
       try clear c9b0
       try clear c9b1
       try clear c18
       try clear c21
       try clear c32
       obtain ⟨x40_1,rfl,HA,HK1,HO_5,HO_6,HO_38,BK800,HB⟩:=hrel
       cases gk with
       | zero=>exact absurd HA.out (by simp [ancepslaw41_SharedMore.l0])
       | succ k1=>
        have H:=HA.out
        clear HA
        simp only [ancepslaw41_SharedMore.l0] at H
        by_cases c36:x40_1<(t820.length:Int)
        ·rw [if_pos c36] at H
         have c36b0:decide (x40_1<(t820.length:Int))=true:=decide_eq_true c36
         clear c36
         (first|rw [c36b0]|(simp only [i64_w,i32_w];rw [c36b0])|skip)
         by_cases c37:0≤x40_1
         ·rw [if_pos c37] at H
          have c37b0:decide (0≤x40_1)=true:=decide_eq_true c37
          clear c37
          by_cases c38:x40_1<(t820.length:Int)
          ·rw [if_pos c38] at H
           have c38b0:decide (x40_1<(t820.length:Int))=true:=decide_eq_true c38
           clear c38
           replace H:=Option.bind_eq_some_iff.mp H
           obtain ⟨t824,A390,H⟩:=H
           replace H:((shared_Value.f k1 t824 (rd t820 x40_1)).bind fun bt827=>((ancepslaw41_own.f k1 y816).bind fun t829=>((shared_Value.f k1 t829 (rd t820 x40_1)).bind fun bt832=>(if bt827.2=12 then (if bt832.2=12 then (if bt827.2=0 then (if bt832.2=0 then (if bt827.1=3 then (ancepslaw41_SharedMore.l0 k1 t801 y816 t820 (t820.length:Int) (wrap64 (x40_1+1))) else (if bt827.1=bt832.1 then (ancepslaw41_SharedMore.l0 k1 t801 y816 t820 (t820.length:Int) (wrap64 (x40_1+1))) else (none))) else (ancepslaw41_SharedMore.l0 k1 t801 y816 t820 (t820.length:Int) (wrap64 (x40_1+1)))) else (ancepslaw41_SharedMore.l0 k1 t801 y816 t820 (t820.length:Int) (wrap64 (x40_1+1)))) else (none)) else (if bt827.2=0 then (if bt832.2=0 then (if bt827.1=3 then (ancepslaw41_SharedMore.l0 k1 t801 y816 t820 (t820.length:Int) (wrap64 (x40_1+1))) else (if bt827.1=bt832.1 then (ancepslaw41_SharedMore.l0 k1 t801 y816 t820 (t820.length:Int) (wrap64 (x40_1+1))) else (none))) else (if bt832.2=12 then (ancepslaw41_SharedMore.l0 k1 t801 y816 t820 (t820.length:Int) (wrap64 (x40_1+1))) else (none))) else (ancepslaw41_SharedMore.l0 k1 t801 y816 t820 (t820.length:Int) (wrap64 (x40_1+1))))))))=some r:=H
           have A39:=zA A390
           clear A390
           replace H:=Option.bind_eq_some_iff.mp H
           obtain ⟨⟨t827,t828⟩,A400,H⟩:=H
           replace H:((ancepslaw41_own.f k1 y816).bind fun t829=>((shared_Value.f k1 t829 (rd t820 x40_1)).bind fun bt832=>(if t828=12 then (if bt832.2=12 then (if t828=0 then (if bt832.2=0 then (if t827=3 then (ancepslaw41_SharedMore.l0 k1 t801 y816 t820 (t820.length:Int) (wrap64 (x40_1+1))) else (if t827=bt832.1 then (ancepslaw41_SharedMore.l0 k1 t801 y816 t820 (t820.length:Int) (wrap64 (x40_1+1))) else (none))) else (ancepslaw41_SharedMore.l0 k1 t801 y816 t820 (t820.length:Int) (wrap64 (x40_1+1)))) else (ancepslaw41_SharedMore.l0 k1 t801 y816 t820 (t820.length:Int) (wrap64 (x40_1+1)))) else (none)) else (if t828=0 then (if bt832.2=0 then (if t827=3 then (ancepslaw41_SharedMore.l0 k1 t801 y816 t820 (t820.length:Int) (wrap64 (x40_1+1))) else (if t827=bt832.1 then (ancepslaw41_SharedMore.l0 k1 t801 y816 t820 (t820.length:Int) (wrap64 (x40_1+1))) else (none))) else (if bt832.2=12 then (ancepslaw41_SharedMore.l0 k1 t801 y816 t820 (t820.length:Int) (wrap64 (x40_1+1))) else (none))) else (ancepslaw41_SharedMore.l0 k1 t801 y816 t820 (t820.length:Int) (wrap64 (x40_1+1)))))))=some r:=H
           have A40:=zA A400
           clear A400
           replace H:=Option.bind_eq_some_iff.mp H
           obtain ⟨t829,A410,H⟩:=H
           replace H:((shared_Value.f k1 t829 (rd t820 x40_1)).bind fun bt832=>(if t828=12 then (if bt832.2=12 then (if t828=0 then (if bt832.2=0 then (if t827=3 then (ancepslaw41_SharedMore.l0 k1 t801 y816 t820 (t820.length:Int) (wrap64 (x40_1+1))) else (if t827=bt832.1 then (ancepslaw41_SharedMore.l0 k1 t801 y816 t820 (t820.length:Int) (wrap64 (x40_1+1))) else (none))) else (ancepslaw41_SharedMore.l0 k1 t801 y816 t820 (t820.length:Int) (wrap64 (x40_1+1)))) else (ancepslaw41_SharedMore.l0 k1 t801 y816 t820 (t820.length:Int) (wrap64 (x40_1+1)))) else (none)) else (if t828=0 then (if bt832.2=0 then (if t827=3 then (ancepslaw41_SharedMore.l0 k1 t801 y816 t820 (t820.length:Int) (wrap64 (x40_1+1))) else (if t827=bt832.1 then (ancepslaw41_SharedMore.l0 k1 t801 y816 t820 (t820.length:Int) (wrap64 (x40_1+1))) else (none))) else (if bt832.2=12 then (ancepslaw41_SharedMore.l0 k1 t801 y816 t820 (t820.length:Int) (wrap64 (x40_1+1))) else (none))) else (ancepslaw41_SharedMore.l0 k1 t801 y816 t820 (t820.length:Int) (wrap64 (x40_1+1))))))=some r:=H
           have A41:=zA A410
           clear A410
           replace H:=Option.bind_eq_some_iff.mp H
           obtain ⟨⟨t832,t833⟩,A420,H⟩:=H
           replace H:(if t828=12 then (if t833=12 then (if t828=0 then (if t833=0 then (if t827=3 then (ancepslaw41_SharedMore.l0 k1 t801 y816 t820 (t820.length:Int) (wrap64 (x40_1+1))) else (if t827=t832 then (ancepslaw41_SharedMore.l0 k1 t801 y816 t820 (t820.length:Int) (wrap64 (x40_1+1))) else (none))) else (ancepslaw41_SharedMore.l0 k1 t801 y816 t820 (t820.length:Int) (wrap64 (x40_1+1)))) else (ancepslaw41_SharedMore.l0 k1 t801 y816 t820 (t820.length:Int) (wrap64 (x40_1+1)))) else (none)) else (if t828=0 then (if t833=0 then (if t827=3 then (ancepslaw41_SharedMore.l0 k1 t801 y816 t820 (t820.length:Int) (wrap64 (x40_1+1))) else (if t827=t832 then (ancepslaw41_SharedMore.l0 k1 t801 y816 t820 (t820.length:Int) (wrap64 (x40_1+1))) else (none))) else (if t833=12 then (ancepslaw41_SharedMore.l0 k1 t801 y816 t820 (t820.length:Int) (wrap64 (x40_1+1))) else (none))) else (ancepslaw41_SharedMore.l0 k1 t801 y816 t820 (t820.length:Int) (wrap64 (x40_1+1)))))=some r:=H
           have A42:=zA A420
           clear A420
           have HC43:=zA H
           clear H
           have p823:0≤(x40_1:Int):=of_decide_eq_true zh
           have q823:x40_1<(t820.length:Int):=of_decide_eq_true zh
           obtain ⟨ad823,e823,hx823_0⟩:=Kd.at_int (Kd.R_reads' HO_38.out).2.2 x40_1 p823 q823
           cases e823
           replace p823:=eq_true p823
           replace q823:=eq_true q823
           go_upto_region 12 with (first|((with_reducible refine gate_callee (f:=9) rfl ?_);refine goesL_ (some 46) rfl rfl Try.func9 zK rfl #[.slice Ao16 t801.length co16] rfl zM ?_;(with_reducible refine (ancepslaw41_own.calls k1 _ _ t801 t824 _ ?side1 ?side2 A39.out).mono ?_);(case side1=>exact zC (Kd.S_reads' HO_5.out).2.2);(case side2=>exact (Kd.S_reads' HO_5.out).2.1);rintro e w44 ⟨v825,rfl,ho0,hb⟩;refine ⟨_,rfl,?_⟩;have HO826:=zA (Kd.S_lower (Kd.S_new' (Kd.S_new' (Kd.S_new' ho0 (Kd.S_lt (zS HO_5))) (Kd.S_lt (zS HO_6))) (Kd.R_lt (zR HO_38))) (below_size zB));replace HO_5:=zA (Kd.S_elder' (zS HO_5) (Kd.S_base ho0) hb);replace HO_6:=zA (Kd.S_elder' (zS HO_6) (Kd.S_base ho0) hb);replace HO_38:=zA (Kd.R_below (zR HO_38) hb);replace BK800:=zA (zb BK800 hb);replace HB:=zA (below_step zB hb);(try clear hb);(try clear hb2);(try clear hk);(try clear hi);(try clear ho0);obtain ⟨Ao45,co45,eo45⟩:=Kd.S_slice HO826.out;subst eo45)|((with_reducible refine gate_callee (f:=8) rfl ?_);refine goesL_ (some 48) rfl rfl Try.func8 zK rfl #[.slice Ao45 t824.length co45,.int .i64 (rd t820 x40_1)] rfl zM ?_;(with_reducible refine (shared_Value.calls k1 _ _ t824 (rd t820 x40_1) t827 t828 _ ?side1 ?side2 A40.out).mono ?_);(case side1=>exact zC (Kd.S_reads' HO826.out).2.2);(case side2=>exact (Kd.S_reads' HO826.out).2.1);rintro e w46 ⟨rfl,hb⟩;refine ⟨_,rfl,?_⟩;replace HO_5:=zA (Kd.S_below (zS HO_5) hb);replace HO_6:=zA (Kd.S_below (zS HO_6) hb);replace HO_38:=zA (Kd.R_below (zR HO_38) hb);replace HO826:=zA (Kd.S_below (zS HO826) hb);replace BK800:=zA (zb BK800 hb);replace HB:=zA (below_step zB hb);(try clear hb);(try clear hb2);(try clear hk);(try clear hi))|((with_reducible refine gate_callee (f:=9) rfl ?_);refine goesL_ (some 53) rfl rfl Try.func9 zK rfl #[.slice Ao30 y816.length co30] rfl zM ?_;(with_reducible refine (ancepslaw41_own.calls k1 _ _ y816 t829 _ ?side1 ?side2 A41.out).mono ?_);(case side1=>exact zC (Kd.S_reads' HO_6.out).2.2);(case side2=>exact (Kd.S_reads' HO_6.out).2.1);rintro e w47 ⟨v830,rfl,ho0,hb⟩;refine ⟨_,rfl,?_⟩;have HO831:=zA (Kd.S_lower (Kd.S_new' (Kd.S_new' (Kd.S_new' (Kd.S_new' ho0 (Kd.S_lt (zS HO_5))) (Kd.S_lt (zS HO_6))) (Kd.R_lt (zR HO_38))) (Kd.S_lt (zS HO826))) (below_size zB));replace HO_5:=zA (Kd.S_elder' (zS HO_5) (Kd.S_base ho0) hb);replace HO_6:=zA (Kd.S_elder' (zS HO_6) (Kd.S_base ho0) hb);replace HO_38:=zA (Kd.R_below (zR HO_38) hb);replace HO826:=zA (Kd.S_elder' (zS HO826) (Kd.S_base ho0) hb);replace BK800:=zA (zb BK800 hb);replace HB:=zA (below_step zB hb);(try clear hb);(try clear hb2);(try clear hk);(try clear hi);(try clear ho0);obtain ⟨Ao48,co48,eo48⟩:=Kd.S_slice HO831.out;subst eo48)|((with_reducible refine gate_callee (f:=8) rfl ?_);refine goesL_ (some 55) rfl rfl Try.func8 zK rfl #[.slice Ao48 t829.length co48,.int .i64 (rd t820 x40_1)] rfl zM ?_;(with_reducible refine (shared_Value.calls k1 _ _ t829 (rd t820 x40_1) t832 t833 _ ?side1 ?side2 A42.out).mono ?_);(case side1=>exact zC (Kd.S_reads' HO831.out).2.2);(case side2=>exact (Kd.S_reads' HO831.out).2.1);rintro e w49 ⟨rfl,hb⟩;refine ⟨_,rfl,?_⟩;replace HO_5:=zA (Kd.S_below (zS HO_5) hb);replace HO_6:=zA (Kd.S_below (zS HO_6) hb);replace HO_38:=zA (Kd.R_below (zR HO_38) hb);replace HO826:=zA (Kd.S_below (zS HO826) hb);replace HO831:=zA (Kd.S_below (zS HO831) hb);replace BK800:=zA (zb BK800 hb);replace HB:=zA (below_step zB hb);(try clear hb);(try clear hb2);(try clear hk);(try clear hi)))
           (try simp only [Act.put,zi,zs,zt])
           have H:=HC43.out
           clear HC43
           by_cases c50:t828=12
           ·rw [if_pos c50] at H
            have c50b0:(t828 == 12)=true:=beq_iff_eq.mpr c50
            have c50b1:(t828 != 12)=false:=bne_eq_false_iff_eq.mpr c50
            clear c50
            (first|rw [c50b0]|(simp only [i64_w,i32_w];rw [c50b0])|skip)
            (try rw [c50b1])
            by_cases c51:t833=12
            ·rw [if_pos c51] at H
             have c51b0:(t833 == 12)=true:=beq_iff_eq.mpr c51
             have c51b1:(t833 != 12)=false:=bne_eq_false_iff_eq.mpr c51
             clear c51
             by_cases c52:t828=0
             ·rw [if_pos c52] at H
              have c52b0:(t828 == 0)=true:=beq_iff_eq.mpr c52
              have c52b1:(t828 != 0)=false:=bne_eq_false_iff_eq.mpr c52
              clear c52
              by_cases c53:t833=0
              ·rw [if_pos c53] at H
               have c53b0:(t833 == 0)=true:=beq_iff_eq.mpr c53
               have c53b1:(t833 != 0)=false:=bne_eq_false_iff_eq.mpr c53
               clear c53
               by_cases c54:t827=3
               ·rw [if_pos c54] at H
                have c54b0:(t827 == 3)=true:=beq_iff_eq.mpr c54
                have c54b1:(t827 != 3)=false:=bne_eq_false_iff_eq.mpr c54
                clear c54
                have H':=zA H
                clear H
                go_wp2
                go_roundg k1
                case measure=>have:=HK1.out;omega
                case rel=>exact ⟨(wrap64 (x40_1+1)),zT,H',⟨by have:=HK1.out;omega⟩,⟨by (with_reducible repeat (first|apply Kd.S_alloc|apply Kd.S_drewN|apply Kd.S_drew));exact Kd.S_mono HO_5.out (fun _ hk=>⟨hk.1.1.1,hk.1.1.2⟩)⟩,⟨by (with_reducible repeat (first|apply Kd.S_alloc|apply Kd.S_drewN|apply Kd.S_drew));exact Kd.S_mono HO_6.out (fun _ hk=>⟨hk.1.1.1,hk.1.1.2⟩)⟩,⟨by refine zr ?_;exact HO_38.out⟩,⟨by refine zj ?_;exact BK800.out⟩,⟨by repeat (first|(with_reducible first|exact HB.out|apply below_alloc|apply pw_below_drewN|apply below_drew1|refine below_set ?_ GE800.out)|exact HB.out)⟩⟩
               ·rw [if_neg c54] at H
                have c54b0:(t827 == 3)=false:=beq_eq_false_iff_ne.mpr c54
                have c54b1:(t827 != 3)=true:=bne_iff_ne.mpr c54
                by_cases c55:t827=t832
                ·rw [if_pos c55] at H
                 have c55b0:(t827 == t832)=true:=beq_iff_eq.mpr c55
                 have c55b1:(t827 != t832)=false:=bne_eq_false_iff_eq.mpr c55
                 clear c55
                 have H':=zA H
                 clear H
                 go_wp2
                 go_roundg k1
                 case measure=>have:=HK1.out;omega
                 case rel=>exact ⟨(wrap64 (x40_1+1)),zT,H',⟨by have:=HK1.out;omega⟩,⟨by (with_reducible repeat (first|apply Kd.S_alloc|apply Kd.S_drewN|apply Kd.S_drew));exact Kd.S_mono HO_5.out (fun _ hk=>⟨hk.1.1.1,hk.1.1.2⟩)⟩,⟨by (with_reducible repeat (first|apply Kd.S_alloc|apply Kd.S_drewN|apply Kd.S_drew));exact Kd.S_mono HO_6.out (fun _ hk=>⟨hk.1.1.1,hk.1.1.2⟩)⟩,⟨by refine zr ?_;exact HO_38.out⟩,⟨by refine zj ?_;exact BK800.out⟩,⟨by repeat (first|(with_reducible first|exact HB.out|apply below_alloc|apply pw_below_drewN|apply below_drew1|refine below_set ?_ GE800.out)|exact HB.out)⟩⟩
                ·rw [if_neg c55] at H
                 exact absurd H (by simp)
              ·rw [if_neg c53] at H
               have c53b0:(t833 == 0)=false:=beq_eq_false_iff_ne.mpr c53
               have c53b1:(t833 != 0)=true:=bne_iff_ne.mpr c53
               have H':=zA H
               clear H
               go_wp2
               go_roundg k1
               case measure=>have:=HK1.out;omega
               case rel=>exact ⟨(wrap64 (x40_1+1)),zT,H',⟨by have:=HK1.out;omega⟩,⟨by (with_reducible repeat (first|apply Kd.S_alloc|apply Kd.S_drewN|apply Kd.S_drew));exact Kd.S_mono HO_5.out (fun _ hk=>⟨hk.1.1.1,hk.1.1.2⟩)⟩,⟨by (with_reducible repeat (first|apply Kd.S_alloc|apply Kd.S_drewN|apply Kd.S_drew));exact Kd.S_mono HO_6.out (fun _ hk=>⟨hk.1.1.1,hk.1.1.2⟩)⟩,⟨by refine zr ?_;exact HO_38.out⟩,⟨by refine zj ?_;exact BK800.out⟩,⟨by repeat (first|(with_reducible first|exact HB.out|apply below_alloc|apply pw_below_drewN|apply below_drew1|refine below_set ?_ GE800.out)|exact HB.out)⟩⟩
             ·rw [if_neg c52] at H
              have c52b0:(t828 == 0)=false:=beq_eq_false_iff_ne.mpr c52
              have c52b1:(t828 != 0)=true:=bne_iff_ne.mpr c52
              have H':=zA H
              clear H
              go_wp2
              go_roundg k1
              case measure=>have:=HK1.out;omega
              case rel=>exact ⟨(wrap64 (x40_1+1)),zT,H',⟨by have:=HK1.out;omega⟩,⟨by (with_reducible repeat (first|apply Kd.S_alloc|apply Kd.S_drewN|apply Kd.S_drew));exact Kd.S_mono HO_5.out (fun _ hk=>⟨hk.1.1.1,hk.1.1.2⟩)⟩,⟨by (with_reducible repeat (first|apply Kd.S_alloc|apply Kd.S_drewN|apply Kd.S_drew));exact Kd.S_mono HO_6.out (fun _ hk=>⟨hk.1.1.1,hk.1.1.2⟩)⟩,⟨by refine zr ?_;exact HO_38.out⟩,⟨by refine zj ?_;exact BK800.out⟩,⟨by repeat (first|(with_reducible first|exact HB.out|apply below_alloc|apply pw_below_drewN|apply below_drew1|refine below_set ?_ GE800.out)|exact HB.out)⟩⟩
            ·rw [if_neg c51] at H
             exact absurd H (by simp)
           ·rw [if_neg c50] at H
            have c50b0:(t828 == 12)=false:=beq_eq_false_iff_ne.mpr c50
            have c50b1:(t828 != 12)=true:=bne_iff_ne.mpr c50
            (first|rw [c50b0]|(simp only [i64_w,i32_w];rw [c50b0])|skip)
            (try rw [c50b1])
            by_cases c56:t828=0
            ·rw [if_pos c56] at H
             have c56b0:(t828 == 0)=true:=beq_iff_eq.mpr c56
             have c56b1:(t828 != 0)=false:=bne_eq_false_iff_eq.mpr c56
             clear c56
             by_cases c57:t833=0
             ·rw [if_pos c57] at H
              have c57b0:(t833 == 0)=true:=beq_iff_eq.mpr c57
              have c57b1:(t833 != 0)=false:=bne_eq_false_iff_eq.mpr c57
              clear c57
              by_cases c58:t827=3
              ·rw [if_pos c58] at H
               have c58b0:(t827 == 3)=true:=beq_iff_eq.mpr c58
               have c58b1:(t827 != 3)=false:=bne_eq_false_iff_eq.mpr c58
               clear c58
               have H':=zA H
               clear H
               go_wp2
               go_roundg k1
               case measure=>have:=HK1.out;omega
               case rel=>exact ⟨(wrap64 (x40_1+1)),zT,H',⟨by have:=HK1.out;omega⟩,⟨by (with_reducible repeat (first|apply Kd.S_alloc|apply Kd.S_drewN|apply Kd.S_drew));exact Kd.S_mono HO_5.out (fun _ hk=>⟨hk.1.1.1,hk.1.1.2⟩)⟩,⟨by (with_reducible repeat (first|apply Kd.S_alloc|apply Kd.S_drewN|apply Kd.S_drew));exact Kd.S_mono HO_6.out (fun _ hk=>⟨hk.1.1.1,hk.1.1.2⟩)⟩,⟨by refine zr ?_;exact HO_38.out⟩,⟨by refine zj ?_;exact BK800.out⟩,⟨by repeat (first|(with_reducible first|exact HB.out|apply below_alloc|apply pw_below_drewN|apply below_drew1|refine below_set ?_ GE800.out)|exact HB.out)⟩⟩
              ·rw [if_neg c58] at H
               have c58b0:(t827 == 3)=false:=beq_eq_false_iff_ne.mpr c58
               have c58b1:(t827 != 3)=true:=bne_iff_ne.mpr c58
               by_cases c59:t827=t832
               ·rw [if_pos c59] at H
                have c59b0:(t827 == t832)=true:=beq_iff_eq.mpr c59
                have c59b1:(t827 != t832)=false:=bne_eq_false_iff_eq.mpr c59
                clear c59
                have H':=zA H
                clear H
                go_wp2
                go_roundg k1
                case measure=>have:=HK1.out;omega
                case rel=>exact ⟨(wrap64 (x40_1+1)),zT,H',⟨by have:=HK1.out;omega⟩,⟨by (with_reducible repeat (first|apply Kd.S_alloc|apply Kd.S_drewN|apply Kd.S_drew));exact Kd.S_mono HO_5.out (fun _ hk=>⟨hk.1.1.1,hk.1.1.2⟩)⟩,⟨by (with_reducible repeat (first|apply Kd.S_alloc|apply Kd.S_drewN|apply Kd.S_drew));exact Kd.S_mono HO_6.out (fun _ hk=>⟨hk.1.1.1,hk.1.1.2⟩)⟩,⟨by refine zr ?_;exact HO_38.out⟩,⟨by refine zj ?_;exact BK800.out⟩,⟨by repeat (first|(with_reducible first|exact HB.out|apply below_alloc|apply pw_below_drewN|apply below_drew1|refine below_set ?_ GE800.out)|exact HB.out)⟩⟩
               ·rw [if_neg c59] at H
                exact absurd H (by simp)
             ·rw [if_neg c57] at H
              have c57b0:(t833 == 0)=false:=beq_eq_false_iff_ne.mpr c57
              have c57b1:(t833 != 0)=true:=bne_iff_ne.mpr c57
              by_cases c60:t833=12
              ·rw [if_pos c60] at H
               have c60b0:(t833 == 12)=true:=beq_iff_eq.mpr c60
               have c60b1:(t833 != 12)=false:=bne_eq_false_iff_eq.mpr c60
               clear c60
               have H':=zA H
               clear H
               go_wp2
               go_roundg k1
               case measure=>have:=HK1.out;omega
               case rel=>exact ⟨(wrap64 (x40_1+1)),zT,H',⟨by have:=HK1.out;omega⟩,⟨by (with_reducible repeat (first|apply Kd.S_alloc|apply Kd.S_drewN|apply Kd.S_drew));exact Kd.S_mono HO_5.out (fun _ hk=>⟨hk.1.1.1,hk.1.1.2⟩)⟩,⟨by (with_reducible repeat (first|apply Kd.S_alloc|apply Kd.S_drewN|apply Kd.S_drew));exact Kd.S_mono HO_6.out (fun _ hk=>⟨hk.1.1.1,hk.1.1.2⟩)⟩,⟨by refine zr ?_;exact HO_38.out⟩,⟨by refine zj ?_;exact BK800.out⟩,⟨by repeat (first|(with_reducible first|exact HB.out|apply below_alloc|apply pw_below_drewN|apply below_drew1|refine below_set ?_ GE800.out)|exact HB.out)⟩⟩
              ·rw [if_neg c60] at H
               exact absurd H (by simp)
            ·rw [if_neg c56] at H
             have c56b0:(t828 == 0)=false:=beq_eq_false_iff_ne.mpr c56
             have c56b1:(t828 != 0)=true:=bne_iff_ne.mpr c56
             have H':=zA H
             clear H
             go_wp2
             go_roundg k1
             case measure=>have:=HK1.out;omega
             case rel=>exact ⟨(wrap64 (x40_1+1)),zT,H',⟨by have:=HK1.out;omega⟩,⟨by (with_reducible repeat (first|apply Kd.S_alloc|apply Kd.S_drewN|apply Kd.S_drew));exact Kd.S_mono HO_5.out (fun _ hk=>⟨hk.1.1.1,hk.1.1.2⟩)⟩,⟨by (with_reducible repeat (first|apply Kd.S_alloc|apply Kd.S_drewN|apply Kd.S_drew));exact Kd.S_mono HO_6.out (fun _ hk=>⟨hk.1.1.1,hk.1.1.2⟩)⟩,⟨by refine zr ?_;exact HO_38.out⟩,⟨by refine zj ?_;exact BK800.out⟩,⟨by repeat (first|(with_reducible first|exact HB.out|apply below_alloc|apply pw_below_drewN|apply below_drew1|refine below_set ?_ GE800.out)|exact HB.out)⟩⟩
          ·rw [if_neg c38] at H
           exact absurd H (by simp)
         ·rw [if_neg c37] at H
          exact absurd H (by simp)
        ·rw [if_neg c36] at H
         have c36b0:decide (x40_1<(t820.length:Int))=false:=decide_eq_false c36
         clear c36
         (first|rw [c36b0]|(simp only [i64_w,i32_w];rw [c36b0])|skip)
         obtain rfl:=Option.some.inj H
         go_wp2
         go_ret
         exact ⟨ze,by repeat (first|(with_reducible first|exact HB.out|apply below_alloc|apply pw_below_drewN|apply below_drew1|refine below_set ?_ GE800.out)|exact HB.out)⟩
     ·replace c32:=Bool.eq_false_iff.mpr c32
      subst c32
      have H1:(some true)=some r:=by rw [if_neg (show ¬ (false=true) by decide)] at H;exact H
      clear H
      have H:=H1
      clear H1
      obtain rfl:=Option.some.inj H
      go_wp2
      go_ret
      exact ⟨ze,by repeat (first|(with_reducible first|exact HB.out|apply below_alloc|apply pw_below_drewN|apply below_drew1|refine below_set ?_ GE800.out)|exact HB.out)⟩
    ·rw [if_neg c21] at H
     exact absurd H (by simp)
   ·replace c18:=Bool.eq_false_iff.mpr c18
    subst c18
    have H1:((ancepslaw41_awake.f k).bind fun t834=>(some t834))=some r:=by rw [if_neg (show ¬ (false=true) by decide)] at H;exact H
    clear H
    have H:=H1
    clear H1
    replace H:=Option.bind_eq_some_iff.mp H
    obtain ⟨t834,A610,H⟩:=H
    replace H:(some t834)=some r:=H
    have A61:=zA A610
    clear A610
    obtain rfl:=Option.some.inj H
    go_wp2_with (first|((with_reducible refine gate_callee (f:=6) rfl ?_);refine goesL_ (some 27) rfl rfl Try.func6 zK rfl #[] rfl zM ?_;(with_reducible refine (ancepslaw41_awake.calls k  t834 _ A61.out).mono ?_);rintro e w62 ⟨rfl,hb⟩;refine ⟨_,rfl,?_⟩;replace HO803:=zA (Kd.S_below (zS HO803) hb);replace BK800:=zA (zb BK800 hb);replace HB:=zA (below_step zB hb);(try clear hb);(try clear hb2);(try clear hk);(try clear hi)))
    go_ret
    exact ⟨ze,by repeat (first|(with_reducible first|exact HB.out|apply below_alloc|apply pw_below_drewN|apply below_drew1|refine below_set ?_ GE800.out)|exact HB.out)⟩
 ·replace c8:=Bool.eq_false_iff.mpr c8
  subst c8
  have H1:((ancepslaw41_awake.f k).bind fun t835=>(some t835))=some r:=by rw [if_neg (show ¬ (false=true) by decide)] at H;exact H
  clear H
  have H:=H1
  clear H1
  replace H:=Option.bind_eq_some_iff.mp H
  obtain ⟨t835,A630,H⟩:=H
  replace H:(some t835)=some r:=H
  have A63:=zA A630
  clear A630
  obtain rfl:=Option.some.inj H
  go_wp2_with (first|((with_reducible refine gate_callee (f:=6) rfl ?_);refine goesL_ (some 15) rfl rfl Try.func6 zK rfl #[] rfl zM ?_;(with_reducible refine (ancepslaw41_awake.calls k  false _ A7.out).mono ?_);rintro e w64 ⟨rfl,hb⟩;refine ⟨_,rfl,?_⟩;replace HO803:=zA (Kd.S_below (zS HO803) hb);replace BK800:=zA (zb BK800 hb);replace HB:=zA (below_step zB hb);(try clear hb);(try clear hb2);(try clear hk);(try clear hi))|((with_reducible refine gate_callee (f:=6) rfl ?_);refine goesL_ (some 27) rfl rfl Try.func6 zK rfl #[] rfl zM ?_;(with_reducible refine (ancepslaw41_awake.calls k  t835 _ A63.out).mono ?_);rintro e w65 ⟨rfl,hb⟩;refine ⟨_,rfl,?_⟩;replace HO803:=zA (Kd.S_below (zS HO803) hb);replace BK800:=zA (zb BK800 hb);replace HB:=zA (below_step zB hb);(try clear hb);(try clear hb2);(try clear hk);(try clear hi)))
  go_ret
  exact ⟨ze,by repeat (first|(with_reducible first|exact HB.out|apply below_alloc|apply pw_below_drewN|apply below_drew1|refine below_set ?_ GE800.out)|exact HB.out)⟩
end Go.Proofs.Ytngpkbbljnbojaa.S
