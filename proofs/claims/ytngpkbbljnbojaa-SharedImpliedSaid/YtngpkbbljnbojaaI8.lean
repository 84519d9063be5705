import Derived.Test.YtngpkbbljnbojaaI0
import Derived.Test.YtngpkbbljnbojaaI7
namespace Go.Proofs.Ytngpkbbljnbojaa.I
open Go.RowKit Go.Proofs.YtngpkbbljnbojaaW.PrintWords Go.Proofs.YtngpkbbljnbojaaW.PrintLast Go.Proofs.YtngpkbbljnbojaaW.PrintMore
attribute [local go_sem] max2_int min2_int max_two min_two max_three min_three max_four min_four
set_option linter.unusedVariables false
set_option linter.unusedSimpArgs false
mutual
def solve_shape.l0:Nat→List (S34)→Int→List Bool→List (S116)→Int→Int→Option (Bool)
 | 0,_,_,_,_,_,_=>none
 | k+1,x0,x5,x6,x23,x24,x25=>if x25<x24 then (if 0≤x25 then (if x25<(x23.length:Int) then (if ((rd_T116 x23 x25).f0)=(-1) then (if ((rd_T116 x23 x25).f1)=0 then (if ((rd_T116 x23 x25).f2)=0 then (if ((rd_T116 x23 x25).f3)<0 then (some false) else (if ((rd_T116 x23 x25).f3)≥(x0.length:Int) then (some false) else (solve_shape.l0 k x0 x5 x6 x23 x24 (wrap64 (x25+1))))) else (some false)) else (some false)) else (if ((rd_T116 x23 x25).f0)<0 then (some false) else (if ((rd_T116 x23 x25).f0)≥24 then (some false) else (if ((rd_T116 x23 x25).f3)=0 then ((some (([(rd_T116 x23 x25).f1,(rd_T116 x23 x25).f2]:List Int):List Int)).bind fun y75=>(solve_shape.l1 k x0 x5 x6 x25 x23 x24 x25 y75 (y75.length:Int) 0)) else (some false))))) else (none)) else (none)) else (if 1≤(x6.length:Int) then ((slices_Contains_bool_bool.f k (x6.drop 1) false).bind fun t85=>(some (!t85))) else (none))
def solve_shape.l1:Nat→List (S34)→Int→List Bool→Int→List (S116)→Int→Int→List Int→Int→Int→Option (Bool)
 | 0,_,_,_,_,_,_,_,_,_,_=>none
 | k+1,x0,x5,x6,x7,x23,x24,x25,x70,x71,x72=>if x72<x71 then (if 0≤x72 then (if x72<(x70.length:Int) then (if (rd x70 x72)≤x7 then (some false) else (if (rd x70 x72)≥x5 then (some false) else (if 0≤(rd x70 x72) then (if (rd x70 x72)<(x6.length:Int) then (if rdOf false x6 (rd x70 x72)=true then (some false) else (solve_shape.l1 k x0 x5 (x6.set ((rd x70 x72):Int).toNat true) x7 x23 x24 x25 x70 x71 (wrap64 (x72+1)))) else (none)) else (none)))) else (none)) else (none)) else (solve_shape.l0 k x0 x5 x6 x23 x24 (wrap64 (x25+1)))
end
def solve_shape.f (k:Nat) (l0:List (S34)) (l1_0:List (S116)):Option (Bool):=if (l1_0.length:Int)=0 then (some false) else (if (l1_0.length:Int)>2000 then (some false) else (if 0≤(l1_0.length:Int) then (if ((l1_0.length:Int):Int).toNat≤281474976710656 then (solve_shape.l0 k l0 (l1_0.length:Int) (List.replicate ((l1_0.length:Int):Int).toNat false) l1_0 (l1_0.length:Int) 0) else (none)) else (none)))
theorem solve_shape.mono_l:∀ k,(∀ y0 y1 y2 y3 y4 y5,LeO (solve_shape.l0 k y0 y1 y2 y3 y4 y5) (solve_shape.l0 (k+1) y0 y1 y2 y3 y4 y5))∧(∀ y0 y1 y2 y3 y4 y5 y6 y7 y8 y9,LeO (solve_shape.l1 k y0 y1 y2 y3 y4 y5 y6 y7 y8 y9) (solve_shape.l1 (k+1) y0 y1 y2 y3 y4 y5 y6 y7 y8 y9))
 | 0=>⟨fun _ _ _ _ _ _ r h=>by simp [solve_shape.l0] at h,fun _ _ _ _ _ _ _ _ _ _ r h=>by simp [solve_shape.l1] at h⟩
 | k+1=>by
  obtain ⟨ih0,ih1⟩:=solve_shape.mono_l k;refine ⟨?_,?_⟩
  ·intro y0 y1 y2 y3 y4 y5
   unfold solve_shape.l0
   repeat' first
   | (with_reducible exact ih0 _ _ _ _ _ _)
   | (with_reducible exact ih1 _ _ _ _ _ _ _ _ _ _)
   | (with_reducible exact slices_Contains_bool_bool.mono _ _ _)
   | (with_reducible exact LeO.refl _)
   | (with_reducible exact LeO.none _)
   | (with_reducible refine LeO.ite ?_ ?_)
   | (with_reducible refine LeO.bind ?_ (fun _=>?_))
   | exact LeO.none _
   | refine LeO.ite ?_ ?_
   | refine LeO.bind ?_ (fun _=>?_)
  ·intro y0 y1 y2 y3 y4 y5 y6 y7 y8 y9
   unfold solve_shape.l1
   repeat' first
   | (with_reducible exact ih0 _ _ _ _ _ _)
   | (with_reducible exact ih1 _ _ _ _ _ _ _ _ _ _)
   | (with_reducible exact slices_Contains_bool_bool.mono _ _ _)
   | (with_reducible exact LeO.refl _)
   | (with_reducible exact LeO.none _)
   | (with_reducible refine LeO.ite ?_ ?_)
   | (with_reducible refine LeO.bind ?_ (fun _=>?_))
   | exact LeO.none _
   | refine LeO.ite ?_ ?_
   | refine LeO.bind ?_ (fun _=>?_)
theorem solve_shape.mono:∀ a0 a1 k,LeO (solve_shape.f k a0 a1) (solve_shape.f (k+1) a0 a1):=by
 intro a0 a1 k;obtain ⟨ih0,ih1⟩:=solve_shape.mono_l k
 unfold solve_shape.f
 repeat' first
   | (with_reducible exact ih0 _ _ _ _ _ _)
   | (with_reducible exact ih1 _ _ _ _ _ _ _ _ _ _)
   | (with_reducible exact slices_Contains_bool_bool.mono _ _ _)
   | (with_reducible exact LeO.refl _)
   | (with_reducible exact LeO.none _)
   | (with_reducible refine LeO.ite ?_ ?_)
   | (with_reducible refine LeO.bind ?_ (fun _=>?_))
   | exact LeO.none _
   | refine LeO.ite ?_ ?_
   | refine LeO.bind ?_ (fun _=>?_)
set_option maxHeartbeats 8000000 in
set_option maxRecDepth 100000 in
theorem solve_shape.calls (k:Nat) (A0:Option Addr) (c0:Nat) (l0:List (S34)) (A1_0:Option Addr) (c1_0:Nat) (l1_0:List (S116)) (r:Bool) (w:World) (hr0:Kd.C k34 w A0 l0.length l0) (hc0:l0.length≤c0) (hr1_0:Kd.C k116 w A1_0 l1_0.length l1_0) (hc1_0:l1_0.length≤c1_0) (h:solve_shape.f k l0 l1_0=some r) :
  Calls Try.prog 77 #[.slice A0 l0.length c0,.agg #[.slice A1_0 l1_0.length c1_0]] w fun e w'=>e=.returned (.bool r)∧Below w.heap.size w w':=by
 have hu63:=Try.underlying63;have hu61:=Try.underlying61;have hu116:=Try.underlying116;have hu3:=Try.underlying3;have hu4:=Try.underlying4;have HR0:=zA hr0;have HC0:=zA hc0;clear hr0 hc0;have HR1_0:=zA hr1_0;have HC1_0:=zA hc1_0;clear hr1_0 hc1_0;have HB:=zA (Below.refl w.heap.size w);have H:(if (l1_0.length:Int)=0 then (some false) else (if (l1_0.length:Int)>2000 then (some false) else (if 0≤(l1_0.length:Int) then (if ((l1_0.length:Int):Int).toNat≤281474976710656 then (solve_shape.l0 k l0 (l1_0.length:Int) (List.replicate ((l1_0.length:Int):Int).toNat false) l1_0 (l1_0.length:Int) 0) else (none)) else (none))))=some r:=h;clear h;have HC3:=zA H;clear H
 go_enter Try.func77,Try.ntmps77
 try go_wp2_with (first|((with_reducible refine gate_dst (N:=3) rfl ?_);(try (refine gate_guard (by rfl) ?_;dsimp only));refine box_event ?hg (N:=3) ?hd (cs:=#[.slice A1_0 l1_0.length c1_0]) (t:=63) ?hr ?_;(case hd=>rfl);(case hg=>rfl);(case hr=>first|(go_simp;done)|(go_simp;rfl));intro gb74 hg w4 hbox hb;have BK74:=zA (hbox);have GW74:=zA (zG hg (below_size zB):w.heap.size≤gb74);have GE74:=GW74;replace HB:=zA (below_step zB hb);clear hb hbox hg))
 refine wp_scope_straight ?_;(try simp only [Act.put,zi,zs,zt]);have H:=HC3.out;clear HC3
 by_cases c5:(l1_0.length:Int)=0
 ·rw [if_pos c5] at H;have c5b0:((l1_0.length:Int) == 0)=true:=beq_iff_eq.mpr c5;have c5b1:((l1_0.length:Int) != 0)=false:=bne_eq_false_iff_eq.mpr c5;clear c5
  (first|rw [c5b0]|(simp only [i64_w,i32_w];rw [c5b0])|skip)
  (try rw [c5b1]);obtain rfl:=Option.some.inj H;have hcz6_0:w4.cell? ⟨gb74,0,none⟩=some (.slice A1_0 l1_0.length c1_0):=(blk_cell BK74.out 0).trans rfl;have hfz6_0:=blk_frozen BK74.out 0
  go_wp2
  go_ret
  exact ⟨ze,zv1 HB GE74⟩
 ·rw [if_neg c5] at H;have c5b0:((l1_0.length:Int) == 0)=false:=beq_eq_false_iff_ne.mpr c5;have c5b1:((l1_0.length:Int) != 0)=true:=bne_iff_ne.mpr c5
  have c5b2:¬ (l1_0=[]):=fun h_=>c5 (by rw [h_];rfl)
  (first|rw [c5b0]|(simp only [i64_w,i32_w];rw [c5b0])|skip)
  (try rw [c5b1]);(try rw [c5b2])
  by_cases c7:(l1_0.length:Int)>2000
  ·rw [if_pos c7] at H;have c7b0:decide (2000<(l1_0.length:Int))=true:=decide_eq_true c7;have c7b1:decide (2000<l1_0.length)=true:=decide_eq_true (by omega);clear c7;obtain rfl:=Option.some.inj H;have hcz8_0:w4.cell? ⟨gb74,0,none⟩=some (.slice A1_0 l1_0.length c1_0):=(blk_cell BK74.out 0).trans rfl;have hfz8_0:=blk_frozen BK74.out 0
   go_wp2
   go_ret
   exact ⟨ze,zv1 HB GE74⟩
  ·rw [if_neg c7] at H;have c7b0:decide (2000<(l1_0.length:Int))=false:=decide_eq_false c7;have c7b1:decide (2000<l1_0.length)=false:=decide_eq_false (by omega);clear c7
   by_cases c9:0≤(l1_0.length:Int)
   ·rw [if_pos c9] at H;have c9b0:=eq_true c9;have c9b1:decide (0≤(l1_0.length:Int))=true:=decide_eq_true c9;clear c9
    by_cases c10:((l1_0.length:Int):Int).toNat≤281474976710656
    ·rw [if_pos c10] at H;have c10b0:=eq_true c10;have c10b1:decide (((l1_0.length:Int):Int).toNat≤281474976710656)=true:=decide_eq_true c10;clear c10
     obtain ⟨y82,hy82⟩:∃ y_:List Bool,y_=(List.replicate ((l1_0.length:Int):Int).toNat false):=⟨_,rfl⟩
     replace H:(solve_shape.l0 k l0 (l1_0.length:Int) y82 l1_0 (l1_0.length:Int) 0)=some r:=by first|(rw [hy82];with_reducible exact H)|(have H2_:=(Option.bind_some _ _).symm.trans H;rw [hy82];with_reducible exact H2_)|(have H2_:=(Option.bind_some _ _).symm.trans H;with_reducible exact H2_)|with_reducible exact H|(rw [hy82];exact H)|exact H
     have Ny82:=zA hy82;clear hy82;have HC11:=zA H;clear H;have hcz12_0:w4.cell? ⟨gb74,0,none⟩=some (.slice A1_0 l1_0.length c1_0):=(blk_cell BK74.out 0).trans rfl;have hfz12_0:=blk_frozen BK74.out 0
     try go_wp2_with (first|((with_reducible refine gate_dst (N:=21) rfl ?_);(try (refine gate_guard (by rfl) ?_;dsimp only));refine Kd.R_make Kd.bool _ 4 rfl (N:=21) rfl 79 _ _ rfl (l1_0.length:Int) rfl rfl Try.underlying79 (.bool false) 1 info4 rfl (by decide) (by omega) false (ok:=fun _=>True) (okp:=fun _=>True) rfl (fun _ hk=>hk) trivial (of_decide_eq_true zh) (Nat.le_trans (Nat.mul_le_mul_right _ (of_decide_eq_true zh:(l1_0.length:Int).toNat≤281474976710656)) (by omega)) (Below.refl _ _) (Nat.le_refl _) ?_;intro v88 w13 ho14 hb hg_ hnew_;clear hg_ hnew_;(first|rw [← Ny82.out] at ho14|(simp only [Int.reduceToNat] at ho14;rw [← Ny82.out] at ho14));have HO91:=zA (Kd.R_lower ho14 (below_size zB));replace BK74:=zA (zb BK74 hb);replace HB:=zA (below_step zB hb);clear hb ho14))
     refine wp_label ?_;(try simp only [Act.put,zi,zs,zt]);have H:=HC11.out;clear HC11;have H':=zA H;clear H;have hcz15_0:w13.cell? ⟨gb74,0,none⟩=some (.slice A1_0 l1_0.length c1_0):=(blk_cell BK74.out 0).trans rfl;have hfz15_0:=blk_frozen BK74.out 0
     go_wp2
     go_loopg [25] k (fun kq v25 w'=>∃ (x6_1:List Bool) (x25_1:Int),v25=.int .i64 x25_1∧Aside0 (solve_shape.l0 kq l0 (l1_0.length:Int) x6_1 l1_0 (l1_0.length:Int) x25_1=some r)∧Aside0 (kq≤k)∧Aside0 (Kd.R Kd.bool 4 w' w.heap.size (fun _=>True) v88 x6_1)∧Aside0 (w'.heap[gb74]?=some (.cells #[(.slice A1_0 l1_0.length c1_0)] 63 (0,0)))∧Aside0 (Below w.heap.size w w'))
     case atStart=>exact ⟨(y82),(0),zT,H',⟨Nat.le_refl _⟩,⟨by refine zr ?_;exact HO91.out⟩,⟨by refine zj ?_;exact BK74.out⟩,⟨zv1 HB GE74⟩⟩
     case round=>
      clear H'
      try clear c5
      try clear c5b0
      try clear c5b1
      try clear c5b2
      try clear c7
      try clear c7b0
      try clear c7b1
      try clear c9
      try clear c9b0
      try clear c9b1
      try clear c10
      try clear c10b0
      try clear c10b1
      try clear hcz12_0
      try clear hcz15_0
      try clear hfz12_0
      try clear hfz15_0
      obtain ⟨x6_1,x25_1,rfl,HA,HK1,HO_6,BK74,HB⟩:=hrel
      cases gk with
      | zero=>exact absurd HA.out (by simp [solve_shape.l0])
      | succ k1=>
       have H:=HA.out;clear HA;simp only [solve_shape.l0] at H
       by_cases c16:x25_1<(l1_0.length:Int)
       ·rw [if_pos c16] at H;have c16b0:decide (x25_1<(l1_0.length:Int))=true:=decide_eq_true c16;clear c16
        (first|rw [c16b0]|(simp only [i64_w,i32_w];rw [c16b0])|skip)
        by_cases c17:0≤x25_1
        ·rw [if_pos c17] at H;have c17b0:decide (0≤x25_1)=true:=decide_eq_true c17;clear c17
         by_cases c18:x25_1<(l1_0.length:Int)
         ·rw [if_pos c18] at H;have c18b0:decide (x25_1<(l1_0.length:Int))=true:=decide_eq_true c18;clear c18;have HC19:=zA H;clear H;have p78:0≤(x25_1:Int):=of_decide_eq_true zh;have q78:x25_1<(l1_0.length:Int):=of_decide_eq_true zh;obtain ⟨ad78,e78,hx78_0,hx78_1,hx78_2,hx78_3⟩:=at_T116 HR1_0.out x25_1 p78 q78
          cases e78
          replace hx78_0:=(HB.out.cell (World.block_lt_of_cell? w _ hx78_0)).trans hx78_0;replace hx78_1:=(HB.out.cell (World.block_lt_of_cell? w _ hx78_1)).trans hx78_1;replace hx78_2:=(HB.out.cell (World.block_lt_of_cell? w _ hx78_2)).trans hx78_2;replace hx78_3:=(HB.out.cell (World.block_lt_of_cell? w _ hx78_3)).trans hx78_3;replace p78:=eq_true p78;replace q78:=eq_true q78
          go_upto_if 32 with (first|((with_reducible refine gate_dst (N:=8) rfl ?_);(try (refine gate_guard (by rfl) ?_;dsimp only));refine box_event ?hg (N:=8) ?hd (cs:=#[.int .i64 0,.int .i64 0,.int .i64 0,.int .i64 0]) (t:=116) ?hr ?_;(case hd=>rfl);(case hg=>rfl);(case hr=>first|(go_simp;done)|(go_simp;rfl));intro gb73 hg w20 hbox hb;have BK73:=zA (hbox);have GW73:=zA (zG hg (below_size zB):w.heap.size≤gb73);have GE73:=GW73;have NB74_73:=zA ((zl hg (zk BK74):gb74≠gb73));have NB73_74:=zA ((zg hg (zk BK74):gb73≠gb74));replace HO_6:=zA (Kd.R_below (zR HO_6) hb);replace BK74:=zA (zb BK74 hb);replace HB:=zA (below_step zB hb);clear hb hbox hg;have hnb21:=NB73_74.out;have hnc21:=NB74_73.out;have hcz22_0:w20.cell? ⟨gb73,0,none⟩=some (.int .i64 0):=(blk_cell BK73.out 0).trans rfl;have hcz22_1:w20.cell? ⟨gb73,1,none⟩=some (.int .i64 0):=(blk_cell BK73.out 1).trans rfl;have hcz22_2:w20.cell? ⟨gb73,2,none⟩=some (.int .i64 0):=(blk_cell BK73.out 2).trans rfl;have hcz22_3:w20.cell? ⟨gb73,3,none⟩=some (.int .i64 0):=(blk_cell BK73.out 3).trans rfl;have hfz22_0:=blk_frozen BK73.out 0;have hfz22_1:=blk_frozen BK73.out 1;have hfz22_2:=blk_frozen BK73.out 2;have hfz22_3:=blk_frozen BK73.out 3))
          (try simp only [Act.put,zi,zs,zt]);have H:=HC19.out;clear HC19
          by_cases c23:((rd_T116 l1_0 x25_1).f0)=(-1)
          ·rw [if_pos c23] at H;have c23b0:(((rd_T116 l1_0 x25_1).f0) == (-1))=true:=beq_iff_eq.mpr c23;have c23b1:(((rd_T116 l1_0 x25_1).f0) != (-1))=false:=bne_eq_false_iff_eq.mpr c23;clear c23
           (first|rw [c23b0]|(simp only [i64_w,i32_w];rw [c23b0])|skip)
           (try rw [c23b1])
           by_cases c24:((rd_T116 l1_0 x25_1).f1)=0
           ·rw [if_pos c24] at H;have c24b0:(((rd_T116 l1_0 x25_1).f1) == 0)=true:=beq_iff_eq.mpr c24;have c24b1:(((rd_T116 l1_0 x25_1).f1) != 0)=false:=bne_eq_false_iff_eq.mpr c24;clear c24
            by_cases c25:((rd_T116 l1_0 x25_1).f2)=0
            ·rw [if_pos c25] at H;have c25b0:(((rd_T116 l1_0 x25_1).f2) == 0)=true:=beq_iff_eq.mpr c25;have c25b1:(((rd_T116 l1_0 x25_1).f2) != 0)=false:=bne_eq_false_iff_eq.mpr c25;clear c25
             by_cases c26:((rd_T116 l1_0 x25_1).f3)<0
             ·rw [if_pos c26] at H;have c26b0:decide (((rd_T116 l1_0 x25_1).f3)<0)=true:=decide_eq_true c26;clear c26;obtain rfl:=Option.some.inj H;have hnb27:=NB73_74.out;have hnc27:=NB74_73.out;have hcz28_0:w20.cell? ⟨gb73,0,none⟩=some (.int .i64 0):=(blk_cell BK73.out 0).trans rfl;have hcz28_1:w20.cell? ⟨gb73,1,none⟩=some (.int .i64 0):=(blk_cell BK73.out 1).trans rfl;have hcz28_2:w20.cell? ⟨gb73,2,none⟩=some (.int .i64 0):=(blk_cell BK73.out 2).trans rfl;have hcz28_3:w20.cell? ⟨gb73,3,none⟩=some (.int .i64 0):=(blk_cell BK73.out 3).trans rfl;have hfz28_0:=blk_frozen BK73.out 0;have hfz28_1:=blk_frozen BK73.out 1;have hfz28_2:=blk_frozen BK73.out 2;have hfz28_3:=blk_frozen BK73.out 3
              go_wp2
              go_ret
              exact ⟨ze,zv2 HB GE74 GE73⟩
             ·rw [if_neg c26] at H;have c26b0:decide (((rd_T116 l1_0 x25_1).f3)<0)=false:=decide_eq_false c26;clear c26
              by_cases c29:((rd_T116 l1_0 x25_1).f3)≥(l0.length:Int)
              ·rw [if_pos c29] at H;have c29b0:decide ((l0.length:Int)≤((rd_T116 l1_0 x25_1).f3))=true:=decide_eq_true c29;clear c29;obtain rfl:=Option.some.inj H;have hnb30:=NB73_74.out;have hnc30:=NB74_73.out;have hcz31_0:w20.cell? ⟨gb73,0,none⟩=some (.int .i64 0):=(blk_cell BK73.out 0).trans rfl;have hcz31_1:w20.cell? ⟨gb73,1,none⟩=some (.int .i64 0):=(blk_cell BK73.out 1).trans rfl;have hcz31_2:w20.cell? ⟨gb73,2,none⟩=some (.int .i64 0):=(blk_cell BK73.out 2).trans rfl;have hcz31_3:w20.cell? ⟨gb73,3,none⟩=some (.int .i64 0):=(blk_cell BK73.out 3).trans rfl;have hfz31_0:=blk_frozen BK73.out 0;have hfz31_1:=blk_frozen BK73.out 1;have hfz31_2:=blk_frozen BK73.out 2;have hfz31_3:=blk_frozen BK73.out 3
               go_wp2
               go_ret
               exact ⟨ze,zv2 HB GE74 GE73⟩
              ·rw [if_neg c29] at H;have c29b0:decide ((l0.length:Int)≤((rd_T116 l1_0 x25_1).f3))=false:=decide_eq_false c29;clear c29;have H':=zA H;clear H;have hnb32:=NB73_74.out;have hnc32:=NB74_73.out;have hcz33_0:w20.cell? ⟨gb73,0,none⟩=some (.int .i64 0):=(blk_cell BK73.out 0).trans rfl;have hcz33_1:w20.cell? ⟨gb73,1,none⟩=some (.int .i64 0):=(blk_cell BK73.out 1).trans rfl;have hcz33_2:w20.cell? ⟨gb73,2,none⟩=some (.int .i64 0):=(blk_cell BK73.out 2).trans rfl;have hcz33_3:w20.cell? ⟨gb73,3,none⟩=some (.int .i64 0):=(blk_cell BK73.out 3).trans rfl;have hfz33_0:=blk_frozen BK73.out 0;have hfz33_1:=blk_frozen BK73.out 1;have hfz33_2:=blk_frozen BK73.out 2;have hfz33_3:=blk_frozen BK73.out 3
               go_wp2
               go_roundg k1
               case measure=>have:=HK1.out;omega
               case rel=>exact ⟨(x6_1),(wrap64 (x25_1+1)),zT,H',⟨by have:=HK1.out;omega⟩,⟨by refine zr ?_;exact Kd.R_mono (Kd.R_far (p:=⟨gb73,3,none⟩) (Kd.R_far (p:=⟨gb73,2,none⟩) (Kd.R_far (p:=⟨gb73,1,none⟩) (Kd.R_far (p:=⟨gb73,0,none⟩) (Kd.R_types HO_6.out BK73.out (by decide)) (fun _ hk=>hk.2) (.int .i64 ((rd_T116 l1_0 x25_1).f0))) (fun _ hk=>hk.2) (.int .i64 ((rd_T116 l1_0 x25_1).f1))) (fun _ hk=>hk.2) (.int .i64 ((rd_T116 l1_0 x25_1).f2))) (fun _ hk=>hk.2) (.int .i64 ((rd_T116 l1_0 x25_1).f3))) (fun _ hk=>trivial)⟩,⟨by refine zj ?_;refine blk_far ?_ NB74_73.out _;refine zj ?_;refine blk_far ?_ NB74_73.out _;refine zj ?_;refine blk_far ?_ NB74_73.out _;refine zj ?_;refine blk_far ?_ NB74_73.out _;refine zj ?_;exact BK74.out⟩,⟨zv2 HB GE74 GE73⟩⟩
            ·rw [if_neg c25] at H;have c25b0:(((rd_T116 l1_0 x25_1).f2) == 0)=false:=beq_eq_false_iff_ne.mpr c25;have c25b1:(((rd_T116 l1_0 x25_1).f2) != 0)=true:=bne_iff_ne.mpr c25;obtain rfl:=Option.some.inj H;have hnb34:=NB73_74.out;have hnc34:=NB74_73.out;have hcz35_0:w20.cell? ⟨gb73,0,none⟩=some (.int .i64 0):=(blk_cell BK73.out 0).trans rfl;have hcz35_1:w20.cell? ⟨gb73,1,none⟩=some (.int .i64 0):=(blk_cell BK73.out 1).trans rfl;have hcz35_2:w20.cell? ⟨gb73,2,none⟩=some (.int .i64 0):=(blk_cell BK73.out 2).trans rfl;have hcz35_3:w20.cell? ⟨gb73,3,none⟩=some (.int .i64 0):=(blk_cell BK73.out 3).trans rfl;have hfz35_0:=blk_frozen BK73.out 0;have hfz35_1:=blk_frozen BK73.out 1;have hfz35_2:=blk_frozen BK73.out 2;have hfz35_3:=blk_frozen BK73.out 3
             go_wp2
             go_ret
             exact ⟨ze,zv2 HB GE74 GE73⟩
           ·rw [if_neg c24] at H;have c24b0:(((rd_T116 l1_0 x25_1).f1) == 0)=false:=beq_eq_false_iff_ne.mpr c24;have c24b1:(((rd_T116 l1_0 x25_1).f1) != 0)=true:=bne_iff_ne.mpr c24;obtain rfl:=Option.some.inj H;have hnb36:=NB73_74.out;have hnc36:=NB74_73.out;have hcz37_0:w20.cell? ⟨gb73,0,none⟩=some (.int .i64 0):=(blk_cell BK73.out 0).trans rfl;have hcz37_1:w20.cell? ⟨gb73,1,none⟩=some (.int .i64 0):=(blk_cell BK73.out 1).trans rfl;have hcz37_2:w20.cell? ⟨gb73,2,none⟩=some (.int .i64 0):=(blk_cell BK73.out 2).trans rfl;have hcz37_3:w20.cell? ⟨gb73,3,none⟩=some (.int .i64 0):=(blk_cell BK73.out 3).trans rfl;have hfz37_0:=blk_frozen BK73.out 0;have hfz37_1:=blk_frozen BK73.out 1;have hfz37_2:=blk_frozen BK73.out 2;have hfz37_3:=blk_frozen BK73.out 3
            go_wp2
            go_ret
            exact ⟨ze,zv2 HB GE74 GE73⟩
          ·rw [if_neg c23] at H;have c23b0:(((rd_T116 l1_0 x25_1).f0) == (-1))=false:=beq_eq_false_iff_ne.mpr c23;have c23b1:(((rd_T116 l1_0 x25_1).f0) != (-1))=true:=bne_iff_ne.mpr c23
           (first|rw [c23b0]|(simp only [i64_w,i32_w];rw [c23b0])|skip)
           (try rw [c23b1])
           by_cases c38:((rd_T116 l1_0 x25_1).f0)<0
           ·rw [if_pos c38] at H;have c38b0:decide (((rd_T116 l1_0 x25_1).f0)<0)=true:=decide_eq_true c38;clear c38;obtain rfl:=Option.some.inj H;have hnb39:=NB73_74.out;have hnc39:=NB74_73.out;have hcz40_0:w20.cell? ⟨gb73,0,none⟩=some (.int .i64 0):=(blk_cell BK73.out 0).trans rfl;have hcz40_1:w20.cell? ⟨gb73,1,none⟩=some (.int .i64 0):=(blk_cell BK73.out 1).trans rfl;have hcz40_2:w20.cell? ⟨gb73,2,none⟩=some (.int .i64 0):=(blk_cell BK73.out 2).trans rfl;have hcz40_3:w20.cell? ⟨gb73,3,none⟩=some (.int .i64 0):=(blk_cell BK73.out 3).trans rfl;have hfz40_0:=blk_frozen BK73.out 0;have hfz40_1:=blk_frozen BK73.out 1;have hfz40_2:=blk_frozen BK73.out 2;have hfz40_3:=blk_frozen BK73.out 3
            go_wp2
            go_ret
            exact ⟨ze,zv2 HB GE74 GE73⟩
           ·rw [if_neg c38] at H;have c38b0:decide (((rd_T116 l1_0 x25_1).f0)<0)=false:=decide_eq_false c38;clear c38
            by_cases c41:((rd_T116 l1_0 x25_1).f0)≥24
            ·rw [if_pos c41] at H;have c41b0:decide (24≤((rd_T116 l1_0 x25_1).f0))=true:=decide_eq_true c41;clear c41;obtain rfl:=Option.some.inj H;have hnb42:=NB73_74.out;have hnc42:=NB74_73.out;have hcz43_0:w20.cell? ⟨gb73,0,none⟩=some (.int .i64 0):=(blk_cell BK73.out 0).trans rfl;have hcz43_1:w20.cell? ⟨gb73,1,none⟩=some (.int .i64 0):=(blk_cell BK73.out 1).trans rfl;have hcz43_2:w20.cell? ⟨gb73,2,none⟩=some (.int .i64 0):=(blk_cell BK73.out 2).trans rfl;have hcz43_3:w20.cell? ⟨gb73,3,none⟩=some (.int .i64 0):=(blk_cell BK73.out 3).trans rfl;have hfz43_0:=blk_frozen BK73.out 0;have hfz43_1:=blk_frozen BK73.out 1;have hfz43_2:=blk_frozen BK73.out 2;have hfz43_3:=blk_frozen BK73.out 3
             go_wp2
             go_ret
             exact ⟨ze,zv2 HB GE74 GE73⟩
            ·rw [if_neg c41] at H;have c41b0:decide (24≤((rd_T116 l1_0 x25_1).f0))=false:=decide_eq_false c41;clear c41
             by_cases c44:((rd_T116 l1_0 x25_1).f3)=0
             ·rw [if_pos c44] at H;have c44b0:(((rd_T116 l1_0 x25_1).f3) == 0)=true:=beq_iff_eq.mpr c44;have c44b1:(((rd_T116 l1_0 x25_1).f3) != 0)=false:=bne_eq_false_iff_eq.mpr c44;clear c44
              obtain ⟨y75,hy75⟩:∃ y_:List Int,y_=(([(rd_T116 l1_0 x25_1).f1,(rd_T116 l1_0 x25_1).f2]:List Int)):=⟨_,rfl⟩
              replace H:(solve_shape.l1 k1 l0 (l1_0.length:Int) x6_1 x25_1 l1_0 (l1_0.length:Int) x25_1 y75 (y75.length:Int) 0)=some r:=by first|(rw [hy75];with_reducible exact H)|(have H2_:=(Option.bind_some _ _).symm.trans H;rw [hy75];with_reducible exact H2_)|(have H2_:=(Option.bind_some _ _).symm.trans H;with_reducible exact H2_)|with_reducible exact H|(rw [hy75];exact H)|exact H
              have Ny75:=zA hy75;clear hy75;have H':=zA H;clear H;have hnb45:=NB73_74.out;have hnc45:=NB74_73.out;have hcz46_0:w20.cell? ⟨gb73,0,none⟩=some (.int .i64 0):=(blk_cell BK73.out 0).trans rfl;have hcz46_1:w20.cell? ⟨gb73,1,none⟩=some (.int .i64 0):=(blk_cell BK73.out 1).trans rfl;have hcz46_2:w20.cell? ⟨gb73,2,none⟩=some (.int .i64 0):=(blk_cell BK73.out 2).trans rfl;have hcz46_3:w20.cell? ⟨gb73,3,none⟩=some (.int .i64 0):=(blk_cell BK73.out 3).trans rfl;have hfz46_0:=blk_frozen BK73.out 0;have hfz46_1:=blk_frozen BK73.out 1;have hfz46_2:=blk_frozen BK73.out 2;have hfz46_3:=blk_frozen BK73.out 3
              go_wp2_with (first|((with_reducible refine gate_dst (N:=70) rfl ?_);(try (refine gate_guard (by rfl) ?_;dsimp only));refine Kd.R_lit (Kd.int .i64) _ 3 ?hg (N:=70) ?hd (xs:=([(rd_T116 l1_0 x25_1).f1,(rd_T116 l1_0 x25_1).f2]:List Int)) (inner:=[.int .i64 ((rd_T116 l1_0 x25_1).f1),.int .i64 ((rd_T116 l1_0 x25_1).f2)]) (ok:=fun _=>True) (okp:=fun _=>True) ?hr ?hp (fun _ hk=>hk) trivial (Below.refl _ _) (Nat.le_refl _) (by simp) ?_;(case hd=>rfl);(case hg=>rfl);(case hr=>first|(go_simp;done)|(go_simp;rfl));(case hp=>exact (Reps.one (show Kd.M (Kd.int .i64) _ _ _ ((rd_T116 l1_0 x25_1).f1) [.int .i64 ((rd_T116 l1_0 x25_1).f1)] from rfl) (Reps.one (show Kd.M (Kd.int .i64) _ _ _ ((rd_T116 l1_0 x25_1).f2) [.int .i64 ((rd_T116 l1_0 x25_1).f2)] from rfl) (Reps.none _ _))));intro v92 w47 ho48 hb hg_ hnew_;clear hg_ hnew_;(first|rw [← Ny75.out] at ho48|(simp only [Int.reduceToNat] at ho48;rw [← Ny75.out] at ho48));have HO89:=zA (Kd.R_lower ho48 (below_size zB));replace HO_6:=zA (Kd.R_below (by refine zr ?_;exact (Kd.R_mono (Kd.R_far (p:=⟨gb73,3,none⟩) (Kd.R_far (p:=⟨gb73,2,none⟩) (Kd.R_far (p:=⟨gb73,1,none⟩) (Kd.R_far (p:=⟨gb73,0,none⟩) (Kd.R_types HO_6.out BK73.out (by decide)) (fun _ hk=>hk.2) (.int .i64 ((rd_T116 l1_0 x25_1).f0))) (fun _ hk=>hk.2) (.int .i64 ((rd_T116 l1_0 x25_1).f1))) (fun _ hk=>hk.2) (.int .i64 ((rd_T116 l1_0 x25_1).f2))) (fun _ hk=>hk.2) (.int .i64 ((rd_T116 l1_0 x25_1).f3))) (fun _ h_=>h_.1))) hb);replace BK74:=zA (blk_below (g:=gb74) (o:=.cells #[.slice (some ad78) l1_0.length c1_0] 63 (0,0)) (by refine zj ?_;refine blk_far ?_ NB74_73.out _;refine zj ?_;refine blk_far ?_ NB74_73.out _;refine zj ?_;refine blk_far ?_ NB74_73.out _;refine zj ?_;refine blk_far ?_ NB74_73.out _;refine zj ?_;exact BK74.out) hb);replace BK73:=zA (blk_below (g:=gb73) (o:=.cells #[.int .i64 ((rd_T116 l1_0 x25_1).f0),.int .i64 ((rd_T116 l1_0 x25_1).f1),.int .i64 ((rd_T116 l1_0 x25_1).f2),.int .i64 ((rd_T116 l1_0 x25_1).f3)] 116 (0,0)) (by refine zj ?_;refine blk_put (cs:=#[.int .i64 ((rd_T116 l1_0 x25_1).f0),.int .i64 ((rd_T116 l1_0 x25_1).f1),.int .i64 ((rd_T116 l1_0 x25_1).f2),.int .i64 0]) ?_ 3 _ rfl;refine zj ?_;refine blk_put (cs:=#[.int .i64 ((rd_T116 l1_0 x25_1).f0),.int .i64 ((rd_T116 l1_0 x25_1).f1),.int .i64 0,.int .i64 0]) ?_ 2 _ rfl;refine zj ?_;refine blk_put (cs:=#[.int .i64 ((rd_T116 l1_0 x25_1).f0),.int .i64 0,.int .i64 0,.int .i64 0]) ?_ 1 _ rfl;refine zj ?_;refine blk_put (cs:=#[.int .i64 0,.int .i64 0,.int .i64 0,.int .i64 0]) ?_ 0 _ rfl;refine zj ?_;exact BK73.out) hb);replace HB:=zA (below_step zB hb);clear hb ho48;obtain ⟨Ao49,co49,eo49⟩:=Kd.R_slice HO89.out;subst eo49))
              go_loopg [72] k1 (fun kq v72 w'=>∃ (x6_2:List Bool) (x72_2:Int),v72=.int .i64 x72_2∧Aside0 (solve_shape.l1 kq l0 (l1_0.length:Int) x6_2 x25_1 l1_0 (l1_0.length:Int) x25_1 y75 (y75.length:Int) x72_2=some r)∧Aside0 (kq≤k1)∧Aside0 (Kd.R Kd.bool 4 w' w.heap.size (fun _=>True) v88 x6_2)∧Aside0 (Kd.R (Kd.int .i64) 3 w' w.heap.size (fun _=>True) (.slice Ao49 y75.length co49) y75)∧Aside0 (w'.heap[gb74]?=some (.cells #[(.slice (some ad78) l1_0.length c1_0)] 63 (0,0)))∧Aside0 (w'.heap[gb73]?=some (.cells #[.int .i64 ((rd_T116 l1_0 x25_1).f0),.int .i64 ((rd_T116 l1_0 x25_1).f1),.int .i64 ((rd_T116 l1_0 x25_1).f2),.int .i64 ((rd_T116 l1_0 x25_1).f3)] 116 (0,0)))∧Aside0 (Below w.heap.size w w'))
              case atStart=>exact ⟨(x6_1),(0),zT,H',⟨Nat.le_refl _⟩,⟨by refine zr ?_;exact HO_6.out⟩,⟨by refine zr ?_;exact HO89.out⟩,⟨by refine zj ?_;exact BK74.out⟩,⟨by refine zj ?_;exact BK73.out⟩,⟨zv2 HB GE74 GE73⟩⟩
              case round=>
               clear H'
               try clear c5
               try clear c5b0
               try clear c5b1
               try clear c5b2
               try clear c7
               try clear c7b0
               try clear c7b1
               try clear c9
               try clear c9b0
               try clear c9b1
               try clear c10
               try clear c10b0
               try clear c10b1
               try clear c16
               try clear c16b0
               try clear c17
               try clear c17b0
               try clear c18
               try clear c18b0
               try clear c23
               try clear c23b0
               try clear c23b1
               try clear c38
               try clear c38b0
               try clear c41
               try clear c41b0
               try clear c44
               try clear c44b0
               try clear c44b1
               try clear hcz12_0
               try clear hcz15_0
               try clear hcz22_0
               try clear hcz22_1
               try clear hcz22_2
               try clear hcz22_3
               try clear hcz46_0
               try clear hcz46_1
               try clear hcz46_2
               try clear hcz46_3
               try clear hfz12_0
               try clear hfz15_0
               try clear hfz22_0
               try clear hfz22_1
               try clear hfz22_2
               try clear hfz22_3
               try clear hfz46_0
               try clear hfz46_1
               try clear hfz46_2
               try clear hfz46_3
               try clear hx78_0
               try clear hx78_1
               try clear hx78_2
               try clear hx78_3
               try clear p78
               try clear q78
               obtain ⟨x6_2,x72_2,rfl,HA,HK2,HO_6,HO_70,BK74,BK73,HB⟩:=hrel
               cases gk with
               | zero=>exact absurd HA.out (by simp [solve_shape.l1])
               | succ k2=>
                have H:=HA.out;clear HA;simp only [solve_shape.l1] at H
                by_cases c50:x72_2<(y75.length:Int)
                ·rw [if_pos c50] at H;have c50b0:decide (x72_2<(y75.length:Int))=true:=decide_eq_true c50;clear c50
                 by_cases c51:0≤x72_2
                 ·rw [if_pos c51] at H;have c51b0:decide (0≤x72_2)=true:=decide_eq_true c51;clear c51
                  by_cases c52:x72_2<(y75.length:Int)
                  ·rw [if_pos c52] at H;have c52b0:decide (x72_2<(y75.length:Int))=true:=decide_eq_true c52;clear c52
                   by_cases c53:(rd y75 x72_2)≤x25_1
                   ·rw [if_pos c53] at H;have c53b0:decide ((rd y75 x72_2)≤x25_1)=true:=decide_eq_true c53;clear c53;obtain rfl:=Option.some.inj H;have p76:0≤(x72_2:Int):=of_decide_eq_true zh;have q76:x72_2<(y75.length:Int):=of_decide_eq_true zh;obtain ⟨ad76,e76,hx76_0⟩:=Kd.at_int (Kd.R_reads' HO_70.out).2.2 x72_2 p76 q76
                    cases e76
                    replace p76:=eq_true p76;replace q76:=eq_true q76
                    go_wp2
                    go_ret
                    exact ⟨ze,zv2 HB GE74 GE73⟩
                   ·rw [if_neg c53] at H;have c53b0:decide ((rd y75 x72_2)≤x25_1)=false:=decide_eq_false c53;clear c53
                    by_cases c54:(rd y75 x72_2)≥(l1_0.length:Int)
                    ·rw [if_pos c54] at H;have c54b0:decide ((l1_0.length:Int)≤(rd y75 x72_2))=true:=decide_eq_true c54;clear c54;obtain rfl:=Option.some.inj H;have p76:0≤(x72_2:Int):=of_decide_eq_true zh;have q76:x72_2<(y75.length:Int):=of_decide_eq_true zh;obtain ⟨ad76,e76,hx76_0⟩:=Kd.at_int (Kd.R_reads' HO_70.out).2.2 x72_2 p76 q76
                     cases e76
                     replace p76:=eq_true p76;replace q76:=eq_true q76
                     go_wp2
                     go_ret
                     exact ⟨ze,zv2 HB GE74 GE73⟩
                    ·rw [if_neg c54] at H;have c54b0:decide ((l1_0.length:Int)≤(rd y75 x72_2))=false:=decide_eq_false c54;clear c54
                     by_cases c55:0≤(rd y75 x72_2)
                     ·rw [if_pos c55] at H;have c55b0:decide (0≤(rd y75 x72_2))=true:=decide_eq_true c55;clear c55
                      by_cases c56:(rd y75 x72_2)<(x6_2.length:Int)
                      ·rw [if_pos c56] at H;have c56b0:decide ((rd y75 x72_2)<(x6_2.length:Int))=true:=decide_eq_true c56;clear c56
                       obtain ⟨bq57,hbq57⟩:∃ b_:Bool,b_=(rdOf false x6_2 (rd y75 x72_2)):=⟨_,rfl⟩
                       replace H:(if bq57=true then (some false) else (solve_shape.l1 k2 l0 (l1_0.length:Int) (x6_2.set ((rd y75 x72_2):Int).toNat true) x25_1 l1_0 (l1_0.length:Int) x25_1 y75 (y75.length:Int) (wrap64 (x72_2+1))))=some r:=by rw [← hbq57] at H;exact H
                       have Nbq57:=zA hbq57;clear hbq57
                       by_cases c58:bq57=true
                       ·subst c58
                        have H1:(some false)=some r:=by rw [if_pos rfl] at H;exact H
                        clear H;have H:=H1;clear H1;obtain rfl:=Option.some.inj H;have p76:0≤(x72_2:Int):=of_decide_eq_true zh;have q76:x72_2<(y75.length:Int):=of_decide_eq_true zh;obtain ⟨ad76,e76,hx76_0⟩:=Kd.at_int (Kd.R_reads' HO_70.out).2.2 x72_2 p76 q76
                        cases e76
                        replace p76:=eq_true p76;replace q76:=eq_true q76;obtain ⟨Ao59,co59,eo59⟩:=Kd.R_slice HO_6.out;subst eo59;have p80:0≤((rd y75 x72_2):Int):=of_decide_eq_true zh;have q80:(rd y75 x72_2)<(x6_2.length:Int):=of_decide_eq_true zh;obtain ⟨ad80,e80,hx80_0⟩:=Kd.at_bool (Kd.R_reads' HO_6.out).2.2 (rd y75 x72_2) p80 q80;(try rw [← Nbq57.out] at hx80_0)
                        cases e80
                        replace p80:=eq_true p80;replace q80:=eq_true q80
                        go_wp2
                        go_ret
                        exact ⟨ze,zv2 HB GE74 GE73⟩
                       ·replace c58:=Bool.eq_false_iff.mpr c58;subst c58
                        have H1:(solve_shape.l1 k2 l0 (l1_0.length:Int) (x6_2.set ((rd y75 x72_2):Int).toNat true) x25_1 l1_0 (l1_0.length:Int) x25_1 y75 (y75.length:Int) (wrap64 (x72_2+1)))=some r:=by rw [if_neg (show ¬ (false=true) by decide)] at H;exact H
                        clear H;have H:=H1;clear H1
                        obtain ⟨y83,hy83⟩:∃ y_:List Bool,y_=(x6_2.set ((rd y75 x72_2):Int).toNat true):=⟨_,rfl⟩
                        replace H:(solve_shape.l1 k2 l0 (l1_0.length:Int) y83 x25_1 l1_0 (l1_0.length:Int) x25_1 y75 (y75.length:Int) (wrap64 (x72_2+1)))=some r:=by first|(rw [hy83];with_reducible exact H)|(have H2_:=(Option.bind_some _ _).symm.trans H;rw [hy83];with_reducible exact H2_)|(have H2_:=(Option.bind_some _ _).symm.trans H;with_reducible exact H2_)|with_reducible exact H|(rw [hy83];exact H)|exact H
                        have Ny83:=zA hy83;clear hy83;have H':=zA H;clear H;have p76:0≤(x72_2:Int):=of_decide_eq_true zh;have q76:x72_2<(y75.length:Int):=of_decide_eq_true zh;obtain ⟨ad76,e76,hx76_0⟩:=Kd.at_int (Kd.R_reads' HO_70.out).2.2 x72_2 p76 q76
                        cases e76
                        replace p76:=eq_true p76;replace q76:=eq_true q76;obtain ⟨Ao61,co61,eo61⟩:=Kd.R_slice HO_6.out;subst eo61;have p80:0≤((rd y75 x72_2):Int):=of_decide_eq_true zh;have q80:(rd y75 x72_2)<(x6_2.length:Int):=of_decide_eq_true zh;obtain ⟨ad80,e80,hx80_0⟩:=Kd.at_bool (Kd.R_reads' HO_6.out).2.2 (rd y75 x72_2) p80 q80;(try rw [← Nbq57.out] at hx80_0)
                        cases e80
                        replace p80:=eq_true p80;replace q80:=eq_true q80;have p60:0≤((rd y75 x72_2):Int):=of_decide_eq_true zh;have q60:((rd y75 x72_2):Int)<((x6_2.length:Int):Int):=of_decide_eq_true zh;obtain ⟨go60,co60,eo60,gb60,gl60,cl60,HG60⟩:=Kd.R_form HO_6.out (by omega)
                        (first|cases eo60|(injection eo60 with ea_ en_ ec_;(first|subst ea_|(injection ea_ with ea_;subst ea_));subst ec_;clear en_))
                        have GB60:=zA gb60;have GG60:=zA HG60;clear gb60 gl60 HG60
                        (first|simp only [add_plain] at hx80_0|skip)
                        obtain ⟨hx60_0,hf60_0⟩:=Kd.R_celln false HO_6.out ((rd y75 x72_2):Int) p60 q60;replace p60:=eq_true p60;replace q60:=eq_true q60;have HP62:=Kd.R_putg HO_6.out ((rd y75 x72_2):Int) true
                        go_wp2_with (first|((with_reducible refine gate_store (t:=4) (p:=92) rfl ?_);refine store_event (t:=4) (p:=92) (v:=?vo_w63) (w1:=(wr.setCell ⟨go60,((rd y75 x72_2):Int).toNat,none⟩ (.bool true))) ?hg ?ho ?hn ?hr ?_;(case ho=>rfl);(case hg=>rfl);(case hn=>rfl);(case hr=>first|(go_simp;done)|(go_simp;rfl));intro w63 hw;have hg:wr.grownBy w63 (some go60):=(by rw [hw];exact HP62.2);have hp_:Kd.R Kd.bool 4 w63 w.heap.size (fun _=>True) (.slice (some ⟨go60,0,none⟩) x6_2.length co61) y83:=(by rw [hw,Ny83.out];exact HP62.1);clear HP62;replace HO_70:=zA (Kd.R_over' (v:=(.slice (some ⟨go60,0,none⟩) x6_2.length co61)) (zR HO_70) (Kd.R_typed HO_6.out) (by decide) hg);replace BK74:=zA (blk_grown (g:=gb74) (o:=.cells #[.slice (some ad78) l1_0.length c1_0] 63 (0,0)) (zk BK74) hg (Kd.R_ne HO_6.out BK74.out (by decide)));replace BK73:=zA (blk_grown (g:=gb73) (o:=.cells #[.int .i64 ((rd_T116 l1_0 x25_1).f0),.int .i64 ((rd_T116 l1_0 x25_1).f1),.int .i64 ((rd_T116 l1_0 x25_1).f2),.int .i64 ((rd_T116 l1_0 x25_1).f3)] 116 (0,0)) (zk BK73) hg (Kd.R_ne HO_6.out BK73.out (by decide)));replace HO_6:=zA (hp_);replace HB:=zA ((by rw [hw];exact below_set (HB.out) GB60.out:Below w.heap.size w w63));clear hg hw hp_))
                        go_roundg k2
                        case measure=>have:=HK1.out;have:=HK2.out;omega
                        case rel=>exact ⟨(y83),(wrap64 (x72_2+1)),zT,H',⟨by have:=HK1.out;have:=HK2.out;omega⟩,⟨by refine zr ?_;exact HO_6.out⟩,⟨by refine zr ?_;exact HO_70.out⟩,⟨by refine zj ?_;exact BK74.out⟩,⟨by refine zj ?_;exact BK73.out⟩,⟨zv2 HB GE74 GE73⟩⟩
                      ·rw [if_neg c56] at H;exact absurd H (by simp)
                     ·rw [if_neg c55] at H;exact absurd H (by simp)
                  ·rw [if_neg c52] at H;exact absurd H (by simp)
                 ·rw [if_neg c51] at H;exact absurd H (by simp)
                ·rw [if_neg c50] at H;have c50b0:decide (x72_2<(y75.length:Int))=false:=decide_eq_false c50;clear c50;have H':=zA H;clear H
                 go_wp2
                 go_roundg k2
                 case measure=>have:=HK1.out;have:=HK2.out;omega
                 case rel=>exact ⟨(x6_2),(wrap64 (x25_1+1)),zT,H',⟨by have:=HK1.out;have:=HK2.out;omega⟩,⟨by refine zr ?_;exact HO_6.out⟩,⟨by refine zj ?_;exact BK74.out⟩,⟨zv2 HB GE74 GE73⟩⟩
             ·rw [if_neg c44] at H;have c44b0:(((rd_T116 l1_0 x25_1).f3) == 0)=false:=beq_eq_false_iff_ne.mpr c44;have c44b1:(((rd_T116 l1_0 x25_1).f3) != 0)=true:=bne_iff_ne.mpr c44;obtain rfl:=Option.some.inj H;have hnb64:=NB73_74.out;have hnc64:=NB74_73.out;have hcz65_0:w20.cell? ⟨gb73,0,none⟩=some (.int .i64 0):=(blk_cell BK73.out 0).trans rfl;have hcz65_1:w20.cell? ⟨gb73,1,none⟩=some (.int .i64 0):=(blk_cell BK73.out 1).trans rfl;have hcz65_2:w20.cell? ⟨gb73,2,none⟩=some (.int .i64 0):=(blk_cell BK73.out 2).trans rfl;have hcz65_3:w20.cell? ⟨gb73,3,none⟩=some (.int .i64 0):=(blk_cell BK73.out 3).trans rfl;have hfz65_0:=blk_frozen BK73.out 0;have hfz65_1:=blk_frozen BK73.out 1;have hfz65_2:=blk_frozen BK73.out 2;have hfz65_3:=blk_frozen BK73.out 3
              go_wp2
              go_ret
              exact ⟨ze,zv2 HB GE74 GE73⟩
         ·rw [if_neg c18] at H;exact absurd H (by simp)
        ·rw [if_neg c17] at H;exact absurd H (by simp)
       ·rw [if_neg c16] at H;have c16b0:decide (x25_1<(l1_0.length:Int))=false:=decide_eq_false c16;clear c16
        (first|rw [c16b0]|(simp only [i64_w,i32_w];rw [c16b0])|skip)
        by_cases c66:1≤(x6_1.length:Int)
        ·rw [if_pos c66] at H;have c66b0:=eq_true c66;have c66b1:decide (1≤(x6_1.length:Int))=true:=decide_eq_true c66;clear c66
         obtain ⟨y81,hy81⟩:∃ y_:List Bool,y_=(x6_1.drop 1):=⟨_,rfl⟩
         replace H:((slices_Contains_bool_bool.f k1 y81 false).bind fun t85=>(some (!t85)))=some r:=by first|(rw [hy81];with_reducible exact H)|(have H2_:=(Option.bind_some _ _).symm.trans H;rw [hy81];with_reducible exact H2_)|(have H2_:=(Option.bind_some _ _).symm.trans H;with_reducible exact H2_)|with_reducible exact H|(rw [hy81];exact H)|exact H
         have Ny81:=zA hy81;clear hy81;replace H:=Option.bind_eq_some_iff.mp H;obtain ⟨t85,A90,H⟩:=H;replace H:(some (!t85))=some r:=H;have A67:=zA A90;clear A90;obtain rfl:=Option.some.inj H;obtain ⟨Ao69,co69,eo69⟩:=Kd.R_slice HO_6.out;subst eo69;have q68:(1:Int)≤((x6_1.length:Int):Int):=of_decide_eq_true zh;obtain ⟨i87,hi87,_,hsz68,_⟩:=info_parts info4;have hroom68:x6_1.length≤co69:=(Kd.R_reads' HO_6.out).2.1;have hC68:Kd.C Kd.bool _ Ao69 x6_1.length x6_1:=(Kd.R_reads' HO_6.out).2.2;have hcut68:=cut_from (P:=Try.prog) 79 4 .i64 Try.underlying79 hi87 1 hsz68 Ao69 x6_1.length co69 1 (by omega) q68;have hr68:=Kd.C_drop (m:=(1:Int).toNat) (c:=co69) hC68 (by omega) hroom68
         obtain ⟨A68,hA68⟩:∃ A1,A1=(if co69=(1:Int).toNat then Ao69 else (Ao69:Option Addr).map (·.add ((1:Int).toNat * 1))):=⟨_,rfl⟩
         obtain ⟨c68,hc68⟩:∃ c1,c1=co69 - (1:Int).toNat:=⟨_,rfl⟩
         have hy68:y81.length=x6_1.length - (1:Int).toNat:=(by rw [Ny81.out,List.length_drop] <;> omega)
         rw [show (x6_1).drop (1:Int).toNat=y81 from Ny81.out.symm] at hr68
         replace hr68:Kd.C Kd.bool _ A68 y81.length y81:=(by rw [hA68];exact hr68)
         rw [← hy68,← hA68,← hc68] at hcut68;have HR86:=zA hr68;have HC86:=zA (show y81.length≤c68 from by rw [hy68,hc68];exact Nat.sub_le_sub_right hroom68 _);clear hr68 hC68 hroom68 hi87 hsz68 hc68;have KY68:=zA hy68;have KA68:=zA hA68;clear hy68 hA68;have KL68:=zA (show 1≤x6_1.length from by omega);replace q68:=eq_true q68
         go_wp2_with (first|((with_reducible refine gate_callee (f:=84) rfl ?_);refine goesL_ (some 97) rfl rfl Try.func84 zK rfl #[.slice A68 y81.length c68,.bool false] rfl zM ?_;(with_reducible refine (slices_Contains_bool_bool.calls k1 _ _ y81 false t85 _ ?side1 ?side2 A67.out).mono ?_);(case side1=>repeat (first|exact (by repeat (first|(with_reducible exact HR86.out)|(with_reducible refine Kd.C_alloc ?_ _)|(with_reducible refine Kd.C_drewN ?_ _)|(with_reducible refine Kd.C_drew ?_)|exact HR86.out))|(with_reducible refine Kd.C_alloc ?_ _)|(with_reducible refine Kd.C_drewN ?_ _)|(with_reducible refine Kd.C_drew ?_)));(case side2=>exact HC86.out);rintro e w' ⟨rfl,⟨nd,rfl⟩⟩;refine ⟨_,rfl,?_⟩))
         go_ret
         exact ⟨ze,zv1 HB GE74⟩
        ·rw [if_neg c66] at H;exact absurd H (by simp)
    ·rw [if_neg c10] at H;exact absurd H (by simp)
   ·rw [if_neg c9] at H;exact absurd H (by simp)
end Go.Proofs.Ytngpkbbljnbojaa.I
