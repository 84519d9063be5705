import Derived.Test.YtngpkbbljnbojaaGreatA0
import Derived.Test.YtngpkbbljnbojaaGreatA6
import Derived.Test.YtngpkbbljnbojaaGreatA7
import Derived.Test.YtngpkbbljnbojaaGreatA11
import Derived.Test.YtngpkbbljnbojaaGreatA12
import Derived.Test.YtngpkbbljnbojaaGreatA13
import Derived.Test.YtngpkbbljnbojaaGreatA15
namespace Go.Proofs.YtngpkbbljnbojaaGreat.A
open Go.RowKit Go.Proofs.YtngpkbbljnbojaaGreatW.PrintWords Go.Proofs.YtngpkbbljnbojaaGreatW.PrintLast Go.Proofs.YtngpkbbljnbojaaGreatW.PrintMore
attribute [local go_sem] max2_int min2_int max_two min_two max_three min_three max_four min_four Tryz.underlying3 Tryz.underlying42 Tryz.underlying43 Tryz.underlying63 Tryz.underlying77 Tryz.underlying78 Tryz.underlying80
set_option linter.unusedVariables false
set_option linter.unusedSimpArgs false
mutual
def ancepsref38_Made.l0:Nat→Int→Int→Int→List Int→Option (List Int×List Int)
 | 0,_,_,_,_=>none
 | k+1,x4,x99,x100,x83=>if x4<24 then (if (x83.length:Int)<6 then (if 0≤x4 then (if (Int.tmod (shr .u32 x99 x4) 2)=1 then (if x83.length<17592186044416 then (ancepsref38_Made.l0 k (wrap64 (x4+1)) x99 x100 (x83++[x4])) else (none)) else (ancepsref38_Made.l0 k (wrap64 (x4+1)) x99 x100 x83)) else (none)) else (ancepsref38_Made.l1 k 0 x99 x100 x83 ([]:List Int))) else (ancepsref38_Made.l1 k 0 x99 x100 x83 ([]:List Int))
def ancepsref38_Made.l1:Nat→Int→Int→Int→List Int→List Int→Option (List Int×List Int)
 | 0,_,_,_,_,_=>none
 | k+1,x5,x99,x100,x83,x85=>if x5<(shl .i64 1 (x83.length:Int)) then (if 0≤x5 then (if (Int.tmod (shr .u64 x100 x5) 2)=1 then (if x85.length<17592186044416 then (ancepsref38_Made.l1 k (wrap64 (x5+1)) x99 x100 x83 (x85++[x5])) else (none)) else (ancepsref38_Made.l1 k (wrap64 (x5+1)) x99 x100 x83 x85)) else (none)) else (some (x83,x85))
end
def ancepsref38_Made.f (k:Nat) (a0_0:Int) (a0_1:Int):Option (List Int×List Int):=ancepsref38_Made.l0 k 0 a0_0 a0_1 ([]:List Int)
set_option maxHeartbeats 8000000 in
set_option maxRecDepth 100000 in
theorem ancepsref38_Made.calls (k:Nat) (a0_0:Int) (a0_1:Int) (r1:List Int) (r2:List Int) (w:World) (h:ancepsref38_Made.f k a0_0 a0_1=some (r1,r2)) :
  Calls Tryz.prog 53 #[.agg #[.int .u32 a0_0,.int .u64 a0_1]] w fun e w'=>∃ v0_ v1_:Value,e=.returned (.agg #[v0_,v1_])∧Kd.R (Kd.int .i64) 3 w' w.heap.size (fun k_=>some k_≠(v1_:Value).ownBlock) v0_ r1∧Kd.R (Kd.int .i64) 3 w' w.heap.size (fun k_=>some k_≠(v0_:Value).ownBlock) v1_ r2∧Below w.heap.size w w':=by
 have HB:=zA (Below.refl w.heap.size w);have H:(ancepsref38_Made.l0 k 0 a0_0 a0_1 ([]:List Int))=some (r1,r2):=h;clear h;have H':=zA H;clear H
 go_enter Tryz.func53,Tryz.ntmps53
 go_wp2_with (first|((with_reducible refine gd 1 rfl ?_);(try (refine gate_guard (by rfl) ?_;dsimp only));refine zx #[.int .u32 a0_0,.int .u64 a0_1] 80 ?_;intro gb86 hg w2 BK86 hb GW86 HB1;have GE86:=GW86;clear HB hb hg;have HB:=HB1;clear HB1)|((with_reducible refine gd 2 rfl ?_);(try (refine gate_guard (by rfl) ?_;dsimp only));refine zx #[.slice none 0 0,.slice none 0 0] 63 ?_;intro gb87 hg w3 BK87 hb GW87 HB1;have GE87:=GW87;have NB86_87:=zL hg BK86;have NB87_86:=zLs NB86_87;replace BK86:=zw BK86 hb;clear HB hb hg;have HB:=HB1;clear HB1)|((with_reducible refine gd 3 rfl ?_);(try (refine gate_guard (by rfl) ?_;dsimp only));refine zx #[.slice none 0 0,.slice none 0 0] 63 ?_;intro gb84 hg w4 BK84 hb GW84 HB1;have GE84:=GW84;have NB86_84:=zL hg BK86;have NB84_86:=zLs NB86_84;have NB87_84:=zL hg BK87;have NB84_87:=zLs NB87_84;replace BK86:=zw BK86 hb;replace BK87:=zw BK87 hb;clear HB hb hg;have HB:=HB1;clear HB1))
 go_loopg [4] k (fun kq v4 w'=>∃ (x4_1:Int) (x83_1:List Int) (u83:Value),v4=.int .i64 x4_1∧Aside0 (ancepsref38_Made.l0 kq x4_1 a0_0 a0_1 x83_1=some (r1,r2))∧Aside0 (kq≤k)∧Aside0 (Kd.R (Kd.int .i64) 3 w' w.heap.size (fun _=>True) u83 x83_1)∧Aside0 (w'.heap[gb86]?=some (.cells #[.int .u32 a0_0,.int .u64 a0_1] 80 (0,0)))∧Aside0 (w'.heap[gb87]?=some (.cells #[(.slice none 0 0),(.slice none 0 0)] 63 (0,0)))∧Aside0 (w'.heap[gb84]?=some (.cells #[u83,(.slice none 0 0)] 63 (0,0)))∧Aside0 (Below w.heap.size w w'))
 case atStart=>exact ⟨(0),(([]:List Int)),(.slice none 0 0),zT,H',⟨Nat.le_refl _⟩,⟨by first|exact Kd.R_nil _ _ _ _ _|exact Kd.N_nil _ _ _ _ _|exact Kd.V_nil _ _ _ _ _|exact Kd.Q_nil _ _ _ _ _|exact Kd.S_nil _ _ _ _ _⟩,⟨by refine zj ?_;exact BK86.out⟩,⟨by refine zj ?_;exact BK87.out⟩,⟨by refine zj ?_;exact BK84.out⟩,⟨zv3 HB GE86 GE87 GE84⟩⟩
 case round=>
  clear H';obtain ⟨x4_1,x83_1,u83,rfl,HA,HK1,HO_83,BK86,BK87,BK84,HB⟩:=hrel
  cases gk with
  | zero=>exact absurd HA.out (by simp [ancepsref38_Made.l0])
  | succ k1=>
   have H:=HA.out;clear HA;simp only [ancepsref38_Made.l0] at H
   rcases ifd H with ⟨c5b0,H⟩|⟨c5b0,H⟩
   ·rcases if0 H with ⟨c6,H⟩|⟨c6,H⟩
    ·have c6b0:decide ((x83_1.length:Int)<6)=true:=decide_eq_true c6;have c6b1:decide (x83_1.length<6)=true:=decide_eq_true (by omega);clear c6;obtain ⟨c7,H⟩:=if1 H;have c7b0:=eq_true c7;have c7b1:decide (0≤x4_1)=true:=decide_eq_true c7;clear c7;obtain ⟨ji8,hji8⟩:=zZ (shr .u32 a0_0 x4_1)
     first|rw [hji8] at H|simp only [hji8] at H
     have hji8_:(a0_0 / 2 ^ min x4_1.toNat 32)=ji8:=hji8;have hji8z:x4_1≤32→(a0_0 / 2 ^ x4_1.toNat)=ji8:=shr_small hji8
     rcases ife H with ⟨c9b0,c9b1,H⟩|⟨c9,c9b0,c9b1,H⟩
     ·obtain ⟨c10,H⟩:=if1 H;have LMc10:=zA c10;clear c10
      first|(replace H:=zyb (x83_1++[x4_1]) H;obtain ⟨y895,Ny895,H⟩:=H)|(obtain ⟨y895,hy895⟩:=zY (x83_1++[x4_1]);(try rw (occs:=.pos [1]) [← hy895] at H);have Ny895:=zA hy895;clear hy895)
      have H':=zA H;clear H;have hnb11:=NB84_86.out;have hnc11:=NB86_84.out;have hnb12:=NB84_87.out;have hnc12:=NB87_84.out;have hcz13_0:=zc0 BK84;have hcz13_1:=zc1 BK84;have hfz13_0:=zf BK84;obtain ⟨Ao14,co14,eo14⟩:=Kd.R_slice HO_83.out;subst eo14;have hnb15:=NB86_87.out;have hnc15:=NB87_86.out;have hcz16_0:=zc0 BK86;have hcz16_1:=zc1 BK86;have hfz16_0:=zf BK86
      go_wp2_with (first|((with_reducible refine gate_builtin (b:=.append) (xs:=#[.tmp 23,.tmp 25]) rfl ?_);(try (refine gate_guard (by rfl) ?_;dsimp only));at_builtin;refine Kd.R_append (Kd.int .i64) (w0:=w) w.heap.size rfl (.tmp 23) (.tmp 25) 43 3 (.int .i64 0) 8 rfl Tryz.underlying43 info3 rfl (by decide) (by omega) (.slice Ao14 x83_1.length co14) x83_1 x4_1 [.int .i64 x4_1] (fun _=>True) (fun _=>False) rfl rfl ?aP (fun _ hk=>hk.elim) ?aF ?aO ?aB ?aS ?aL ?_;(case aP=>exact rfl);(case aB=>exact zB);(case aF=>exact (fun _ _=>trivial));(case aO=>exact (zR HO_83));(case aS=>exact (below_size zB));(case aL=>have:=LMc10.out;omega);intro v896 w17 ho hb hg hat;rw [← Ny895.out] at ho;have HO897:=zA (ho);replace BK86:=zA (blk_grown (g:=gb86) (o:=.cells #[.int .u32 a0_0,.int .u64 a0_1] 80 (0,0)) (zk BK86) hg (Kd.R_ne HO_83.out BK86.out (by decide)));replace BK87:=zA (blk_grown (g:=gb87) (o:=.cells #[.slice none 0 0,.slice none 0 0] 63 (0,0)) (zk BK87) hg (Kd.R_ne HO_83.out BK87.out (by decide)));replace BK84:=zA (blk_grown (g:=gb84) (o:=.cells #[.slice Ao14 x83_1.length co14,.slice none 0 0] 63 (0,0)) (zk BK84) hg (Kd.R_ne HO_83.out BK84.out (by decide)));replace HB:=zA (hb);clear HO_83;clear ho hb hg hat;obtain ⟨Ao18,co18,eo18⟩:=Kd.R_slice HO897.out;subst eo18;have hcz19_0:=zc0 BK84;have hcz19_1:=zc1 BK84;have hfz19_0:=zf BK84))
      go_roundg k1
      case measure=>have:=HK1.out;omega
      case rel=>exact ⟨(wrap64 (x4_1+1)),(y895),(.slice Ao18 y895.length co18),zT,H',⟨by have:=HK1.out;omega⟩,⟨by refine zr ?_;exact Kd.R_mono (Kd.R_far (p:=⟨gb84,0,none⟩) (Kd.R_types HO897.out BK84.out (by decide)) (fun _ hk=>hk.2) (.slice Ao18 y895.length co18)) (fun _ hk=>trivial)⟩,⟨by refine zj ?_;refine blk_far ?_ NB86_84.out _;refine zj ?_;exact BK86.out⟩,⟨by refine zj ?_;refine blk_far ?_ NB87_84.out _;refine zj ?_;exact BK87.out⟩,⟨by refine zj ?_;refine blk_put (cs:=#[.slice Ao14 x83_1.length co14,.slice none 0 0]) ?_ 0 _ rfl;refine zj ?_;exact BK84.out⟩,⟨zv3 HB GE86 GE87 GE84⟩⟩
     ·have H':=zA H;clear H;have hnb20:=NB84_86.out;have hnc20:=NB86_84.out;have hnb21:=NB84_87.out;have hnc21:=NB87_84.out;have hcz22_0:=zc0 BK84;have hcz22_1:=zc1 BK84;have hfz22_0:=zf BK84;obtain ⟨Ao23,co23,eo23⟩:=Kd.R_slice HO_83.out;subst eo23;have hnb24:=NB86_87.out;have hnc24:=NB87_86.out;have hcz25_0:=zc0 BK86;have hcz25_1:=zc1 BK86;have hfz25_0:=zf BK86
      go_wp2
      go_roundg k1
      case measure=>have:=HK1.out;omega
      case rel=>exact ⟨(wrap64 (x4_1+1)),(x83_1),(.slice Ao23 x83_1.length co23),zT,H',⟨by have:=HK1.out;omega⟩,⟨by refine zr ?_;exact HO_83.out⟩,⟨by refine zj ?_;exact BK86.out⟩,⟨by refine zj ?_;exact BK87.out⟩,⟨by refine zj ?_;exact BK84.out⟩,⟨zv3 HB GE86 GE87 GE84⟩⟩
    ·have c6b0:decide ((x83_1.length:Int)<6)=false:=decide_eq_false c6;have c6b1:decide (x83_1.length<6)=false:=decide_eq_false (by omega);clear c6;have H':=zA H;clear H;have hnb26:=NB84_86.out;have hnc26:=NB86_84.out;have hnb27:=NB84_87.out;have hnc27:=NB87_84.out;have hcz28_0:=zc0 BK84;have hcz28_1:=zc1 BK84;have hfz28_0:=zf BK84;obtain ⟨Ao29,co29,eo29⟩:=Kd.R_slice HO_83.out;subst eo29
     go_wp2
     go_loopg [5] k1 (fun kq v5 w'=>∃ (x5_2:Int) (x85_2:List Int) (u85:Value),v5=.int .i64 x5_2∧Aside0 (ancepsref38_Made.l1 kq x5_2 a0_0 a0_1 x83_1 x85_2=some (r1,r2))∧Aside0 (kq≤k1)∧Aside0 (Kd.R (Kd.int .i64) 3 w' w.heap.size (fun k_=>some k_≠(u85:Value).ownBlock) (.slice Ao29 x83_1.length co29) x83_1)∧Aside0 (Kd.R (Kd.int .i64) 3 w' w.heap.size (fun k_=>some k_≠((.slice Ao29 x83_1.length co29):Value).ownBlock) u85 x85_2)∧Aside0 (w'.heap[gb86]?=some (.cells #[.int .u32 a0_0,.int .u64 a0_1] 80 (0,0)))∧Aside0 (w'.heap[gb87]?=some (.cells #[(.slice none 0 0),(.slice none 0 0)] 63 (0,0)))∧Aside0 (w'.heap[gb84]?=some (.cells #[(.slice Ao29 x83_1.length co29),u85] 63 (0,0)))∧Aside0 (Below w.heap.size w w'))
     case atStart=>exact ⟨(0),(([]:List Int)),(.slice none 0 0),zT,H',⟨Nat.le_refl _⟩,⟨by refine zr ?_;exact Kd.R_mono HO_83.out (fun _ hk=>(by simp [Value.ownBlock]))⟩,⟨by first|exact Kd.R_nil _ _ _ _ _|exact Kd.N_nil _ _ _ _ _|exact Kd.V_nil _ _ _ _ _|exact Kd.Q_nil _ _ _ _ _|exact Kd.S_nil _ _ _ _ _⟩,⟨by refine zj ?_;exact BK86.out⟩,⟨by refine zj ?_;exact BK87.out⟩,⟨by refine zj ?_;exact BK84.out⟩,⟨zv3 HB GE86 GE87 GE84⟩⟩
     case round=>
      clear H'
      try clear c5
      try clear c5b0
      try clear c6
      try clear c6b0
      try clear c6b1
      try clear hcz28_0
      try clear hcz28_1
      try clear hfz28_0
      try clear hfz28_1
      obtain ⟨x5_2,x85_2,u85,rfl,HA,HK2,HO_83,HO_85,BK86,BK87,BK84,HB⟩:=hrel
      cases gk with
      | zero=>exact absurd HA.out (by simp [ancepsref38_Made.l1])
      | succ k2=>
       have H:=HA.out;clear HA;simp only [ancepsref38_Made.l1] at H;obtain ⟨ji30,hji30⟩:=zZ (shl .i64 1 (x83_1.length:Int))
       first|rw [hji30] at H|simp only [hji30] at H
       have hji30_:(IntKind.i64.wrap (1 * 2 ^ min (x83_1.length:Int).toNat 64))=ji30:=hji30;have hji30z:(x83_1.length:Int)≤64→(IntKind.i64.wrap (1 * 2 ^ (x83_1.length:Int).toNat))=ji30:=shl_small hji30;have hji30p:(IntKind.i64.wrap (1 * 2 ^ min x83_1.length 64))=ji30:=hji30_;have hji30q:(x83_1.length:Int)≤64→(IntKind.i64.wrap (1 * 2 ^ x83_1.length))=ji30:=hji30z
       have hji30r:(IntKind.i64.wrap (2 ^ min x83_1.length 64))=ji30:=by have h_:=hji30p;rw [Int.one_mul] at h_;exact h_
       have hji30s:(x83_1.length:Int)≤64→(IntKind.i64.wrap (2 ^ x83_1.length))=ji30:=fun hle_=>by have h_:=hji30q hle_;rw [Int.one_mul] at h_;exact h_
       have hji30u:(IntKind.i64.wrap (2 ^ min (x83_1.length:Int).toNat 64))=ji30:=by have h_:=hji30_;rw [Int.one_mul] at h_;exact h_
       have hji30v:(x83_1.length:Int)≤64→(IntKind.i64.wrap (2 ^ (x83_1.length:Int).toNat))=ji30:=fun hle_=>by have h_:=hji30z hle_;rw [Int.one_mul] at h_;exact h_
       have hji30y:(wrap64 (1 * 2 ^ min (x83_1.length:Int).toNat 64))=ji30:=(i64_w _).symm.trans hji30_
       have hji30x:(x83_1.length:Int)≤64→(wrap64 (1 * 2 ^ (x83_1.length:Int).toNat))=ji30:=fun h_=>(i64_w _).symm.trans (hji30z h_)
       rcases ifd H with ⟨c31b0,H⟩|⟨c31b0,H⟩
       ·obtain ⟨c32,H⟩:=if1 H;have c32b0:=eq_true c32;have c32b1:decide (0≤x5_2)=true:=decide_eq_true c32;clear c32;obtain ⟨ji33,hji33⟩:=zZ (shr .u64 a0_1 x5_2)
        first|rw [hji33] at H|simp only [hji33] at H
        have hji33_:(a0_1 / 2 ^ min x5_2.toNat 64)=ji33:=hji33;have hji33z:x5_2≤64→(a0_1 / 2 ^ x5_2.toNat)=ji33:=shr_small hji33
        rcases ife H with ⟨c34b0,c34b1,H⟩|⟨c34,c34b0,c34b1,H⟩
        ·obtain ⟨c35,H⟩:=if1 H;have LMc35:=zA c35;clear c35
         first|(replace H:=zyb (x85_2++[x5_2]) H;obtain ⟨y93,Ny93,H⟩:=H)|(obtain ⟨y93,hy93⟩:=zY (x85_2++[x5_2]);(try rw (occs:=.pos [1]) [← hy93] at H);have Ny93:=zA hy93;clear hy93)
         have H':=zA H;clear H;have hnb36:=NB84_86.out;have hnc36:=NB86_84.out;have hnb37:=NB84_87.out;have hnc37:=NB87_84.out;have hcz38_0:=zc0 BK84;have hcz38_1:=zc1 BK84;have hfz38_0:=zf BK84;have hnb39:=NB86_87.out;have hnc39:=NB87_86.out;have hcz40_0:=zc0 BK86;have hcz40_1:=zc1 BK86;have hfz40_0:=zf BK86
         go_wp2_with (first|((with_reducible refine gate_builtin (b:=.append) (xs:=#[.tmp 43,.tmp 45]) rfl ?_);(try (refine gate_guard (by rfl) ?_;dsimp only));at_builtin;refine Kd.R_append (Kd.int .i64) (w0:=w) w.heap.size rfl (.tmp 43) (.tmp 45) 43 3 (.int .i64 0) 8 rfl Tryz.underlying43 info3 rfl (by decide) (by omega) u85 x85_2 x5_2 [.int .i64 x5_2] (fun k_=>some k_≠(.slice Ao29 x83_1.length co29:Value).ownBlock) (fun _=>False) rfl rfl ?aP (fun _ hk=>hk.elim) ?aF ?aO ?aB ?aS ?aL ?_;(case aP=>exact rfl);(case aB=>exact zB);(case aF=>exact (fun k_ hk=>Kd.fresh' (Kd.R_lt (zR HO_83)) k_ hk));(case aO=>exact (zR HO_85));(case aS=>exact (below_size zB));(case aL=>have:=LMc35.out;omega);intro v899 w41 ho hb hg hat;rw [← Ny93.out] at ho;have HO900:=zA (ho);replace HO_83:=zA (Kd.R_after (ok:=(fun _=>True)) (by refine zr ?_;exact Kd.R_mono HO_83.out (fun _ hk=>⟨trivial,hk⟩)) hg hat);replace BK86:=zA (blk_grown (g:=gb86) (o:=.cells #[.int .u32 a0_0,.int .u64 a0_1] 80 (0,0)) (zk BK86) hg (Kd.R_ne HO_85.out BK86.out (by decide)));replace BK87:=zA (blk_grown (g:=gb87) (o:=.cells #[.slice none 0 0,.slice none 0 0] 63 (0,0)) (zk BK87) hg (Kd.R_ne HO_85.out BK87.out (by decide)));replace BK84:=zA (blk_grown (g:=gb84) (o:=.cells #[.slice Ao29 x83_1.length co29,u85] 63 (0,0)) (zk BK84) hg (Kd.R_ne HO_85.out BK84.out (by decide)));replace HB:=zA (hb);clear HO_85;clear ho hb hg hat;obtain ⟨Ao42,co42,eo42⟩:=Kd.R_slice HO900.out;subst eo42;have hcz43_0:=zc0 BK84;have hcz43_1:=zc1 BK84;have hfz43_0:=zf BK84))
         go_roundg k2
         case measure=>have:=HK1.out;have:=HK2.out;omega
         case rel=>exact ⟨(wrap64 (x5_2+1)),(y93),(.slice Ao42 y93.length co42),zT,H',⟨by have:=HK1.out;have:=HK2.out;omega⟩,⟨by refine zr ?_;exact Kd.R_mono (Kd.R_far (p:=⟨gb84,1,none⟩) (Kd.R_types HO_83.out BK84.out (by decide)) (fun _ hk=>hk.2) (.slice Ao42 y93.length co42)) (fun _ hk=>hk.1.2)⟩,⟨by refine zr ?_;exact Kd.R_mono (Kd.R_far (p:=⟨gb84,1,none⟩) (Kd.R_types HO900.out BK84.out (by decide)) (fun _ hk=>hk.2) (.slice Ao42 y93.length co42)) (fun _ hk=>hk.1)⟩,⟨by refine zj ?_;refine blk_far ?_ NB86_84.out _;refine zj ?_;exact BK86.out⟩,⟨by refine zj ?_;refine blk_far ?_ NB87_84.out _;refine zj ?_;exact BK87.out⟩,⟨by refine zj ?_;refine blk_put (cs:=#[.slice Ao29 x83_1.length co29,u85]) ?_ 1 _ rfl;refine zj ?_;exact BK84.out⟩,⟨zv3 HB GE86 GE87 GE84⟩⟩
        ·have H':=zA H;clear H;have hnb44:=NB84_86.out;have hnc44:=NB86_84.out;have hnb45:=NB84_87.out;have hnc45:=NB87_84.out;have hcz46_0:=zc0 BK84;have hcz46_1:=zc1 BK84;have hfz46_0:=zf BK84;have hnb47:=NB86_87.out;have hnc47:=NB87_86.out;have hcz48_0:=zc0 BK86;have hcz48_1:=zc1 BK86;have hfz48_0:=zf BK86
         go_wp2
         go_roundg k2
         case measure=>have:=HK1.out;have:=HK2.out;omega
         case rel=>exact ⟨(wrap64 (x5_2+1)),(x85_2),(u85),zT,H',⟨by have:=HK1.out;have:=HK2.out;omega⟩,⟨by refine zr ?_;exact HO_83.out⟩,⟨by refine zr ?_;exact HO_85.out⟩,⟨by refine zj ?_;exact BK86.out⟩,⟨by refine zj ?_;exact BK87.out⟩,⟨by refine zj ?_;exact BK84.out⟩,⟨zv3 HB GE86 GE87 GE84⟩⟩
       ·simp only [Option.some.injEq,Prod.mk.injEq] at H;obtain ⟨rfl,rfl⟩:=H;have hnb49:=NB84_86.out;have hnc49:=NB86_84.out;have hnb50:=NB84_87.out;have hnc50:=NB87_84.out;have hcz51_0:=zc0 BK84;have hcz51_1:=zc1 BK84;have hfz51_0:=zf BK84;have hnb52:=NB87_86.out;have hnc52:=NB86_87.out;have hcz53_0:=zc0 BK87;have hcz53_1:=zc1 BK87;have hfz53_0:=zf BK87;obtain ⟨Ao54,co54,eo54⟩:=Kd.R_slice HO_85.out;subst eo54
        go_wp2
        refine bodyPost_ret (results_cell_row rfl _ _ gb87 63 #[.slice Ao29 x83_1.length co29,.slice Ao54 x85_2.length co54] (0,0) _ rfl (by refine zj ?_;refine blk_put (cs:=#[.slice Ao29 x83_1.length co29,.slice none 0 0]) ?_ 1 _ rfl;refine zj ?_;refine blk_put (cs:=#[.slice none 0 0,.slice none 0 0]) ?_ 0 _ rfl;refine zj ?_;exact BK87.out) Tryz.underlying63 rfl zK) rfl ?_;exact ⟨_,_,by first|rfl|(simp [errW_none,errW_some] <;> rfl)|(simp only [← hji30];first|rfl|(simp [errW_none,errW_some] <;> rfl))|(simp [*,errW_none,errW_some] <;> rfl),by refine zr ?_;exact Kd.R_mono (Kd.R_far (p:=⟨gb87,1,none⟩) (Kd.R_far (p:=⟨gb87,0,none⟩) (Kd.R_types HO_83.out BK87.out (by decide)) (fun _ hk=>hk.2) (.slice Ao29 x83_1.length co29)) (fun _ hk=>hk.2) (.slice Ao54 x85_2.length co54)) (fun _ hk=>hk.1),by refine zr ?_;exact Kd.R_mono (Kd.R_far (p:=⟨gb87,1,none⟩) (Kd.R_far (p:=⟨gb87,0,none⟩) (Kd.R_types HO_85.out BK87.out (by decide)) (fun _ hk=>hk.2) (.slice Ao29 x83_1.length co29)) (fun _ hk=>hk.2) (.slice Ao54 x85_2.length co54)) (fun _ hk=>hk.1),zv3 HB GE86 GE87 GE84⟩
   ·have H':=zA H;clear H
    go_wp2
    go_loopg [5] k1 (fun kq v5 w'=>∃ (x5_2:Int) (x85_2:List Int) (u85:Value),v5=.int .i64 x5_2∧Aside0 (ancepsref38_Made.l1 kq x5_2 a0_0 a0_1 x83_1 x85_2=some (r1,r2))∧Aside0 (kq≤k1)∧Aside0 (Kd.R (Kd.int .i64) 3 w' w.heap.size (fun k_=>some k_≠(u85:Value).ownBlock) u83 x83_1)∧Aside0 (Kd.R (Kd.int .i64) 3 w' w.heap.size (fun k_=>some k_≠(u83:Value).ownBlock) u85 x85_2)∧Aside0 (w'.heap[gb86]?=some (.cells #[.int .u32 a0_0,.int .u64 a0_1] 80 (0,0)))∧Aside0 (w'.heap[gb87]?=some (.cells #[(.slice none 0 0),(.slice none 0 0)] 63 (0,0)))∧Aside0 (w'.heap[gb84]?=some (.cells #[u83,u85] 63 (0,0)))∧Aside0 (Below w.heap.size w w'))
    case atStart=>exact ⟨(0),(([]:List Int)),(.slice none 0 0),zT,H',⟨Nat.le_refl _⟩,⟨by refine zr ?_;exact Kd.R_mono HO_83.out (fun _ hk=>(by simp [Value.ownBlock]))⟩,⟨by first|exact Kd.R_nil _ _ _ _ _|exact Kd.N_nil _ _ _ _ _|exact Kd.V_nil _ _ _ _ _|exact Kd.Q_nil _ _ _ _ _|exact Kd.S_nil _ _ _ _ _⟩,⟨by refine zj ?_;exact BK86.out⟩,⟨by refine zj ?_;exact BK87.out⟩,⟨by refine zj ?_;exact BK84.out⟩,⟨zv3 HB GE86 GE87 GE84⟩⟩
    case round=>
     clear H'
     try clear c5
     try clear c5b0
     obtain ⟨x5_2,x85_2,u85,rfl,HA,HK2,HO_83,HO_85,BK86,BK87,BK84,HB⟩:=hrel
     cases gk with
     | zero=>exact absurd HA.out (by simp [ancepsref38_Made.l1])
     | succ k2=>
      have H:=HA.out;clear HA;simp only [ancepsref38_Made.l1] at H;obtain ⟨ji55,hji55⟩:=zZ (shl .i64 1 (x83_1.length:Int))
      first|rw [hji55] at H|simp only [hji55] at H
      have hji55_:(IntKind.i64.wrap (1 * 2 ^ min (x83_1.length:Int).toNat 64))=ji55:=hji55;have hji55z:(x83_1.length:Int)≤64→(IntKind.i64.wrap (1 * 2 ^ (x83_1.length:Int).toNat))=ji55:=shl_small hji55;have hji55p:(IntKind.i64.wrap (1 * 2 ^ min x83_1.length 64))=ji55:=hji55_;have hji55q:(x83_1.length:Int)≤64→(IntKind.i64.wrap (1 * 2 ^ x83_1.length))=ji55:=hji55z
      have hji55r:(IntKind.i64.wrap (2 ^ min x83_1.length 64))=ji55:=by have h_:=hji55p;rw [Int.one_mul] at h_;exact h_
      have hji55s:(x83_1.length:Int)≤64→(IntKind.i64.wrap (2 ^ x83_1.length))=ji55:=fun hle_=>by have h_:=hji55q hle_;rw [Int.one_mul] at h_;exact h_
      have hji55u:(IntKind.i64.wrap (2 ^ min (x83_1.length:Int).toNat 64))=ji55:=by have h_:=hji55_;rw [Int.one_mul] at h_;exact h_
      have hji55v:(x83_1.length:Int)≤64→(IntKind.i64.wrap (2 ^ (x83_1.length:Int).toNat))=ji55:=fun hle_=>by have h_:=hji55z hle_;rw [Int.one_mul] at h_;exact h_
      have hji55y:(wrap64 (1 * 2 ^ min (x83_1.length:Int).toNat 64))=ji55:=(i64_w _).symm.trans hji55_
      have hji55x:(x83_1.length:Int)≤64→(wrap64 (1 * 2 ^ (x83_1.length:Int).toNat))=ji55:=fun h_=>(i64_w _).symm.trans (hji55z h_)
      rcases ifd H with ⟨c56b0,H⟩|⟨c56b0,H⟩
      ·obtain ⟨c57,H⟩:=if1 H;have c57b0:=eq_true c57;have c57b1:decide (0≤x5_2)=true:=decide_eq_true c57;clear c57;obtain ⟨ji58,hji58⟩:=zZ (shr .u64 a0_1 x5_2)
       first|rw [hji58] at H|simp only [hji58] at H
       have hji58_:(a0_1 / 2 ^ min x5_2.toNat 64)=ji58:=hji58;have hji58z:x5_2≤64→(a0_1 / 2 ^ x5_2.toNat)=ji58:=shr_small hji58
       rcases ife H with ⟨c59b0,c59b1,H⟩|⟨c59,c59b0,c59b1,H⟩
       ·obtain ⟨c60,H⟩:=if1 H;have LMc60:=zA c60;clear c60
        first|(replace H:=zyb (x85_2++[x5_2]) H;obtain ⟨y93,Ny93,H⟩:=H)|(obtain ⟨y93,hy93⟩:=zY (x85_2++[x5_2]);(try rw (occs:=.pos [1]) [← hy93] at H);have Ny93:=zA hy93;clear hy93)
        have H':=zA H;clear H;have hnb61:=NB84_86.out;have hnc61:=NB86_84.out;have hnb62:=NB84_87.out;have hnc62:=NB87_84.out;have hcz63_0:=zc0 BK84;have hcz63_1:=zc1 BK84;have hfz63_0:=zf BK84;obtain ⟨Ao64,co64,eo64⟩:=Kd.R_slice HO_83.out;subst eo64;have hnb65:=NB86_87.out;have hnc65:=NB87_86.out;have hcz66_0:=zc0 BK86;have hcz66_1:=zc1 BK86;have hfz66_0:=zf BK86
        go_wp2_with (first|((with_reducible refine gate_builtin (b:=.append) (xs:=#[.tmp 43,.tmp 45]) rfl ?_);(try (refine gate_guard (by rfl) ?_;dsimp only));at_builtin;refine Kd.R_append (Kd.int .i64) (w0:=w) w.heap.size rfl (.tmp 43) (.tmp 45) 43 3 (.int .i64 0) 8 rfl Tryz.underlying43 info3 rfl (by decide) (by omega) u85 x85_2 x5_2 [.int .i64 x5_2] (fun k_=>some k_≠(.slice Ao64 x83_1.length co64:Value).ownBlock) (fun _=>False) rfl rfl ?aP (fun _ hk=>hk.elim) ?aF ?aO ?aB ?aS ?aL ?_;(case aP=>exact rfl);(case aB=>exact zB);(case aF=>exact (fun k_ hk=>Kd.fresh' (Kd.R_lt (zR HO_83)) k_ hk));(case aO=>exact (zR HO_85));(case aS=>exact (below_size zB));(case aL=>have:=LMc60.out;omega);intro v899 w67 ho hb hg hat;rw [← Ny93.out] at ho;have HO900:=zA (ho);replace HO_83:=zA (Kd.R_after (ok:=(fun _=>True)) (by refine zr ?_;exact Kd.R_mono HO_83.out (fun _ hk=>⟨trivial,hk⟩)) hg hat);replace BK86:=zA (blk_grown (g:=gb86) (o:=.cells #[.int .u32 a0_0,.int .u64 a0_1] 80 (0,0)) (zk BK86) hg (Kd.R_ne HO_85.out BK86.out (by decide)));replace BK87:=zA (blk_grown (g:=gb87) (o:=.cells #[.slice none 0 0,.slice none 0 0] 63 (0,0)) (zk BK87) hg (Kd.R_ne HO_85.out BK87.out (by decide)));replace BK84:=zA (blk_grown (g:=gb84) (o:=.cells #[.slice Ao64 x83_1.length co64,u85] 63 (0,0)) (zk BK84) hg (Kd.R_ne HO_85.out BK84.out (by decide)));replace HB:=zA (hb);clear HO_85;clear ho hb hg hat;obtain ⟨Ao68,co68,eo68⟩:=Kd.R_slice HO900.out;subst eo68;have hcz69_0:=zc0 BK84;have hcz69_1:=zc1 BK84;have hfz69_0:=zf BK84))
        go_roundg k2
        case measure=>have:=HK1.out;have:=HK2.out;omega
        case rel=>exact ⟨(wrap64 (x5_2+1)),(y93),(.slice Ao68 y93.length co68),zT,H',⟨by have:=HK1.out;have:=HK2.out;omega⟩,⟨by refine zr ?_;exact Kd.R_mono (Kd.R_far (p:=⟨gb84,1,none⟩) (Kd.R_types HO_83.out BK84.out (by decide)) (fun _ hk=>hk.2) (.slice Ao68 y93.length co68)) (fun _ hk=>hk.1.2)⟩,⟨by refine zr ?_;exact Kd.R_mono (Kd.R_far (p:=⟨gb84,1,none⟩) (Kd.R_types HO900.out BK84.out (by decide)) (fun _ hk=>hk.2) (.slice Ao68 y93.length co68)) (fun _ hk=>hk.1)⟩,⟨by refine zj ?_;refine blk_far ?_ NB86_84.out _;refine zj ?_;exact BK86.out⟩,⟨by refine zj ?_;refine blk_far ?_ NB87_84.out _;refine zj ?_;exact BK87.out⟩,⟨by refine zj ?_;refine blk_put (cs:=#[.slice Ao64 x83_1.length co64,u85]) ?_ 1 _ rfl;refine zj ?_;exact BK84.out⟩,⟨zv3 HB GE86 GE87 GE84⟩⟩
       ·have H':=zA H;clear H;have hnb70:=NB84_86.out;have hnc70:=NB86_84.out;have hnb71:=NB84_87.out;have hnc71:=NB87_84.out;have hcz72_0:=zc0 BK84;have hcz72_1:=zc1 BK84;have hfz72_0:=zf BK84;obtain ⟨Ao73,co73,eo73⟩:=Kd.R_slice HO_83.out;subst eo73;have hnb74:=NB86_87.out;have hnc74:=NB87_86.out;have hcz75_0:=zc0 BK86;have hcz75_1:=zc1 BK86;have hfz75_0:=zf BK86
        go_wp2
        go_roundg k2
        case measure=>have:=HK1.out;have:=HK2.out;omega
        case rel=>exact ⟨(wrap64 (x5_2+1)),(x85_2),(u85),zT,H',⟨by have:=HK1.out;have:=HK2.out;omega⟩,⟨by refine zr ?_;exact HO_83.out⟩,⟨by refine zr ?_;exact HO_85.out⟩,⟨by refine zj ?_;exact BK86.out⟩,⟨by refine zj ?_;exact BK87.out⟩,⟨by refine zj ?_;exact BK84.out⟩,⟨zv3 HB GE86 GE87 GE84⟩⟩
      ·simp only [Option.some.injEq,Prod.mk.injEq] at H;obtain ⟨rfl,rfl⟩:=H;have hnb76:=NB84_86.out;have hnc76:=NB86_84.out;have hnb77:=NB84_87.out;have hnc77:=NB87_84.out;have hcz78_0:=zc0 BK84;have hcz78_1:=zc1 BK84;have hfz78_0:=zf BK84;obtain ⟨Ao79,co79,eo79⟩:=Kd.R_slice HO_83.out;subst eo79;have hnb80:=NB87_86.out;have hnc80:=NB86_87.out;have hcz81_0:=zc0 BK87;have hcz81_1:=zc1 BK87;have hfz81_0:=zf BK87;obtain ⟨Ao82,co82,eo82⟩:=Kd.R_slice HO_85.out;subst eo82
       go_wp2
       refine bodyPost_ret (results_cell_row rfl _ _ gb87 63 #[.slice Ao79 x83_1.length co79,.slice Ao82 x85_2.length co82] (0,0) _ rfl (by refine zj ?_;refine blk_put (cs:=#[.slice Ao79 x83_1.length co79,.slice none 0 0]) ?_ 1 _ rfl;refine zj ?_;refine blk_put (cs:=#[.slice none 0 0,.slice none 0 0]) ?_ 0 _ rfl;refine zj ?_;exact BK87.out) Tryz.underlying63 rfl zK) rfl ?_;exact ⟨_,_,by first|rfl|(simp [errW_none,errW_some] <;> rfl)|(simp only [← hji55];first|rfl|(simp [errW_none,errW_some] <;> rfl))|(simp [*,errW_none,errW_some] <;> rfl),by refine zr ?_;exact Kd.R_mono (Kd.R_far (p:=⟨gb87,1,none⟩) (Kd.R_far (p:=⟨gb87,0,none⟩) (Kd.R_types HO_83.out BK87.out (by decide)) (fun _ hk=>hk.2) (.slice Ao79 x83_1.length co79)) (fun _ hk=>hk.2) (.slice Ao82 x85_2.length co82)) (fun _ hk=>hk.1),by refine zr ?_;exact Kd.R_mono (Kd.R_far (p:=⟨gb87,1,none⟩) (Kd.R_far (p:=⟨gb87,0,none⟩) (Kd.R_types HO_85.out BK87.out (by decide)) (fun _ hk=>hk.2) (.slice Ao79 x83_1.length co79)) (fun _ hk=>hk.2) (.slice Ao82 x85_2.length co82)) (fun _ hk=>hk.1),zv3 HB GE86 GE87 GE84⟩
def ancepsref40_Made.l0:Nat→List (S80)→List (S63)→Int→Option ((List (S63)))
 | 0,_,_,_=>none
 | k+1,x0,x3,x4=>if x4<(x0.length:Int) then (if x4<6 then (if 0≤x4 then ((ancepsref38_Made.f k (Int.tmod ((rd_T80 x0 x4).f0) 256) ((rd_T80 x0 x4).f1)).bind fun bt903=>(if x3.length<2932031007402 then (ancepsref40_Made.l0 k x0 (x3++[(⟨bt903.1,bt903.2⟩:S63)]) (wrap64 (x4+1))) else (none))) else (none)) else (some x3)) else (some x3)
def ancepsref40_Made.f (k:Nat) (l0:List (S80)):Option ((List (S63))):=ancepsref40_Made.l0 k l0 ([]:List (S63)) 0
set_option maxHeartbeats 8000000 in
set_option maxRecDepth 100000 in
theorem ancepsref40_Made.calls (k:Nat) (A0:Option Addr) (c0:Nat) (l0:List (S80)) (r:List (S63)) (w:World) (hr0:Kd.C k80 w A0 l0.length l0) (hc0:l0.length≤c0) (h:ancepsref40_Made.f k l0=some r) :
  Calls Tryz.prog 18 #[.slice A0 l0.length c0] w fun e w'=>∃ v0_:Value,e=.returned (v0_)∧Kd.S k63 63 w' w.heap.size (fun _=>True) v0_ r∧Below w.heap.size w w':=by
 have HR0:=zA hr0;have HC0:=zA hc0;clear hr0 hc0;have HB:=zA (Below.refl w.heap.size w);have H:(ancepsref40_Made.l0 k l0 ([]:List (S63)) 0)=some r:=h;clear h;have H':=zA H;clear H
 go_enter Tryz.func18,Tryz.ntmps18
 go_wp2
 go_loopg [3,4] k (fun kq v3 v4 w'=>∃ (x3_1:List (S63)) (x4_1:Int),v4=.int .i64 x4_1∧Aside0 (ancepsref40_Made.l0 kq l0 x3_1 x4_1=some r)∧Aside0 (kq≤k)∧Aside0 (Kd.S k63 63 w' w.heap.size (fun _=>True) v3 x3_1)∧Aside0 (Below w.heap.size w w'))
 case atStart=>exact ⟨(([]:List (S63))),(0),zT,H',⟨Nat.le_refl _⟩,⟨by first|exact Kd.S_nil _ _ _ _ _|exact Kd.N_nil _ _ _ _ _|exact Kd.V_nil _ _ _ _ _|exact Kd.Q_nil _ _ _ _ _|exact Kd.R_nil _ _ _ _ _⟩,⟨zv0 HB⟩⟩
 case round=>
  clear H';obtain ⟨x3_1,x4_1,rfl,HA,HK1,HO_3,HB⟩:=hrel
  cases gk with
  | zero=>exact absurd HA.out (by simp [ancepsref40_Made.l0])
  | succ k1=>
   have H:=HA.out;clear HA;simp only [ancepsref40_Made.l0] at H
   rcases ifd H with ⟨c2b0,H⟩|⟨c2b0,H⟩
   ·rcases ifd H with ⟨c3b0,H⟩|⟨c3b0,H⟩
    ·obtain ⟨c4b0,H⟩:=ifd1 H;obtain ⟨t903,t906,A5,H⟩:=zO H
     dsimp only at H
     obtain ⟨c6,H⟩:=if1 H;have LMc6:=zA c6;clear c6
     first|(replace H:=zyb (x3_1++[(⟨t903,t906⟩:S63)]) H;obtain ⟨y909,Ny909,H⟩:=H)|(obtain ⟨y909,hy909⟩:=zY (x3_1++[(⟨t903,t906⟩:S63)]);(try rw (occs:=.pos [1]) [← hy909] at H);have Ny909:=zA hy909;clear hy909)
     have H':=zA H;clear H;obtain ⟨p901,q901,ad901,e901,hx901_0,hx901_1⟩:=zp (at_T80 HR0.out x4_1)
     cases e901
     replace hx901_0:=zd HB hx901_0;replace hx901_1:=zd HB hx901_1;replace p901:=eq_true p901;replace q901:=eq_true q901
     go_wp2_with (first|((with_reducible refine gd 5 rfl ?_);refine zx #[.int .u32 0,.int .u64 0] 80 ?_;intro gb98 hg w7 BK98 hb GW98 HB1;have GE98:=GW98;replace HO_3:=zA (Kd.S_below (zS HO_3) hb);clear HB hb hg;have HB:=HB1;clear HB1;have hcz8_0:=zc0 BK98;have hcz8_1:=zc1 BK98;have hfz8_0:=zf BK98)|((with_reducible refine gate_callee (f:=53) rfl ?_);refine zgo 26 Tryz.func53 #[.agg #[.int .u32 (Int.tmod ((rd_T80 l0 x4_1).f0) 256),.int .u64 ((rd_T80 l0 x4_1).f1)]] ?_;(with_reducible refine (ancepsref38_Made.calls k1 (Int.tmod ((rd_T80 l0 x4_1).f0) 256) ((rd_T80 l0 x4_1).f1) t903 t906 _ A5.out).mono ?_);rintro e w9 ⟨v904,v907,rfl,ho0,ho1,hb⟩;refine ⟨_,rfl,?_⟩;have HO905:=zA (Kd.R_lower ho0 (below_size zB));have HO908:=zA (Kd.R_lower ho1 (below_size zB));replace HO_3:=zA (Kd.S_mono (Kd.S_told (Kd.S_told (Kd.S_old (by (with_reducible repeat (first|apply Kd.S_alloc|apply Kd.S_drewN|apply Kd.S_drew));exact (Kd.S_mono (Kd.S_far (p:=⟨gb98,0,none⟩) (Kd.S_far (p:=⟨gb98,1,none⟩) (Kd.S_far (p:=⟨gb98,0,none⟩) (Kd.S_types HO_3.out BK98.out (by decide)) (fun _ hk=>hk.2) (.int .u32 ((rd_T80 l0 x4_1).f0))) (fun _ hk=>hk.2) (.int .u64 ((rd_T80 l0 x4_1).f1))) (fun _ hk=>hk.2) (.int .u32 (Int.tmod ((rd_T80 l0 x4_1).f0) 256))) (fun _ h_=>h_.1))) hb) (Kd.R_base ho0)) (Kd.R_base ho1)) (fun _ h_=>h_.1));replace BK98:=zA (blk_below (g:=gb98) (o:=.cells #[.int .u32 (Int.tmod ((rd_T80 l0 x4_1).f0) 256),.int .u64 ((rd_T80 l0 x4_1).f1)] 80 (0,0)) (by refine zj ?_;refine blk_put (cs:=#[.int .u32 ((rd_T80 l0 x4_1).f0),.int .u64 ((rd_T80 l0 x4_1).f1)]) ?_ 0 _ rfl;refine zj ?_;refine blk_put (cs:=#[.int .u32 ((rd_T80 l0 x4_1).f0),.int .u64 0]) ?_ 1 _ rfl;refine zj ?_;refine blk_put (cs:=#[.int .u32 0,.int .u64 0]) ?_ 0 _ rfl;refine zj ?_;exact BK98.out) hb);replace HB:=zu hb;clear hb;(try clear ho0);(try clear ho1);obtain ⟨Ao11,co11,eo11⟩:=Kd.R_slice HO905.out;subst eo11;obtain ⟨Ao12,co12,eo12⟩:=Kd.R_slice HO908.out;subst eo12)|((with_reducible refine gate_builtin (b:=.append) (xs:=#[.tmp 24,.tmp 27]) rfl ?_);at_builtin;refine Kd.S_append k63 (w0:=w) w.heap.size rfl (.tmp 24) (.tmp 27) 22 63 (.agg #[(.slice none 0 0),(.slice none 0 0)]) 48 rfl Tryz.underlying22 info63 rfl (by decide) (by omega) u3 x3_1 (⟨t903,t906⟩:S63) [.slice Ao11 t903.length co11,.slice Ao12 t906.length co12] (fun _=>True) (fun k_=>some k_=(.slice Ao11 t903.length co11:Value).ownBlock∨some k_=(.slice Ao12 t906.length co12:Value).ownBlock) rfl rfl ?aP (fun k_ hk_=>hk_.elim (fun h_=>((Kd.R_mono (ok':=fun k_=>((fun _=>True)) k_∧some k_≠(u3:Value).ownBlock) (Kd.R_apart' (HO905.out) (Kd.S_typed HO_3.out) (by decide)) (fun k_ hk=>⟨trivial,hk.2⟩))).1 k_ h_.symm) (fun h_=>((Kd.R_mono (ok':=fun k_=>((fun _=>True)) k_∧some k_≠(u3:Value).ownBlock) (Kd.R_apart' (HO908.out) (Kd.S_typed HO_3.out) (by decide)) (fun k_ hk=>⟨trivial,hk.2⟩))).1 k_ h_.symm)) ?aF ?aO ?aB ?aS ?aL ?_;(case aP=>exact k63_mkM _ _ _ (⟨t903,t906⟩:S63) (Kd.R_mono (Kd.R_tight rfl (Kd.R_mono (ok':=fun k_=>((fun _=>True)) k_∧some k_≠(u3:Value).ownBlock) (Kd.R_apart' (HO905.out) (Kd.S_typed HO_3.out) (by decide)) (fun k_ hk=>⟨trivial,hk.2⟩))) (fun _ h_=>Or.inl h_)) (Kd.R_mono (Kd.R_tight rfl (Kd.R_mono (ok':=fun k_=>((fun _=>True)) k_∧some k_≠(u3:Value).ownBlock) (Kd.R_apart' (HO908.out) (Kd.S_typed HO_3.out) (by decide)) (fun k_ hk=>⟨trivial,hk.2⟩))) (fun _ h_=>Or.inr (h_))));(case aB=>exact zB);(case aF=>exact (fun _ _=>trivial));(case aO=>exact (by (with_reducible repeat (first|apply Kd.S_alloc|apply Kd.S_drewN|apply Kd.S_drew));exact Kd.S_mono HO_3.out (fun k_ hk=>⟨trivial,fun e_=>e_.elim (fun h_=>hk.1.2 h_) (fun h_=>hk.2 h_)⟩)));(case aS=>exact (below_size zB));(case aL=>have:=LMc6.out;omega);intro v910 w10 ho hb hg hat;rw [← Ny909.out] at ho;have HO911:=zA (ho);replace BK98:=zA (blk_grown (g:=gb98) (o:=.cells #[.int .u32 (Int.tmod ((rd_T80 l0 x4_1).f0) 256),.int .u64 ((rd_T80 l0 x4_1).f1)] 80 (0,0)) (zk BK98) hg (Kd.S_ne HO_3.out BK98.out (by decide)));replace HB:=zA (hb);clear HO_3 HO905 HO908;clear ho hb hg hat))
     go_roundg k1
     case measure=>have:=HK1.out;omega
     case rel=>exact ⟨(y909),(wrap64 (x4_1+1)),zT,H',⟨by have:=HK1.out;omega⟩,⟨by (with_reducible repeat (first|apply Kd.S_alloc|apply Kd.S_drewN|apply Kd.S_drew));exact HO911.out⟩,⟨zv1 HB GE98⟩⟩
    ·obtain rfl:=Option.some.inj H
     go_wp2
     go_ret
     exact ⟨_,ze,by (with_reducible repeat (first|apply Kd.S_alloc|apply Kd.S_drewN|apply Kd.S_drew));exact HO_3.out,zv0 HB⟩
   ·obtain rfl:=Option.some.inj H
    go_wp2
    go_ret
    exact ⟨_,ze,by (with_reducible repeat (first|apply Kd.S_alloc|apply Kd.S_drewN|apply Kd.S_drew));exact HO_3.out,zv0 HB⟩
def ancepsref40_All.f (k:Nat) (l0:List (S63)):Option (List Int×Int):=(ancepsref40_Valid.f k l0).bind fun t912=>(if t912=0 then ((ancepsref40_solutions.f k l0 1001).bind fun t913=>(if (t913.length:Int)>1000 then (some (([]:List Int),3)) else (some (t913,0)))) else (some (([]:List Int),t912)))
set_option maxHeartbeats 8000000 in
set_option maxRecDepth 100000 in
theorem ancepsref40_All.calls (k:Nat) (A0:Option Addr) (c0:Nat) (l0:List (S63)) (r1:List Int) (r2:Int) (w:World) (hr0:Kd.C k63 w A0 l0.length l0) (hc0:l0.length≤c0) (h:ancepsref40_All.f k l0=some (r1,r2)) :
  Calls Tryz.prog 19 #[.slice A0 l0.length c0] w fun e w'=>∃ v0_:Value,e=.returned (.tuple #[v0_,.int .i64 r2])∧Kd.R (Kd.int .i64) 3 w' w.heap.size (fun _=>True) v0_ r1∧Below w.heap.size w w':=by
 have HR0:=zA hr0;have HC0:=zA hc0;clear hr0 hc0;have HB:=zA (Below.refl w.heap.size w);have H:((ancepsref40_Valid.f k l0).bind fun t912=>(if t912=0 then ((ancepsref40_solutions.f k l0 1001).bind fun t913=>(if (t913.length:Int)>1000 then (some (([]:List Int),3)) else (some (t913,0)))) else (some (([]:List Int),t912))))=some (r1,r2):=h;clear h;obtain ⟨t912,A2,H⟩:=zo H;have HC3:=zA H;clear H
 go_enter Tryz.func19,Tryz.ntmps19
 go_upto_if 9 with (first|((with_reducible refine gate_callee (f:=33) rfl ?_);refine zgo 7 Tryz.func33 #[.slice A0 l0.length c0] ?_;(with_reducible refine (ancepsref40_Valid.calls k _ _ l0 t912 _ ?side1 HC0.out A2.out).mono ?_);(case side1=>repeat (first|exact HR0.out|(with_reducible refine Kd.C_alloc ?_ _)|(with_reducible refine Kd.C_drewN ?_ _)|(with_reducible refine Kd.C_drew ?_)));rintro e w4 ⟨rfl,hb⟩;refine ⟨_,rfl,?_⟩;replace HB:=zu hb;clear hb))
 (try simp only [Act.put,zi,zs,zt]);have H:=HC3.out;clear HC3
 rcases ife H with ⟨c5b0,c5b1,H⟩|⟨c5,c5b0,c5b1,H⟩
 ·(first|rw [c5b0]|(simp only [i64_w,i32_w];rw [c5b0])|skip)
  (try rw [c5b1]);obtain ⟨t913,A6,H⟩:=zo H;have HC7:=zA H;clear H
  go_upto_if 15 with (first|((with_reducible refine gate_callee (f:=54) rfl ?_);refine zgo 12 Tryz.func54 #[.slice A0 l0.length c0,.int .i64 1001] ?_;(with_reducible refine (ancepsref40_solutions.calls k _ _ l0 1001 t913 _ (zD HR0 HB) HC0.out A6.out).mono ?_);rintro e w8 ⟨v914,rfl,ho0,hb⟩;refine ⟨_,rfl,?_⟩;have HO915:=zA (Kd.R_lower ho0 (below_size zB));replace HB:=zu hb;clear hb;(try clear ho0);obtain ⟨Ao9,co9,eo9⟩:=Kd.R_slice HO915.out;subst eo9))
  (try simp only [Act.put,zi,zs,zt]);have H:=HC7.out;clear HC7
  rcases if0 H with ⟨c10,H⟩|⟨c10,H⟩
  ·have c10b0:decide (1000<(t913.length:Int))=true:=decide_eq_true c10;have c10b1:decide (1000<t913.length)=true:=decide_eq_true (by omega);clear c10
   (first|rw [c10b0]|(simp only [i64_w,i32_w];rw [c10b0])|skip)
   (try rw [c10b1]);simp only [Option.some.injEq,Prod.mk.injEq] at H;obtain ⟨rfl,rfl⟩:=H
   go_wp2
   go_ret2
   exact ⟨_,ze,by first|exact Kd.R_nil _ _ _ _ _|exact Kd.N_nil _ _ _ _ _|exact Kd.V_nil _ _ _ _ _|exact Kd.Q_nil _ _ _ _ _|exact Kd.S_nil _ _ _ _ _,zv0 HB⟩
  ·have c10b0:decide (1000<(t913.length:Int))=false:=decide_eq_false c10;have c10b1:decide (1000<t913.length)=false:=decide_eq_false (by omega);clear c10
   (first|rw [c10b0]|(simp only [i64_w,i32_w];rw [c10b0])|skip)
   (try rw [c10b1]);simp only [Option.some.injEq,Prod.mk.injEq] at H;obtain ⟨rfl,rfl⟩:=H
   go_wp2
   go_ret2
   exact ⟨_,ze,by refine zr ?_;exact HO915.out,zv0 HB⟩
 ·(first|rw [c5b0]|(simp only [i64_w,i32_w];rw [c5b0])|skip)
  (try rw [c5b1]);simp only [Option.some.injEq,Prod.mk.injEq] at H;obtain ⟨rfl,rfl⟩:=H
  go_wp2
  go_ret2
  exact ⟨_,ze,by first|exact Kd.R_nil _ _ _ _ _|exact Kd.N_nil _ _ _ _ _|exact Kd.V_nil _ _ _ _ _|exact Kd.Q_nil _ _ _ _ _|exact Kd.S_nil _ _ _ _ _,zv0 HB⟩
mutual
def ancepslaw41_SharedFixed.l0:Nat→List (S63)→List (S63)→Int→List (S42)→Int→Int→Option (Bool)
 | 0,_,_,_,_,_,_=>none
 | k+1,x3,x6,x8,x51,x52,x53=>if x53<x52 then (if 0≤x53 then (if x53<(x51.length:Int) then (if ((rd_T42 x51 x53).f1)=2 then (if 0≤((rd_T42 x51 x53).f0) then (ancepslaw41_SharedFixed.l0 k x3 x6 (Go.bits .or .i64 x8 (shl .i64 1 ((rd_T42 x51 x53).f0))) x51 x52 (wrap64 (x53+1))) else (none)) else (ancepslaw41_SharedFixed.l0 k x3 x6 x8 x51 x52 (wrap64 (x53+1)))) else (none)) else (none)) else ((ancepsref40_All.f k x3).bind fun bt95=>((ancepsref40_All.f k x6).bind fun bt94=>(if bt95.2=0 then (if bt94.2=0 then (if (bt95.1.length:Int)=(bt94.1.length:Int) then (ancepslaw41_SharedFixed.l1 k x8 bt95.1 bt94.1 (bt94.1.length:Int) 0) else (if bt95.2=3 then (some (bt94.2 == 3)) else (none))) else (if bt95.2=3 then (some (bt94.2 == 3)) else (none))) else (if bt95.2=3 then (some (bt94.2 == 3)) else (none)))))
def ancepslaw41_SharedFixed.l1:Nat→Int→List Int→List Int→Int→Int→Option (Bool)
 | 0,_,_,_,_,_=>none
 | k+1,x8,x11,x13,x96,x97=>if x97<x96 then (if 0≤x97 then (if x97<(x13.length:Int) then ((slices_Contains_int_int.f k x11 (Go.bits .or .i64 (rd x13 x97) x8)).bind fun t947=>(if t947=true then (ancepslaw41_SharedFixed.l1 k x8 x11 x13 x96 (wrap64 (x97+1))) else (none))) else (none)) else (none)) else (some true)
end
def ancepslaw41_SharedFixed.f (k:Nat) (l0:List (S80)):Option (Bool):=(ancepsref40_Made.f k l0).bind fun t92=>((ancepslaw41_awake.f k).bind fun t919=>(if t919=true then (if (l0.length:Int)>10 then ((ancepslaw41_awake.f k).bind fun t920=>(some t920)) else ((ancepsref41_FewTables.f k t92).bind fun t921=>(if t921=true then ((ancepslaw41_own.f k t92).bind fun t922=>((shared_All.f k t922).bind fun bt88=>(if bt88.2=0 then ((ancepslaw41_own.f k t92).bind fun t929=>((shared_Fix.f k t929 bt88.1).bind fun bt932=>(if bt932.2=0 then (ancepslaw41_SharedFixed.l0 k t92 bt932.1 0 bt88.1 (bt88.1.length:Int) 0) else (none)))) else (some ((bt88.1.length:Int) == 0))))) else ((ancepslaw41_awake.f k).bind fun t948=>(some t948))))) else ((ancepslaw41_awake.f k).bind fun t949=>(some t949))))
set_option maxHeartbeats 8000000 in
set_option maxRecDepth 100000 in
theorem ancepslaw41_SharedFixed.calls (k:Nat) (A0:Option Addr) (c0:Nat) (l0:List (S80)) (r:Bool) (w:World) (hr0:Kd.C k80 w A0 l0.length l0) (hc0:l0.length≤c0) (h:ancepslaw41_SharedFixed.f k l0=some r) :
  Calls Tryz.prog 5 #[.slice A0 l0.length c0] w fun e w'=>e=.returned (.bool r)∧Below w.heap.size w w':=by
 have HR0:=zA hr0;have HC0:=zA hc0;clear hr0 hc0;have HB:=zA (Below.refl w.heap.size w);have H:((ancepsref40_Made.f k l0).bind fun t92=>((ancepslaw41_awake.f k).bind fun t919=>(if t919=true then (if (l0.length:Int)>10 then ((ancepslaw41_awake.f k).bind fun t920=>(some t920)) else ((ancepsref41_FewTables.f k t92).bind fun t921=>(if t921=true then ((ancepslaw41_own.f k t92).bind fun t922=>((shared_All.f k t922).bind fun bt88=>(if bt88.2=0 then ((ancepslaw41_own.f k t92).bind fun t929=>((shared_Fix.f k t929 bt88.1).bind fun bt932=>(if bt932.2=0 then (ancepslaw41_SharedFixed.l0 k t92 bt932.1 0 bt88.1 (bt88.1.length:Int) 0) else (none)))) else (some ((bt88.1.length:Int) == 0))))) else ((ancepslaw41_awake.f k).bind fun t948=>(some t948))))) else ((ancepslaw41_awake.f k).bind fun t949=>(some t949)))))=some r:=h;clear h;obtain ⟨t92,A2,H⟩:=zo H;have HC3:=zA H;clear H
 go_enter Tryz.func5,Tryz.ntmps5
 go_upto_region 2 with (first|((with_reducible refine gate_callee (f:=18) rfl ?_);refine zgo 17 Tryz.func18 #[.slice A0 l0.length c0] ?_;(with_reducible refine (ancepsref40_Made.calls k _ _ l0 t92 _ ?side1 HC0.out A2.out).mono ?_);(case side1=>repeat (first|exact HR0.out|(with_reducible refine Kd.C_alloc ?_ _)|(with_reducible refine Kd.C_drewN ?_ _)|(with_reducible refine Kd.C_drew ?_)));rintro e w4 ⟨v917,rfl,ho0,hb⟩;refine ⟨_,rfl,?_⟩;have HO91:=zA (Kd.S_lower ho0 (below_size zB));replace HB:=zu hb;clear hb;(try clear ho0)))
 (try simp only [Act.put,zi,zs,zt]);have H:=HC3.out;clear HC3;obtain ⟨t919,A5,H⟩:=zo H
 by_cases c6:t919=true
 ·subst c6
  have H1:(if (l0.length:Int)>10 then ((ancepslaw41_awake.f k).bind fun t920=>(some t920)) else ((ancepsref41_FewTables.f k t92).bind fun t921=>(if t921=true then ((ancepslaw41_own.f k t92).bind fun t922=>((shared_All.f k t922).bind fun bt88=>(if bt88.2=0 then ((ancepslaw41_own.f k t92).bind fun t929=>((shared_Fix.f k t929 bt88.1).bind fun bt932=>(if bt932.2=0 then (ancepslaw41_SharedFixed.l0 k t92 bt932.1 0 bt88.1 (bt88.1.length:Int) 0) else (none)))) else (some ((bt88.1.length:Int) == 0))))) else ((ancepslaw41_awake.f k).bind fun t948=>(some t948)))))=some r:=by rw [if_pos rfl] at H;exact H
  clear H;have H:=H1;clear H1
  rcases if0 H with ⟨c7,H⟩|⟨c7,H⟩
  ·have c7b0:decide (10<(l0.length:Int))=true:=decide_eq_true c7;have c7b1:decide (10<l0.length)=true:=decide_eq_true (by omega);clear c7
   (first|rw [c7b0]|(simp only [i64_w,i32_w];rw [c7b0])|skip)
   (try rw [c7b1]);obtain ⟨t920,A8,H⟩:=zo H;obtain rfl:=Option.some.inj H
   go_wp2_with (first|((with_reducible refine gate_callee (f:=7) rfl ?_);refine zgo 18 Tryz.func7 #[] ?_;(with_reducible refine (ancepslaw41_awake.calls k  true _ A5.out).mono ?_);rintro e w9 ⟨rfl,hb⟩;refine ⟨_,rfl,?_⟩;replace HO91:=zA (Kd.S_below (zS HO91) hb);replace HB:=zu hb;clear hb)|((with_reducible refine gate_callee (f:=7) rfl ?_);refine zgo 30 Tryz.func7 #[] ?_;(with_reducible refine (ancepslaw41_awake.calls k  t920 _ A8.out).mono ?_);rintro e w10 ⟨rfl,hb⟩;refine ⟨_,rfl,?_⟩;replace HO91:=zA (Kd.S_below (zS HO91) hb);replace HB:=zu hb;clear hb))
   go_ret
   exact ⟨ze,zv0 HB⟩
  ·have c7b0:decide (10<(l0.length:Int))=false:=decide_eq_false c7;have c7b1:decide (10<l0.length)=false:=decide_eq_false (by omega);clear c7
   (first|rw [c7b0]|(simp only [i64_w,i32_w];rw [c7b0])|skip)
   (try rw [c7b1]);obtain ⟨t921,A11,H⟩:=zo H;have HC12:=zA H;clear H
   go_upto_if 29 with (first|((with_reducible refine gate_callee (f:=7) rfl ?_);refine zgo 18 Tryz.func7 #[] ?_;(with_reducible refine (ancepslaw41_awake.calls k  true _ A5.out).mono ?_);rintro e w13 ⟨rfl,hb⟩;refine ⟨_,rfl,?_⟩;replace HO91:=zA (Kd.S_below (zS HO91) hb);replace HB:=zu hb;clear hb;obtain ⟨Ao14,co14,eo14⟩:=Kd.S_slice HO91.out;subst eo14)|(go_at_call 8;(with_reducible refine (ancepsref41_FewTables.calls k _ _ t92 t921 _ ?side1 ?side2 A11.out).mono ?_);(case side1=>exact zC (Kd.S_reads' HO91.out).2.2);(case side2=>exact (Kd.S_reads' HO91.out).2.1);rintro e w15 ⟨rfl,hb⟩;replace HO91:=zA (Kd.S_below (zS HO91) hb);replace HB:=zu hb;clear hb))
   (try simp only [Act.put,zi,zs,zt]);have H:=HC12.out;clear HC12
   by_cases c16:t921=true
   ·subst c16
    have H1:((ancepslaw41_own.f k t92).bind fun t922=>((shared_All.f k t922).bind fun bt88=>(if bt88.2=0 then ((ancepslaw41_own.f k t92).bind fun t929=>((shared_Fix.f k t929 bt88.1).bind fun bt932=>(if bt932.2=0 then (ancepslaw41_SharedFixed.l0 k t92 bt932.1 0 bt88.1 (bt88.1.length:Int) 0) else (none)))) else (some ((bt88.1.length:Int) == 0)))))=some r:=by rw [if_pos rfl] at H;exact H
    clear H;have H:=H1;clear H1;obtain ⟨t922,A17,H⟩:=zo H;obtain ⟨t88,t926,A18,H⟩:=zO H
    dsimp only at H
    have HC19:=zA H;clear H
    go_upto_if 38 with (first|((with_reducible refine gate_callee (f:=10) rfl ?_);refine zgo 33 Tryz.func10 #[.slice Ao14 t92.length co14] ?_;(with_reducible refine (ancepslaw41_own.calls k _ _ t92 t922 _ ?side1 ?side2 A17.out).mono ?_);(case side1=>exact zC (Kd.S_reads' HO91.out).2.2);(case side2=>exact (Kd.S_reads' HO91.out).2.1);rintro e w20 ⟨v923,rfl,ho0,hb⟩;refine ⟨_,rfl,?_⟩;have HO924:=zA (Kd.S_lower (Kd.S_new' ho0 (Kd.S_lt (zS HO91))) (below_size zB));replace HO91:=zA (Kd.S_elder' (zS HO91) (Kd.S_base ho0) hb);replace HB:=zu hb;clear hb;(try clear ho0);obtain ⟨Ao21,co21,eo21⟩:=Kd.S_slice HO924.out;subst eo21)|((with_reducible refine gate_callee (f:=9) rfl ?_);refine zgo 34 Tryz.func9 #[.slice Ao21 t922.length co21] ?_;(with_reducible refine (shared_All.calls k _ _ t922 t88 t926 _ ?side1 ?side2 A18.out).mono ?_);(case side1=>exact zC (Kd.S_reads' HO924.out).2.2);(case side2=>exact (Kd.S_reads' HO924.out).2.1);rintro e w22 ⟨v927,rfl,ho0,hb⟩;refine ⟨_,rfl,?_⟩;have HO928:=zA (Kd.S_lower ho0 (below_size zB));replace HO91:=zA (Kd.S_below (zS HO91) hb);replace HO924:=zA (Kd.S_below (zS HO924) hb);replace HB:=zu hb;clear hb;(try clear ho0)))
    (try simp only [Act.put,zi,zs,zt]);have H:=HC19.out;clear HC19
    rcases ife H with ⟨c23b0,c23b1,H⟩|⟨c23,c23b0,c23b1,H⟩
    ·(first|rw [c23b0]|(simp only [i64_w,i32_w];rw [c23b0])|skip)
     (try rw [c23b1]);obtain ⟨t929,A24,H⟩:=zo H;obtain ⟨t932,t933,A25,H⟩:=zO H
     dsimp only at H
     have HC26:=zA H;clear H
     go_upto_if 50 with (first|((with_reducible refine gate_callee (f:=10) rfl ?_);refine zgo 44 Tryz.func10 #[.slice Ao14 t92.length co14] ?_;(with_reducible refine (ancepslaw41_own.calls k _ _ t92 t929 _ ?side1 ?side2 A24.out).mono ?_);(case side1=>exact zC (Kd.S_reads' HO91.out).2.2);(case side2=>exact (Kd.S_reads' HO91.out).2.1);rintro e w27 ⟨v930,rfl,ho0,hb⟩;refine ⟨_,rfl,?_⟩;have HO931:=zA (Kd.S_lower (Kd.S_new' (Kd.S_new' ho0 (Kd.S_lt (zS HO91))) (Kd.S_lt (zS HO924))) (below_size zB));replace HO91:=zA (Kd.S_elder' (zS HO91) (Kd.S_base ho0) hb);replace HO924:=zA (Kd.S_elder' (zS HO924) (Kd.S_base ho0) hb);replace HO928:=zA (Kd.S_below (zS HO928) hb);replace HB:=zu hb;clear hb;(try clear ho0);obtain ⟨Ao28,co28,eo28⟩:=Kd.S_slice HO931.out;subst eo28;obtain ⟨Ao29,co29,eo29⟩:=Kd.S_slice HO928.out;subst eo29)|((with_reducible refine gate_callee (f:=15) rfl ?_);refine zgo 46 Tryz.func15 #[.slice Ao28 t929.length co28,.slice Ao29 t88.length co29] ?_;(with_reducible refine (shared_Fix.calls k _ _ t929 _ _ t88 t932 t933 _ ?side1 ?side2 ?side3 ?side4 A25.out).mono ?_);(case side1=>exact zC (Kd.S_reads' HO931.out).2.2);(case side2=>exact (Kd.S_reads' HO931.out).2.1);(case side3=>exact zC (Kd.S_reads' HO928.out).2.2);(case side4=>exact (Kd.S_reads' HO928.out).2.1);rintro e w30 ⟨v934,rfl,ho0,hb⟩;refine ⟨_,rfl,?_⟩;have HO935:=zA (Kd.S_lower (Kd.S_new' (Kd.S_new' (Kd.S_new' ho0 (Kd.S_lt (zS HO91))) (Kd.S_lt (zS HO924))) (Kd.S_lt (zS HO931))) (below_size zB));replace HO91:=zA (Kd.S_elder' (zS HO91) (Kd.S_base ho0) hb);replace HO924:=zA (Kd.S_elder' (zS HO924) (Kd.S_base ho0) hb);replace HO928:=zA (Kd.S_below (zS HO928) hb);replace HO931:=zA (Kd.S_elder' (zS HO931) (Kd.S_base ho0) hb);replace HB:=zu hb;clear hb;(try clear ho0)))
     (try simp only [Act.put,zi,zs,zt]);have H:=HC26.out;clear HC26;obtain ⟨c31,H⟩:=if1 H;have c31b0:(t933 == 0)=true:=beq_iff_eq.mpr c31;have c31b1:(t933 != 0)=false:=bne_eq_false_iff_eq.mpr c31;clear c31
     (first|rw [c31b0]|(simp only [i64_w,i32_w];rw [c31b0])|skip)
     (try rw [c31b1]);have H':=zA H;clear H
     go_wp2
     go_loopg [8,53] k (fun kq v8 v53 w'=>∃ (x8_1:Int) (x53_1:Int),v8=.int .i64 x8_1∧v53=.int .i64 x53_1∧Aside0 (ancepslaw41_SharedFixed.l0 kq t92 t932 x8_1 t88 (t88.length:Int) x53_1=some r)∧Aside0 (kq≤k)∧Aside0 (Kd.S k63 63 w' w.heap.size (fun k_=>some k_≠(v934:Value).ownBlock) (.slice Ao14 t92.length co14) t92)∧Aside0 (Kd.S k63 63 w' w.heap.size (fun k_=>some k_≠((.slice Ao14 t92.length co14):Value).ownBlock) v934 t932)∧Aside0 (Kd.S k42 42 w' w.heap.size (fun _=>True) (.slice Ao29 t88.length co29) t88)∧Aside0 (Below w.heap.size w w'))
     case atStart=>exact ⟨(0),(0),zT,zT,H',⟨Nat.le_refl _⟩,⟨by (with_reducible repeat (first|apply Kd.S_alloc|apply Kd.S_drewN|apply Kd.S_drew));exact Kd.S_mono HO91.out (fun _ hk=>hk.2)⟩,⟨by (with_reducible repeat (first|apply Kd.S_alloc|apply Kd.S_drewN|apply Kd.S_drew));exact Kd.S_mono HO935.out (fun _ hk=>hk.1.1.2)⟩,⟨by (with_reducible repeat (first|apply Kd.S_alloc|apply Kd.S_drewN|apply Kd.S_drew));exact HO928.out⟩,⟨zv0 HB⟩⟩
     case round=>
      clear H'
      try clear c6
      try clear c7
      try clear c7b0
      try clear c7b1
      try clear c16
      try clear c23
      try clear c23b0
      try clear c23b1
      try clear c31
      try clear c31b0
      try clear c31b1
      obtain ⟨x8_1,x53_1,rfl,rfl,HA,HK1,HO_3,HO_6,HO_51,HB⟩:=hrel
      cases gk with
      | zero=>exact absurd HA.out (by simp [ancepslaw41_SharedFixed.l0])
      | succ k1=>
       have H:=HA.out;clear HA;simp only [ancepslaw41_SharedFixed.l0] at H
       rcases ifd H with ⟨c32b0,H⟩|⟨c32b0,H⟩
       ·obtain ⟨c33b0,H⟩:=ifd1 H;obtain ⟨c34b0,H⟩:=ifd1 H;have HC35:=zA H;clear H;obtain ⟨p90,q90,ad90,A90_5,c90_5,e90,hx90_0,hx90_1,hx90_2,hx90_3,hx90_4,hx90_5,hl90_5,hi90_5⟩:=zp (at_T42 (Kd.S_reads' HO_51.out).2.2 x53_1)
        cases e90
        obtain ⟨ce90,hce90,hMe90,hcc90⟩:=Kd.S_get HO_51.out z42 x53_1 p90 (by first|exact q90|exact of_decide_eq_true zh|(have e_:=(Kd.S_reads' HO_51.out).1;omega));obtain ⟨ve90_5,rfl,ge90_5⟩:=k42_openM hMe90;have hv90_5:=hcc90 5 _ rfl;rw [add_field _ _ 5 (by omega)] at hv90_5;replace hv90_5:=Option.some.inj (hv90_5.symm.trans hx90_5);rw [hv90_5] at ge90_5;have HL90_5:=zA (show Kd.R k103 103 _ _ _ _ ((rd_T42 t88 x53_1).f5.f0) from ge90_5);clear hv90_5 ge90_5;clear hcc90 hce90;have HR90_5:=zA hi90_5;have HC90_5:=zA hl90_5;clear hi90_5 hl90_5;replace p90:=eq_true p90;replace q90:=eq_true q90
        go_upto_if 59 with (first|((with_reducible refine gd 10 rfl ?_);(try (refine gate_guard (by rfl) ?_;dsimp only));refine zx #[.int .i64 0,.int .i64 0,.int .i64 0,.int .i64 0,.int .i64 0,.slice none 0 0] 42 ?_;intro gb89 hg w36 BK89 hb GW89 HB1;have GE89:=GW89;replace HO_3:=zA (Kd.S_below (zS HO_3) hb);replace HO_6:=zA (Kd.S_below (zS HO_6) hb);replace HO_51:=zA (Kd.S_below (Kd.S_elderB (zS HO_51) gb89 (Nat.le_of_eq hg.symm)) hb);replace HR90_5:=zA (Kd.C_below ((Kd.R_reads' HL90_5.out).2.2) hb);replace HL90_5:=zA (Kd.R_below (by refine zr ?_;exact HL90_5.out) hb);clear HB hb hg;have HB:=HB1;clear HB1;have hcz37_0:=zc0 BK89;have hcz37_1:=zc1 BK89;have hcz37_2:=zc2 BK89;have hcz37_3:=zc3 BK89;have hcz37_4:w36.cell? ⟨gb89,4,none⟩=some (.int .i64 0):=zc4 BK89;have hcz37_5:w36.cell? ⟨gb89,5,none⟩=some (.slice none 0 0):=zc5 BK89;have hfz37_0:=zf BK89))
        (try simp only [Act.put,zi,zs,zt]);have H:=HC35.out;clear HC35
        rcases ife H with ⟨c38b0,c38b1,H⟩|⟨c38,c38b0,c38b1,H⟩
        ·(first|rw [c38b0]|(simp only [i64_w,i32_w];rw [c38b0])|skip)
         (try rw [c38b1]);obtain ⟨c39,H⟩:=if1 H;have c39b0:=eq_true c39;have c39b1:decide (0≤((rd_T42 t88 x53_1).f0))=true:=decide_eq_true c39;clear c39;obtain ⟨ji40,hji40⟩:=zZ (shl .i64 1 ((rd_T42 t88 x53_1).f0))
         first|rw [hji40] at H|simp only [hji40] at H
         have hji40_:(IntKind.i64.wrap (1 * 2 ^ min ((rd_T42 t88 x53_1).f0).toNat 64))=ji40:=hji40;have hji40z:((rd_T42 t88 x53_1).f0)≤64→(IntKind.i64.wrap (1 * 2 ^ ((rd_T42 t88 x53_1).f0).toNat))=ji40:=shl_small hji40
         have hji40u:(IntKind.i64.wrap (2 ^ min ((rd_T42 t88 x53_1).f0).toNat 64))=ji40:=by have h_:=hji40_;rw [Int.one_mul] at h_;exact h_
         have hji40v:((rd_T42 t88 x53_1).f0)≤64→(IntKind.i64.wrap (2 ^ ((rd_T42 t88 x53_1).f0).toNat))=ji40:=fun hle_=>by have h_:=hji40z hle_;rw [Int.one_mul] at h_;exact h_
         have hji40y:(wrap64 (1 * 2 ^ min ((rd_T42 t88 x53_1).f0).toNat 64))=ji40:=(i64_w _).symm.trans hji40_
         have hji40x:((rd_T42 t88 x53_1).f0)≤64→(wrap64 (1 * 2 ^ ((rd_T42 t88 x53_1).f0).toNat))=ji40:=fun h_=>(i64_w _).symm.trans (hji40z h_)
         have H':=zA H;clear H;have hcz41_0:=zc0 BK89;have hcz41_1:=zc1 BK89;have hcz41_2:=zc2 BK89;have hcz41_3:=zc3 BK89;have hcz41_4:w36.cell? ⟨gb89,4,none⟩=some (.int .i64 0):=zc4 BK89;have hcz41_5:w36.cell? ⟨gb89,5,none⟩=some (.slice none 0 0):=zc5 BK89;have hfz41_0:=zf BK89
         go_wp2
         go_roundg k1
         case measure=>have:=HK1.out;omega
         case rel=>exact ⟨(Go.bits .or .i64 x8_1 (ji40)),(wrap64 (x53_1+1)),(by first|rfl|(simp;done)|(simp only [← hji40] <;> (first|rfl|simp))|(simp [*];done)),zT,H',⟨by have:=HK1.out;omega⟩,⟨by (with_reducible repeat (first|apply Kd.S_alloc|apply Kd.S_drewN|apply Kd.S_drew));exact Kd.S_mono (Kd.S_far (p:=⟨gb89,5,none⟩) (Kd.S_far (p:=⟨gb89,4,none⟩) (Kd.S_far (p:=⟨gb89,3,none⟩) (Kd.S_far (p:=⟨gb89,2,none⟩) (Kd.S_far (p:=⟨gb89,1,none⟩) (Kd.S_far (p:=⟨gb89,0,none⟩) (Kd.S_types HO_3.out BK89.out (by decide)) (fun _ hk=>hk.2) (.int .i64 ((rd_T42 t88 x53_1).f0))) (fun _ hk=>hk.2) (.int .i64 ((rd_T42 t88 x53_1).f1))) (fun _ hk=>hk.2) (.int .i64 ((rd_T42 t88 x53_1).f2))) (fun _ hk=>hk.2) (.int .i64 ((rd_T42 t88 x53_1).f3))) (fun _ hk=>hk.2) (.int .i64 ((rd_T42 t88 x53_1).f4))) (fun _ hk=>hk.2) (.slice A90_5 ((rd_T42 t88 x53_1).f5.f0).length c90_5)) (fun _ hk=>hk.1)⟩,⟨by (with_reducible repeat (first|apply Kd.S_alloc|apply Kd.S_drewN|apply Kd.S_drew));exact Kd.S_mono (Kd.S_far (p:=⟨gb89,5,none⟩) (Kd.S_far (p:=⟨gb89,4,none⟩) (Kd.S_far (p:=⟨gb89,3,none⟩) (Kd.S_far (p:=⟨gb89,2,none⟩) (Kd.S_far (p:=⟨gb89,1,none⟩) (Kd.S_far (p:=⟨gb89,0,none⟩) (Kd.S_types HO_6.out BK89.out (by decide)) (fun _ hk=>hk.2) (.int .i64 ((rd_T42 t88 x53_1).f0))) (fun _ hk=>hk.2) (.int .i64 ((rd_T42 t88 x53_1).f1))) (fun _ hk=>hk.2) (.int .i64 ((rd_T42 t88 x53_1).f2))) (fun _ hk=>hk.2) (.int .i64 ((rd_T42 t88 x53_1).f3))) (fun _ hk=>hk.2) (.int .i64 ((rd_T42 t88 x53_1).f4))) (fun _ hk=>hk.2) (.slice A90_5 ((rd_T42 t88 x53_1).f5.f0).length c90_5)) (fun _ hk=>hk.1)⟩,⟨by (with_reducible repeat (first|apply Kd.S_alloc|apply Kd.S_drewN|apply Kd.S_drew));exact Kd.S_mono (Kd.S_far (p:=⟨gb89,5,none⟩) (Kd.S_far (p:=⟨gb89,4,none⟩) (Kd.S_far (p:=⟨gb89,3,none⟩) (Kd.S_far (p:=⟨gb89,2,none⟩) (Kd.S_far (p:=⟨gb89,1,none⟩) (Kd.S_far (p:=⟨gb89,0,none⟩) (Kd.S_mono HO_51.out (fun k_ hk=>(⟨hk,hk.2⟩:_∧k_≠gb89))) (fun _ hk=>hk.2) (.int .i64 ((rd_T42 t88 x53_1).f0))) (fun _ hk=>hk.2) (.int .i64 ((rd_T42 t88 x53_1).f1))) (fun _ hk=>hk.2) (.int .i64 ((rd_T42 t88 x53_1).f2))) (fun _ hk=>hk.2) (.int .i64 ((rd_T42 t88 x53_1).f3))) (fun _ hk=>hk.2) (.int .i64 ((rd_T42 t88 x53_1).f4))) (fun _ hk=>hk.2) (.slice A90_5 ((rd_T42 t88 x53_1).f5.f0).length c90_5)) (fun _ hk=>trivial)⟩,⟨zv1 HB GE89⟩⟩
        ·(first|rw [c38b0]|(simp only [i64_w,i32_w];rw [c38b0])|skip)
         (try rw [c38b1]);have H':=zA H;clear H
         go_wp2
         go_roundg k1
         case measure=>have:=HK1.out;omega
         case rel=>exact ⟨(x8_1),(wrap64 (x53_1+1)),zT,zT,H',⟨by have:=HK1.out;omega⟩,⟨by (with_reducible repeat (first|apply Kd.S_alloc|apply Kd.S_drewN|apply Kd.S_drew));exact Kd.S_mono (Kd.S_far (p:=⟨gb89,5,none⟩) (Kd.S_far (p:=⟨gb89,4,none⟩) (Kd.S_far (p:=⟨gb89,3,none⟩) (Kd.S_far (p:=⟨gb89,2,none⟩) (Kd.S_far (p:=⟨gb89,1,none⟩) (Kd.S_far (p:=⟨gb89,0,none⟩) (Kd.S_types HO_3.out BK89.out (by decide)) (fun _ hk=>hk.2) (.int .i64 ((rd_T42 t88 x53_1).f0))) (fun _ hk=>hk.2) (.int .i64 ((rd_T42 t88 x53_1).f1))) (fun _ hk=>hk.2) (.int .i64 ((rd_T42 t88 x53_1).f2))) (fun _ hk=>hk.2) (.int .i64 ((rd_T42 t88 x53_1).f3))) (fun _ hk=>hk.2) (.int .i64 ((rd_T42 t88 x53_1).f4))) (fun _ hk=>hk.2) (.slice A90_5 ((rd_T42 t88 x53_1).f5.f0).length c90_5)) (fun _ hk=>hk.1)⟩,⟨by (with_reducible repeat (first|apply Kd.S_alloc|apply Kd.S_drewN|apply Kd.S_drew));exact Kd.S_mono (Kd.S_far (p:=⟨gb89,5,none⟩) (Kd.S_far (p:=⟨gb89,4,none⟩) (Kd.S_far (p:=⟨gb89,3,none⟩) (Kd.S_far (p:=⟨gb89,2,none⟩) (Kd.S_far (p:=⟨gb89,1,none⟩) (Kd.S_far (p:=⟨gb89,0,none⟩) (Kd.S_types HO_6.out BK89.out (by decide)) (fun _ hk=>hk.2) (.int .i64 ((rd_T42 t88 x53_1).f0))) (fun _ hk=>hk.2) (.int .i64 ((rd_T42 t88 x53_1).f1))) (fun _ hk=>hk.2) (.int .i64 ((rd_T42 t88 x53_1).f2))) (fun _ hk=>hk.2) (.int .i64 ((rd_T42 t88 x53_1).f3))) (fun _ hk=>hk.2) (.int .i64 ((rd_T42 t88 x53_1).f4))) (fun _ hk=>hk.2) (.slice A90_5 ((rd_T42 t88 x53_1).f5.f0).length c90_5)) (fun _ hk=>hk.1)⟩,⟨by (with_reducible repeat (first|apply Kd.S_alloc|apply Kd.S_drewN|apply Kd.S_drew));exact Kd.S_mono (Kd.S_far (p:=⟨gb89,5,none⟩) (Kd.S_far (p:=⟨gb89,4,none⟩) (Kd.S_far (p:=⟨gb89,3,none⟩) (Kd.S_far (p:=⟨gb89,2,none⟩) (Kd.S_far (p:=⟨gb89,1,none⟩) (Kd.S_far (p:=⟨gb89,0,none⟩) (Kd.S_mono HO_51.out (fun k_ hk=>(⟨hk,hk.2⟩:_∧k_≠gb89))) (fun _ hk=>hk.2) (.int .i64 ((rd_T42 t88 x53_1).f0))) (fun _ hk=>hk.2) (.int .i64 ((rd_T42 t88 x53_1).f1))) (fun _ hk=>hk.2) (.int .i64 ((rd_T42 t88 x53_1).f2))) (fun _ hk=>hk.2) (.int .i64 ((rd_T42 t88 x53_1).f3))) (fun _ hk=>hk.2) (.int .i64 ((rd_T42 t88 x53_1).f4))) (fun _ hk=>hk.2) (.slice A90_5 ((rd_T42 t88 x53_1).f5.f0).length c90_5)) (fun _ hk=>trivial)⟩,⟨zv1 HB GE89⟩⟩
       ·obtain ⟨t95,t939,A42,H⟩:=zO H
        dsimp only at H
        obtain ⟨t94,t943,A43,H⟩:=zO H
        dsimp only at H
        have HC44:=zA H;clear H
        go_upto_region 19 with (first|((with_reducible refine gate_callee (f:=19) rfl ?_);refine zgo 68 Tryz.func19 #[.slice Ao14 t92.length co14] ?_;(with_reducible refine (ancepsref40_All.calls k1 _ _ t92 t95 t939 _ ?side1 ?side2 A42.out).mono ?_);(case side1=>exact zC (Kd.S_reads' HO_3.out).2.2);(case side2=>exact (Kd.S_reads' HO_3.out).2.1);rintro e w45 ⟨v940,rfl,ho0,hb⟩;refine ⟨_,rfl,?_⟩;have HO941:=zA (Kd.R_lower ho0 (below_size zB));replace HO_3:=zA (Kd.S_elder' (zS HO_3) (Kd.R_base ho0) hb);replace HO_6:=zA (Kd.S_elder' (zS HO_6) (Kd.R_base ho0) hb);replace HO_51:=zA (Kd.S_below (zS HO_51) hb);replace HB:=zu hb;clear hb;(try clear ho0);obtain ⟨Ao46,co46,eo46⟩:=Kd.S_slice HO_6.out;subst eo46)|((with_reducible refine gate_callee (f:=19) rfl ?_);refine zgo 73 Tryz.func19 #[.slice Ao46 t932.length co46] ?_;(with_reducible refine (ancepsref40_All.calls k1 _ _ t932 t94 t943 _ ?side1 ?side2 A43.out).mono ?_);(case side1=>exact zC (Kd.S_reads' HO_6.out).2.2);(case side2=>exact (Kd.S_reads' HO_6.out).2.1);rintro e w47 ⟨v944,rfl,ho0,hb⟩;refine ⟨_,rfl,?_⟩;have HO945:=zA (Kd.R_lower (Kd.R_new' ho0 (Kd.R_lt (zR HO941))) (below_size zB));replace HO_3:=zA (Kd.S_elder' (zS HO_3) (Kd.R_base ho0) hb);replace HO_6:=zA (Kd.S_elder' (zS HO_6) (Kd.R_base ho0) hb);replace HO_51:=zA (Kd.S_below (zS HO_51) hb);replace HO941:=zA (Kd.R_elder' (zR HO941) (Kd.R_base ho0) hb);replace HB:=zu hb;clear hb;(try clear ho0)))
        (try simp only [Act.put,zi,zs,zt]);have H:=HC44.out;clear HC44
        rcases ife H with ⟨c48b0,c48b1,H⟩|⟨c48,c48b0,c48b1,H⟩
        ·(first|rw [c48b0]|(simp only [i64_w,i32_w];rw [c48b0])|skip)
         (try rw [c48b1])
         rcases ife H with ⟨c49b0,c49b1,H⟩|⟨c49,c49b0,c49b1,H⟩
         ·rcases if0 H with ⟨c50,H⟩|⟨c50,H⟩
          ·have c50b0:((t95.length:Int) == (t94.length:Int))=true:=beq_iff_eq.mpr c50;have c50b1:((t95.length:Int) != (t94.length:Int))=false:=bne_eq_false_iff_eq.mpr c50
           have c50b2:(t95.length == t94.length)=true:=by first|simpa using c50|(simp at c50 ⊢;omega)
           clear c50;have H':=zA H;clear H;obtain ⟨Ao51,co51,eo51⟩:=Kd.R_slice HO941.out;subst eo51;obtain ⟨Ao52,co52,eo52⟩:=Kd.R_slice HO945.out;subst eo52
           go_wp2
           go_loopg [97] k1 (fun kq v97 w'=>∃ (x97_2:Int),v97=.int .i64 x97_2∧Aside0 (ancepslaw41_SharedFixed.l1 kq x8_1 t95 t94 (t94.length:Int) x97_2=some r)∧Aside0 (kq≤k1)∧Aside0 (Kd.R (Kd.int .i64) 3 w' w.heap.size (fun k_=>some k_≠((.slice Ao52 t94.length co52):Value).ownBlock) (.slice Ao51 t95.length co51) t95)∧Aside0 (Kd.R (Kd.int .i64) 3 w' w.heap.size (fun k_=>some k_≠((.slice Ao51 t95.length co51):Value).ownBlock) (.slice Ao52 t94.length co52) t94)∧Aside0 (Below w.heap.size w w'))
           case atStart=>exact ⟨(0),zT,H',⟨Nat.le_refl _⟩,⟨by refine zr ?_;exact Kd.R_mono HO941.out (fun _ hk=>hk.2)⟩,⟨by refine zr ?_;exact Kd.R_mono HO945.out (fun _ hk=>hk.2)⟩,⟨zv0 HB⟩⟩
           case round=>
            clear H'
            try clear c6
            try clear c7
            try clear c7b0
            try clear c7b1
            try clear c16
            try clear c23
            try clear c23b0
            try clear c23b1
            try clear c31
            try clear c31b0
            try clear c31b1
            try clear c32
            try clear c32b0
            try clear c48
            try clear c48b0
            try clear c48b1
            try clear c49
            try clear c49b0
            try clear c49b1
            try clear c50
            try clear c50b0
            try clear c50b1
            try clear c50b2
            obtain ⟨x97_2,rfl,HA,HK2,HO_11,HO_13,HB⟩:=hrel
            cases gk with
            | zero=>exact absurd HA.out (by simp [ancepslaw41_SharedFixed.l1])
            | succ k2=>
             have H:=HA.out;clear HA;simp only [ancepslaw41_SharedFixed.l1] at H
             rcases ifd H with ⟨c53b0,H⟩|⟨c53b0,H⟩
             ·obtain ⟨c54b0,H⟩:=ifd1 H;obtain ⟨c55b0,H⟩:=ifd1 H;obtain ⟨t947,A56,H⟩:=zo H;have HC57:=zA H;clear H;obtain ⟨p946,q946,ad946,e946,hx946_0⟩:=zp (Kd.at_int (Kd.R_reads' HO_13.out).2.2 x97_2)
              cases e946
              replace p946:=eq_true p946;replace q946:=eq_true q946
              go_upto_if 108 with (first|((with_reducible refine gate_callee (f:=20) rfl ?_);refine zgo 107 Tryz.func20 #[.slice Ao51 t95.length co51,.int .i64 (Go.bits .or .i64 (rd t94 x97_2) x8_1)] ?_;(with_reducible refine (slices_Contains_int_int.calls k2 _ _ t95 (Go.bits .or .i64 (rd t94 x97_2) x8_1) t947 _ ?side1 ?side2 A56.out).mono ?_);(case side1=>exact zC (Kd.R_reads' HO_11.out).2.2);(case side2=>exact (Kd.R_reads' HO_11.out).2.1);rintro e w' ⟨rfl,⟨nd,rfl⟩⟩;refine ⟨_,rfl,?_⟩))
              (try simp only [Act.put,zi,zs,zt]);have H:=HC57.out;clear HC57
              by_cases c58:t947=true
              ·subst c58
               have H1:(ancepslaw41_SharedFixed.l1 k2 x8_1 t95 t94 (t94.length:Int) (wrap64 (x97_2+1)))=some r:=by rw [if_pos rfl] at H;exact H
               clear H;have H:=H1;clear H1;have H':=zA H;clear H
               go_wp2
               go_roundg k2
               case measure=>have:=HK1.out;have:=HK2.out;omega
               case rel=>exact ⟨(wrap64 (x97_2+1)),zT,H',⟨by have:=HK1.out;have:=HK2.out;omega⟩,⟨by refine zr ?_;exact HO_11.out⟩,⟨by refine zr ?_;exact HO_13.out⟩,⟨zv0 HB⟩⟩
              ·replace c58:=Bool.eq_false_iff.mpr c58;subst c58
               have H1:(none)=some r:=by rw [if_neg (show ¬ (false=true) by decide)] at H;exact H
               clear H;have H:=H1;clear H1;exact absurd H (by simp)
             ·obtain rfl:=Option.some.inj H
              go_wp2
              go_ret
              exact ⟨ze,zv0 HB⟩
          ·have c50b0:((t95.length:Int) == (t94.length:Int))=false:=beq_eq_false_iff_ne.mpr c50;have c50b1:((t95.length:Int) != (t94.length:Int))=true:=bne_iff_ne.mpr c50
           have c50b2:(t95.length == t94.length)=false:=by first|simpa using c50|(simp at c50 ⊢;omega)
           obtain ⟨c59,H⟩:=if1 H;have c59b0:(t939 == 3)=true:=beq_iff_eq.mpr c59;have c59b1:(t939 != 3)=false:=bne_eq_false_iff_eq.mpr c59;clear c59;obtain rfl:=Option.some.inj H;obtain ⟨Ao60,co60,eo60⟩:=Kd.R_slice HO941.out;subst eo60;obtain ⟨Ao61,co61,eo61⟩:=Kd.R_slice HO945.out;subst eo61
           go_wp2
           go_ret
           exact ⟨ze,zv0 HB⟩
         ·obtain ⟨c62,H⟩:=if1 H;have c62b0:(t939 == 3)=true:=beq_iff_eq.mpr c62;have c62b1:(t939 != 3)=false:=bne_eq_false_iff_eq.mpr c62;clear c62;obtain rfl:=Option.some.inj H
          go_wp2
          go_ret
          exact ⟨ze,zv0 HB⟩
        ·(first|rw [c48b0]|(simp only [i64_w,i32_w];rw [c48b0])|skip)
         (try rw [c48b1]);obtain ⟨c63,H⟩:=if1 H;have c63b0:(t939 == 3)=true:=beq_iff_eq.mpr c63;have c63b1:(t939 != 3)=false:=bne_eq_false_iff_eq.mpr c63;clear c63;obtain rfl:=Option.some.inj H
         go_wp2
         go_ret
         exact ⟨ze,zv0 HB⟩
    ·(first|rw [c23b0]|(simp only [i64_w,i32_w];rw [c23b0])|skip)
     (try rw [c23b1]);obtain rfl:=Option.some.inj H;obtain ⟨Ao64,co64,eo64⟩:=Kd.S_slice HO928.out;subst eo64
     go_wp2
     go_ret
     exact ⟨ze,zv0 HB⟩
   ·replace c16:=Bool.eq_false_iff.mpr c16;subst c16
    have H1:((ancepslaw41_awake.f k).bind fun t948=>(some t948))=some r:=by rw [if_neg (show ¬ (false=true) by decide)] at H;exact H
    clear H;have H:=H1;clear H1;obtain ⟨t948,A65,H⟩:=zo H;obtain rfl:=Option.some.inj H
    go_wp2_with (first|((with_reducible refine gate_callee (f:=7) rfl ?_);refine zgo 30 Tryz.func7 #[] ?_;(with_reducible refine (ancepslaw41_awake.calls k  t948 _ A65.out).mono ?_);rintro e w66 ⟨rfl,hb⟩;refine ⟨_,rfl,?_⟩;replace HO91:=zA (Kd.S_below (zS HO91) hb);replace HB:=zu hb;clear hb))
    go_ret
    exact ⟨ze,zv0 HB⟩
 ·replace c6:=Bool.eq_false_iff.mpr c6;subst c6
  have H1:((ancepslaw41_awake.f k).bind fun t949=>(some t949))=some r:=by rw [if_neg (show ¬ (false=true) by decide)] at H;exact H
  clear H;have H:=H1;clear H1;obtain ⟨t949,A67,H⟩:=zo H;obtain rfl:=Option.some.inj H
  go_wp2_with (first|((with_reducible refine gate_callee (f:=7) rfl ?_);refine zgo 18 Tryz.func7 #[] ?_;(with_reducible refine (ancepslaw41_awake.calls k  false _ A5.out).mono ?_);rintro e w68 ⟨rfl,hb⟩;refine ⟨_,rfl,?_⟩;replace HO91:=zA (Kd.S_below (zS HO91) hb);replace HB:=zu hb;clear hb)|((with_reducible refine gate_callee (f:=7) rfl ?_);refine zgo 30 Tryz.func7 #[] ?_;(with_reducible refine (ancepslaw41_awake.calls k  t949 _ A67.out).mono ?_);rintro e w69 ⟨rfl,hb⟩;refine ⟨_,rfl,?_⟩;replace HO91:=zA (Kd.S_below (zS HO91) hb);replace HB:=zu hb;clear hb))
  go_ret
  exact ⟨ze,zv0 HB⟩
end Go.Proofs.YtngpkbbljnbojaaGreat.A
