import Derived.Test.YtilljenmobgkaaaA0
import Derived.Test.YtilljenmobgkaaaA1
namespace Go.Proofs.Ytilljenmobgkaaa.A
open Go.RowKit Go.Proofs.YtilljenmobgkaaaW.PrintWords Go.Proofs.YtilljenmobgkaaaW.PrintLast Go.Proofs.YtilljenmobgkaaaW.PrintMore
attribute [local go_sem] max2_int min2_int max_two min_two max_three min_three max_four min_four Try.underlying22 Try.underlying23 Try.underlying25 Try.underlying27 Try.underlying29 Try.underlying3 Try.underlying42
set_option linter.unusedVariables false
set_option linter.unusedSimpArgs false
mutual
def ancepsref38_Made.l0:Nat→Int→Int→Int→List Int→Option (List Int×List Int)
 | 0,_,_,_,_=>none
 | k+1,x4,x98,x99,x83=>if x4<24 then (if (x83.length:Int)<6 then (if 0≤x4 then (if (Int.tmod (shr .u32 x98 x4) 2)=1 then (if x83.length<17592186044416 then (ancepsref38_Made.l0 k (wrap64 (x4+1)) x98 x99 (x83++[x4])) else (none)) else (ancepsref38_Made.l0 k (wrap64 (x4+1)) x98 x99 x83)) else (none)) else (ancepsref38_Made.l1 k 0 x98 x99 x83 ([]:List Int))) else (ancepsref38_Made.l1 k 0 x98 x99 x83 ([]:List Int))
def ancepsref38_Made.l1:Nat→Int→Int→Int→List Int→List Int→Option (List Int×List Int)
 | 0,_,_,_,_,_=>none
 | k+1,x5,x98,x99,x83,x85=>if x5<(shl .i64 1 (x83.length:Int)) then (if 0≤x5 then (if (Int.tmod (shr .u64 x99 x5) 2)=1 then (if x85.length<17592186044416 then (ancepsref38_Made.l1 k (wrap64 (x5+1)) x98 x99 x83 (x85++[x5])) else (none)) else (ancepsref38_Made.l1 k (wrap64 (x5+1)) x98 x99 x83 x85)) else (none)) else (some (x83,x85))
end
def ancepsref38_Made.f (k:Nat) (a0_0:Int) (a0_1:Int):Option (List Int×List Int):=ancepsref38_Made.l0 k 0 a0_0 a0_1 ([]:List Int)
set_option maxHeartbeats 8000000 in
set_option maxRecDepth 100000 in
theorem ancepsref38_Made.calls (k:Nat) (a0_0:Int) (a0_1:Int) (r1:List Int) (r2:List Int) (w:World) (h:ancepsref38_Made.f k a0_0 a0_1=some (r1,r2)) :
  Calls Try.prog 5 #[.agg #[.int .u32 a0_0,.int .u64 a0_1]] w fun e w'=>∃ v0_ v1_:Value,e=.returned (.agg #[v0_,v1_])∧Kd.R (Kd.int .i64) 3 w' w.heap.size (fun k_=>some k_≠(v1_:Value).ownBlock) v0_ r1∧Kd.R (Kd.int .i64) 3 w' w.heap.size (fun k_=>some k_≠(v0_:Value).ownBlock) v1_ r2∧Below w.heap.size w w':=by
 have HB:=zA (Below.refl w.heap.size w);have H:(ancepsref38_Made.l0 k 0 a0_0 a0_1 ([]:List Int))=some (r1,r2):=h;clear h;have H':=zA H;clear H
 go_enter Try.func5,Try.ntmps5
 go_wp2_with (first|((with_reducible refine gd 1 rfl ?_);(try (refine gate_guard (by rfl) ?_;dsimp only));refine zx #[.int .u32 a0_0,.int .u64 a0_1] 25 ?_;intro gb86 hg w2 BK86 hb GW86 HB1;have GE86:=GW86;clear HB hb hg;have HB:=HB1;clear HB1)|((with_reducible refine gd 2 rfl ?_);(try (refine gate_guard (by rfl) ?_;dsimp only));refine zx #[.slice none 0 0,.slice none 0 0] 29 ?_;intro gb87 hg w3 BK87 hb GW87 HB1;have GE87:=GW87;have NB86_87:=zL hg BK86;have NB87_86:=zLs NB86_87;replace BK86:=zw BK86 hb;clear HB hb hg;have HB:=HB1;clear HB1)|((with_reducible refine gd 3 rfl ?_);(try (refine gate_guard (by rfl) ?_;dsimp only));refine zx #[.slice none 0 0,.slice none 0 0] 29 ?_;intro gb84 hg w4 BK84 hb GW84 HB1;have GE84:=GW84;have NB86_84:=zL hg BK86;have NB84_86:=zLs NB86_84;have NB87_84:=zL hg BK87;have NB84_87:=zLs NB87_84;replace BK86:=zw BK86 hb;replace BK87:=zw BK87 hb;clear HB hb hg;have HB:=HB1;clear HB1))
 go_loopg [4] k (fun kq v4 w'=>∃ (x4_1:Int) (x83_1:List Int) (u83:Value),v4=.int .i64 x4_1∧Aside0 (ancepsref38_Made.l0 kq x4_1 a0_0 a0_1 x83_1=some (r1,r2))∧Aside0 (kq≤k)∧Aside0 (Kd.R (Kd.int .i64) 3 w' w.heap.size (fun _=>True) u83 x83_1)∧Aside0 (w'.heap[gb86]?=some (.cells #[.int .u32 a0_0,.int .u64 a0_1] 25 (0,0)))∧Aside0 (w'.heap[gb87]?=some (.cells #[(.slice none 0 0),(.slice none 0 0)] 29 (0,0)))∧Aside0 (w'.heap[gb84]?=some (.cells #[u83,(.slice none 0 0)] 29 (0,0)))∧Aside0 (Below w.heap.size w w'))
 case atStart=>exact ⟨(0),(([]:List Int)),(.slice none 0 0),zT,H',⟨Nat.le_refl _⟩,⟨by first|exact Kd.R_nil _ _ _ _ _|exact Kd.N_nil _ _ _ _ _|exact Kd.V_nil _ _ _ _ _|exact Kd.Q_nil _ _ _ _ _|exact Kd.S_nil _ _ _ _ _⟩,⟨by refine zj ?_;exact BK86.out⟩,⟨by refine zj ?_;exact BK87.out⟩,⟨by refine zj ?_;exact BK84.out⟩,⟨zv3 HB GE86 GE87 GE84⟩⟩
 case round=>
  clear H';obtain ⟨x4_1,x83_1,u83,rfl,HA,HK1,HO_83,BK86,BK87,BK84,HB⟩:=hrel
  cases gk with
  | zero=>exact absurd HA.out (by simp [ancepsref38_Made.l0])
  | succ k1=>
   have H:=HA.out;clear HA;simp only [ancepsref38_Made.l0] at H
   rcases ifd H with ⟨c5b0,H⟩|⟨c5b0,H⟩
   ·rcases if0 H with ⟨c6,H⟩|⟨c6,H⟩
    ·have c6b0:decide ((x83_1.length:Int)<6)=true:=decide_eq_true c6;have c6b1:decide (x83_1.length<6)=true:=decide_eq_true (by omega);clear c6;obtain ⟨c7,H⟩:=if1 H;have c7b0:=eq_true c7;have c7b1:decide (0≤x4_1)=true:=decide_eq_true c7;clear c7;obtain ⟨ji8,hji8⟩:=zZ (shr .u32 a0_0 x4_1)
     first|rw [hji8] at H|simp only [hji8] at H
     have hji8_:(a0_0 / 2 ^ min x4_1.toNat 32)=ji8:=hji8;have hji8z:x4_1≤32→(a0_0 / 2 ^ x4_1.toNat)=ji8:=shr_small hji8
     rcases ife H with ⟨c9b0,c9b1,H⟩|⟨c9,c9b0,c9b1,H⟩
     ·obtain ⟨c10,H⟩:=if1 H;have LMc10:=zA c10;clear c10
      first|(replace H:=zyb (x83_1++[x4_1]) H;obtain ⟨y449,Ny449,H⟩:=H)|(obtain ⟨y449,hy449⟩:=zY (x83_1++[x4_1]);(try rw (occs:=.pos [1]) [← hy449] at H);have Ny449:=zA hy449;clear hy449)
      have H':=zA H;clear H;have hnb11:=NB84_86.out;have hnc11:=NB86_84.out;have hnb12:=NB84_87.out;have hnc12:=NB87_84.out;have hcz13_0:=zc0 BK84;have hcz13_1:=zc1 BK84;have hfz13_0:=zf BK84;obtain ⟨Ao14,co14,eo14⟩:=Kd.R_slice HO_83.out;subst eo14;have hnb15:=NB86_87.out;have hnc15:=NB87_86.out;have hcz16_0:=zc0 BK86;have hcz16_1:=zc1 BK86;have hfz16_0:=zf BK86
      go_wp2_with (first|((with_reducible refine gate_builtin (b:=.append) (xs:=#[.tmp 23,.tmp 25]) rfl ?_);(try (refine gate_guard (by rfl) ?_;dsimp only));at_builtin;refine Kd.R_append (Kd.int .i64) (w0:=w) w.heap.size rfl (.tmp 23) (.tmp 25) 27 3 (.int .i64 0) 8 rfl Try.underlying27 info3 rfl (by decide) (by omega) (.slice Ao14 x83_1.length co14) x83_1 x4_1 [.int .i64 x4_1] (fun _=>True) (fun _=>False) rfl rfl ?aP (fun _ hk=>hk.elim) ?aF ?aO ?aB ?aS ?aL ?_;(case aP=>exact rfl);(case aB=>exact zB);(case aF=>exact (fun _ _=>trivial));(case aO=>exact (zR HO_83));(case aS=>exact (below_size zB));(case aL=>have:=LMc10.out;omega);intro v450 w17 ho hb hg hat;rw [← Ny449.out] at ho;have HO451:=zA (ho);replace BK86:=zA (blk_grown (g:=gb86) (o:=.cells #[.int .u32 a0_0,.int .u64 a0_1] 25 (0,0)) (zk BK86) hg (Kd.R_ne HO_83.out BK86.out (by decide)));replace BK87:=zA (blk_grown (g:=gb87) (o:=.cells #[.slice none 0 0,.slice none 0 0] 29 (0,0)) (zk BK87) hg (Kd.R_ne HO_83.out BK87.out (by decide)));replace BK84:=zA (blk_grown (g:=gb84) (o:=.cells #[.slice Ao14 x83_1.length co14,.slice none 0 0] 29 (0,0)) (zk BK84) hg (Kd.R_ne HO_83.out BK84.out (by decide)));replace HB:=zA (hb);clear HO_83;clear ho hb hg hat;obtain ⟨Ao18,co18,eo18⟩:=Kd.R_slice HO451.out;subst eo18;have hcz19_0:=zc0 BK84;have hcz19_1:=zc1 BK84;have hfz19_0:=zf BK84))
      go_roundg k1
      case measure=>have:=HK1.out;omega
      case rel=>exact ⟨(wrap64 (x4_1+1)),(y449),(.slice Ao18 y449.length co18),zT,H',⟨by have:=HK1.out;omega⟩,⟨by refine zr ?_;exact Kd.R_mono (Kd.R_far (p:=⟨gb84,0,none⟩) (Kd.R_types HO451.out BK84.out (by decide)) (fun _ hk=>hk.2) (.slice Ao18 y449.length co18)) (fun _ hk=>trivial)⟩,⟨by refine zj ?_;refine blk_far ?_ NB86_84.out _;refine zj ?_;exact BK86.out⟩,⟨by refine zj ?_;refine blk_far ?_ NB87_84.out _;refine zj ?_;exact BK87.out⟩,⟨by refine zj ?_;refine blk_put (cs:=#[.slice Ao14 x83_1.length co14,.slice none 0 0]) ?_ 0 _ rfl;refine zj ?_;exact BK84.out⟩,⟨zv3 HB GE86 GE87 GE84⟩⟩
     ·have H':=zA H;clear H;have hnb20:=NB84_86.out;have hnc20:=NB86_84.out;have hnb21:=NB84_87.out;have hnc21:=NB87_84.out;have hcz22_0:=zc0 BK84;have hcz22_1:=zc1 BK84;have hfz22_0:=zf BK84;obtain ⟨Ao23,co23,eo23⟩:=Kd.R_slice HO_83.out;subst eo23;have hnb24:=NB86_87.out;have hnc24:=NB87_86.out;have hcz25_0:=zc0 BK86;have hcz25_1:=zc1 BK86;have hfz25_0:=zf BK86
      go_wp2
      go_roundg k1
      case measure=>have:=HK1.out;omega
      case rel=>exact ⟨(wrap64 (x4_1+1)),(x83_1),(.slice Ao23 x83_1.length co23),zT,H',⟨by have:=HK1.out;omega⟩,⟨by refine zr ?_;exact HO_83.out⟩,⟨by refine zj ?_;exact BK86.out⟩,⟨by refine zj ?_;exact BK87.out⟩,⟨by refine zj ?_;exact BK84.out⟩,⟨zv3 HB GE86 GE87 GE84⟩⟩
    ·have c6b0:decide ((x83_1.length:Int)<6)=false:=decide_eq_false c6;have c6b1:decide (x83_1.length<6)=false:=decide_eq_false (by omega);clear c6;have H':=zA H;clear H;have hnb26:=NB84_86.out;have hnc26:=NB86_84.out;have hnb27:=NB84_87.out;have hnc27:=NB87_84.out;have hcz28_0:=zc0 BK84;have hcz28_1:=zc1 BK84;have hfz28_0:=zf BK84;obtain ⟨Ao29,co29,eo29⟩:=Kd.R_slice HO_83.out;subst eo29
     go_wp2
     go_loopg [5] k1 (fun kq v5 w'=>∃ (x5_2:Int) (x85_2:List Int) (u85:Value),v5=.int .i64 x5_2∧Aside0 (ancepsref38_Made.l1 kq x5_2 a0_0 a0_1 x83_1 x85_2=some (r1,r2))∧Aside0 (kq≤k1)∧Aside0 (Kd.R (Kd.int .i64) 3 w' w.heap.size (fun k_=>some k_≠(u85:Value).ownBlock) (.slice Ao29 x83_1.length co29) x83_1)∧Aside0 (Kd.R (Kd.int .i64) 3 w' w.heap.size (fun k_=>some k_≠((.slice Ao29 x83_1.length co29):Value).ownBlock) u85 x85_2)∧Aside0 (w'.heap[gb86]?=some (.cells #[.int .u32 a0_0,.int .u64 a0_1] 25 (0,0)))∧Aside0 (w'.heap[gb87]?=some (.cells #[(.slice none 0 0),(.slice none 0 0)] 29 (0,0)))∧Aside0 (w'.heap[gb84]?=some (.cells #[(.slice Ao29 x83_1.length co29),u85] 29 (0,0)))∧Aside0 (Below w.heap.size w w'))
     case atStart=>exact ⟨(0),(([]:List Int)),(.slice none 0 0),zT,H',⟨Nat.le_refl _⟩,⟨by refine zr ?_;exact Kd.R_mono HO_83.out (fun _ hk=>(by simp [Value.ownBlock]))⟩,⟨by first|exact Kd.R_nil _ _ _ _ _|exact Kd.N_nil _ _ _ _ _|exact Kd.V_nil _ _ _ _ _|exact Kd.Q_nil _ _ _ _ _|exact Kd.S_nil _ _ _ _ _⟩,⟨by refine zj ?_;exact BK86.out⟩,⟨by refine zj ?_;exact BK87.out⟩,⟨by refine zj ?_;exact BK84.out⟩,⟨zv3 HB GE86 GE87 GE84⟩⟩
     case round=>
      clear H'
      try clear c5
      try clear c5b0
      try clear c6
      try clear c6b0
      try clear c6b1
      try clear hcz28_0
      try clear hcz28_1
      try clear hfz28_0
      try clear hfz28_1
      obtain ⟨x5_2,x85_2,u85,rfl,HA,HK2,HO_83,HO_85,BK86,BK87,BK84,HB⟩:=hrel
      cases gk with
      | zero=>exact absurd HA.out (by simp [ancepsref38_Made.l1])
      | succ k2=>
       have H:=HA.out;clear HA;simp only [ancepsref38_Made.l1] at H;obtain ⟨ji30,hji30⟩:=zZ (shl .i64 1 (x83_1.length:Int))
       first|rw [hji30] at H|simp only [hji30] at H
       have hji30_:(IntKind.i64.wrap (1 * 2 ^ min (x83_1.length:Int).toNat 64))=ji30:=hji30;have hji30z:(x83_1.length:Int)≤64→(IntKind.i64.wrap (1 * 2 ^ (x83_1.length:Int).toNat))=ji30:=shl_small hji30;have hji30p:(IntKind.i64.wrap (1 * 2 ^ min x83_1.length 64))=ji30:=hji30_;have hji30q:(x83_1.length:Int)≤64→(IntKind.i64.wrap (1 * 2 ^ x83_1.length))=ji30:=hji30z
       have hji30r:(IntKind.i64.wrap (2 ^ min x83_1.length 64))=ji30:=by have h_:=hji30p;rw [Int.one_mul] at h_;exact h_
       have hji30s:(x83_1.length:Int)≤64→(IntKind.i64.wrap (2 ^ x83_1.length))=ji30:=fun hle_=>by have h_:=hji30q hle_;rw [Int.one_mul] at h_;exact h_
       have hji30u:(IntKind.i64.wrap (2 ^ min (x83_1.length:Int).toNat 64))=ji30:=by have h_:=hji30_;rw [Int.one_mul] at h_;exact h_
       have hji30v:(x83_1.length:Int)≤64→(IntKind.i64.wrap (2 ^ (x83_1.length:Int).toNat))=ji30:=fun hle_=>by have h_:=hji30z hle_;rw [Int.one_mul] at h_;exact h_
       have hji30y:(wrap64 (1 * 2 ^ min (x83_1.length:Int).toNat 64))=ji30:=(i64_w _).symm.trans hji30_
       have hji30x:(x83_1.length:Int)≤64→(wrap64 (1 * 2 ^ (x83_1.length:Int).toNat))=ji30:=fun h_=>(i64_w _).symm.trans (hji30z h_)
       rcases ifd H with ⟨c31b0,H⟩|⟨c31b0,H⟩
       ·obtain ⟨c32,H⟩:=if1 H;have c32b0:=eq_true c32;have c32b1:decide (0≤x5_2)=true:=decide_eq_true c32;clear c32;obtain ⟨ji33,hji33⟩:=zZ (shr .u64 a0_1 x5_2)
        first|rw [hji33] at H|simp only [hji33] at H
        have hji33_:(a0_1 / 2 ^ min x5_2.toNat 64)=ji33:=hji33;have hji33z:x5_2≤64→(a0_1 / 2 ^ x5_2.toNat)=ji33:=shr_small hji33
        rcases ife H with ⟨c34b0,c34b1,H⟩|⟨c34,c34b0,c34b1,H⟩
        ·obtain ⟨c35,H⟩:=if1 H;have LMc35:=zA c35;clear c35
         first|(replace H:=zyb (x85_2++[x5_2]) H;obtain ⟨y95,Ny95,H⟩:=H)|(obtain ⟨y95,hy95⟩:=zY (x85_2++[x5_2]);(try rw (occs:=.pos [1]) [← hy95] at H);have Ny95:=zA hy95;clear hy95)
         have H':=zA H;clear H;have hnb36:=NB84_86.out;have hnc36:=NB86_84.out;have hnb37:=NB84_87.out;have hnc37:=NB87_84.out;have hcz38_0:=zc0 BK84;have hcz38_1:=zc1 BK84;have hfz38_0:=zf BK84;have hnb39:=NB86_87.out;have hnc39:=NB87_86.out;have hcz40_0:=zc0 BK86;have hcz40_1:=zc1 BK86;have hfz40_0:=zf BK86
         go_wp2_with (first|((with_reducible refine gate_builtin (b:=.append) (xs:=#[.tmp 43,.tmp 45]) rfl ?_);(try (refine gate_guard (by rfl) ?_;dsimp only));at_builtin;refine Kd.R_append (Kd.int .i64) (w0:=w) w.heap.size rfl (.tmp 43) (.tmp 45) 27 3 (.int .i64 0) 8 rfl Try.underlying27 info3 rfl (by decide) (by omega) u85 x85_2 x5_2 [.int .i64 x5_2] (fun k_=>some k_≠(.slice Ao29 x83_1.length co29:Value).ownBlock) (fun _=>False) rfl rfl ?aP (fun _ hk=>hk.elim) ?aF ?aO ?aB ?aS ?aL ?_;(case aP=>exact rfl);(case aB=>exact zB);(case aF=>exact (fun k_ hk=>Kd.fresh' (Kd.R_lt (zR HO_83)) k_ hk));(case aO=>exact (zR HO_85));(case aS=>exact (below_size zB));(case aL=>have:=LMc35.out;omega);intro v453 w41 ho hb hg hat;rw [← Ny95.out] at ho;have HO454:=zA (ho);replace HO_83:=zA (Kd.R_after (ok:=(fun _=>True)) (by refine zr ?_;exact Kd.R_mono HO_83.out (fun _ hk=>⟨trivial,hk⟩)) hg hat);replace BK86:=zA (blk_grown (g:=gb86) (o:=.cells #[.int .u32 a0_0,.int .u64 a0_1] 25 (0,0)) (zk BK86) hg (Kd.R_ne HO_85.out BK86.out (by decide)));replace BK87:=zA (blk_grown (g:=gb87) (o:=.cells #[.slice none 0 0,.slice none 0 0] 29 (0,0)) (zk BK87) hg (Kd.R_ne HO_85.out BK87.out (by decide)));replace BK84:=zA (blk_grown (g:=gb84) (o:=.cells #[.slice Ao29 x83_1.length co29,u85] 29 (0,0)) (zk BK84) hg (Kd.R_ne HO_85.out BK84.out (by decide)));replace HB:=zA (hb);clear HO_85;clear ho hb hg hat;obtain ⟨Ao42,co42,eo42⟩:=Kd.R_slice HO454.out;subst eo42;have hcz43_0:=zc0 BK84;have hcz43_1:=zc1 BK84;have hfz43_0:=zf BK84))
         go_roundg k2
         case measure=>have:=HK1.out;have:=HK2.out;omega
         case rel=>exact ⟨(wrap64 (x5_2+1)),(y95),(.slice Ao42 y95.length co42),zT,H',⟨by have:=HK1.out;have:=HK2.out;omega⟩,⟨by refine zr ?_;exact Kd.R_mono (Kd.R_far (p:=⟨gb84,1,none⟩) (Kd.R_types HO_83.out BK84.out (by decide)) (fun _ hk=>hk.2) (.slice Ao42 y95.length co42)) (fun _ hk=>hk.1.2)⟩,⟨by refine zr ?_;exact Kd.R_mono (Kd.R_far (p:=⟨gb84,1,none⟩) (Kd.R_types HO454.out BK84.out (by decide)) (fun _ hk=>hk.2) (.slice Ao42 y95.length co42)) (fun _ hk=>hk.1)⟩,⟨by refine zj ?_;refine blk_far ?_ NB86_84.out _;refine zj ?_;exact BK86.out⟩,⟨by refine zj ?_;refine blk_far ?_ NB87_84.out _;refine zj ?_;exact BK87.out⟩,⟨by refine zj ?_;refine blk_put (cs:=#[.slice Ao29 x83_1.length co29,u85]) ?_ 1 _ rfl;refine zj ?_;exact BK84.out⟩,⟨zv3 HB GE86 GE87 GE84⟩⟩
        ·have H':=zA H;clear H;have hnb44:=NB84_86.out;have hnc44:=NB86_84.out;have hnb45:=NB84_87.out;have hnc45:=NB87_84.out;have hcz46_0:=zc0 BK84;have hcz46_1:=zc1 BK84;have hfz46_0:=zf BK84;have hnb47:=NB86_87.out;have hnc47:=NB87_86.out;have hcz48_0:=zc0 BK86;have hcz48_1:=zc1 BK86;have hfz48_0:=zf BK86
         go_wp2
         go_roundg k2
         case measure=>have:=HK1.out;have:=HK2.out;omega
         case rel=>exact ⟨(wrap64 (x5_2+1)),(x85_2),(u85),zT,H',⟨by have:=HK1.out;have:=HK2.out;omega⟩,⟨by refine zr ?_;exact HO_83.out⟩,⟨by refine zr ?_;exact HO_85.out⟩,⟨by refine zj ?_;exact BK86.out⟩,⟨by refine zj ?_;exact BK87.out⟩,⟨by refine zj ?_;exact BK84.out⟩,⟨zv3 HB GE86 GE87 GE84⟩⟩
       ·simp only [Option.some.injEq,Prod.mk.injEq] at H;obtain ⟨rfl,rfl⟩:=H;have hnb49:=NB84_86.out;have hnc49:=NB86_84.out;have hnb50:=NB84_87.out;have hnc50:=NB87_84.out;have hcz51_0:=zc0 BK84;have hcz51_1:=zc1 BK84;have hfz51_0:=zf BK84;have hnb52:=NB87_86.out;have hnc52:=NB86_87.out;have hcz53_0:=zc0 BK87;have hcz53_1:=zc1 BK87;have hfz53_0:=zf BK87;obtain ⟨Ao54,co54,eo54⟩:=Kd.R_slice HO_85.out;subst eo54
        go_wp2
        refine bodyPost_ret (results_cell_row rfl _ _ gb87 29 #[.slice Ao29 x83_1.length co29,.slice Ao54 x85_2.length co54] (0,0) _ rfl (by refine zj ?_;refine blk_put (cs:=#[.slice Ao29 x83_1.length co29,.slice none 0 0]) ?_ 1 _ rfl;refine zj ?_;refine blk_put (cs:=#[.slice none 0 0,.slice none 0 0]) ?_ 0 _ rfl;refine zj ?_;exact BK87.out) Try.underlying29 rfl zK) rfl ?_;exact ⟨_,_,by first|rfl|(simp [errW_none,errW_some] <;> rfl)|(simp only [← hji30];first|rfl|(simp [errW_none,errW_some] <;> rfl))|(simp [*,errW_none,errW_some] <;> rfl),by refine zr ?_;exact Kd.R_mono (Kd.R_far (p:=⟨gb87,1,none⟩) (Kd.R_far (p:=⟨gb87,0,none⟩) (Kd.R_types HO_83.out BK87.out (by decide)) (fun _ hk=>hk.2) (.slice Ao29 x83_1.length co29)) (fun _ hk=>hk.2) (.slice Ao54 x85_2.length co54)) (fun _ hk=>hk.1),by refine zr ?_;exact Kd.R_mono (Kd.R_far (p:=⟨gb87,1,none⟩) (Kd.R_far (p:=⟨gb87,0,none⟩) (Kd.R_types HO_85.out BK87.out (by decide)) (fun _ hk=>hk.2) (.slice Ao29 x83_1.length co29)) (fun _ hk=>hk.2) (.slice Ao54 x85_2.length co54)) (fun _ hk=>hk.1),zv3 HB GE86 GE87 GE84⟩
   ·have H':=zA H;clear H
    go_wp2
    go_loopg [5] k1 (fun kq v5 w'=>∃ (x5_2:Int) (x85_2:List Int) (u85:Value),v5=.int .i64 x5_2∧Aside0 (ancepsref38_Made.l1 kq x5_2 a0_0 a0_1 x83_1 x85_2=some (r1,r2))∧Aside0 (kq≤k1)∧Aside0 (Kd.R (Kd.int .i64) 3 w' w.heap.size (fun k_=>some k_≠(u85:Value).ownBlock) u83 x83_1)∧Aside0 (Kd.R (Kd.int .i64) 3 w' w.heap.size (fun k_=>some k_≠(u83:Value).ownBlock) u85 x85_2)∧Aside0 (w'.heap[gb86]?=some (.cells #[.int .u32 a0_0,.int .u64 a0_1] 25 (0,0)))∧Aside0 (w'.heap[gb87]?=some (.cells #[(.slice none 0 0),(.slice none 0 0)] 29 (0,0)))∧Aside0 (w'.heap[gb84]?=some (.cells #[u83,u85] 29 (0,0)))∧Aside0 (Below w.heap.size w w'))
    case atStart=>exact ⟨(0),(([]:List Int)),(.slice none 0 0),zT,H',⟨Nat.le_refl _⟩,⟨by refine zr ?_;exact Kd.R_mono HO_83.out (fun _ hk=>(by simp [Value.ownBlock]))⟩,⟨by first|exact Kd.R_nil _ _ _ _ _|exact Kd.N_nil _ _ _ _ _|exact Kd.V_nil _ _ _ _ _|exact Kd.Q_nil _ _ _ _ _|exact Kd.S_nil _ _ _ _ _⟩,⟨by refine zj ?_;exact BK86.out⟩,⟨by refine zj ?_;exact BK87.out⟩,⟨by refine zj ?_;exact BK84.out⟩,⟨zv3 HB GE86 GE87 GE84⟩⟩
    case round=>
     clear H'
     try clear c5
     try clear c5b0
     obtain ⟨x5_2,x85_2,u85,rfl,HA,HK2,HO_83,HO_85,BK86,BK87,BK84,HB⟩:=hrel
     cases gk with
     | zero=>exact absurd HA.out (by simp [ancepsref38_Made.l1])
     | succ k2=>
      have H:=HA.out;clear HA;simp only [ancepsref38_Made.l1] at H;obtain ⟨ji55,hji55⟩:=zZ (shl .i64 1 (x83_1.length:Int))
      first|rw [hji55] at H|simp only [hji55] at H
      have hji55_:(IntKind.i64.wrap (1 * 2 ^ min (x83_1.length:Int).toNat 64))=ji55:=hji55;have hji55z:(x83_1.length:Int)≤64→(IntKind.i64.wrap (1 * 2 ^ (x83_1.length:Int).toNat))=ji55:=shl_small hji55;have hji55p:(IntKind.i64.wrap (1 * 2 ^ min x83_1.length 64))=ji55:=hji55_;have hji55q:(x83_1.length:Int)≤64→(IntKind.i64.wrap (1 * 2 ^ x83_1.length))=ji55:=hji55z
      have hji55r:(IntKind.i64.wrap (2 ^ min x83_1.length 64))=ji55:=by have h_:=hji55p;rw [Int.one_mul] at h_;exact h_
      have hji55s:(x83_1.length:Int)≤64→(IntKind.i64.wrap (2 ^ x83_1.length))=ji55:=fun hle_=>by have h_:=hji55q hle_;rw [Int.one_mul] at h_;exact h_
      have hji55u:(IntKind.i64.wrap (2 ^ min (x83_1.length:Int).toNat 64))=ji55:=by have h_:=hji55_;rw [Int.one_mul] at h_;exact h_
      have hji55v:(x83_1.length:Int)≤64→(IntKind.i64.wrap (2 ^ (x83_1.length:Int).toNat))=ji55:=fun hle_=>by have h_:=hji55z hle_;rw [Int.one_mul] at h_;exact h_
      have hji55y:(wrap64 (1 * 2 ^ min (x83_1.length:Int).toNat 64))=ji55:=(i64_w _).symm.trans hji55_
      have hji55x:(x83_1.length:Int)≤64→(wrap64 (1 * 2 ^ (x83_1.length:Int).toNat))=ji55:=fun h_=>(i64_w _).symm.trans (hji55z h_)
      rcases ifd H with ⟨c56b0,H⟩|⟨c56b0,H⟩
      ·obtain ⟨c57,H⟩:=if1 H;have c57b0:=eq_true c57;have c57b1:decide (0≤x5_2)=true:=decide_eq_true c57;clear c57;obtain ⟨ji58,hji58⟩:=zZ (shr .u64 a0_1 x5_2)
       first|rw [hji58] at H|simp only [hji58] at H
       have hji58_:(a0_1 / 2 ^ min x5_2.toNat 64)=ji58:=hji58;have hji58z:x5_2≤64→(a0_1 / 2 ^ x5_2.toNat)=ji58:=shr_small hji58
       rcases ife H with ⟨c59b0,c59b1,H⟩|⟨c59,c59b0,c59b1,H⟩
       ·obtain ⟨c60,H⟩:=if1 H;have LMc60:=zA c60;clear c60
        first|(replace H:=zyb (x85_2++[x5_2]) H;obtain ⟨y95,Ny95,H⟩:=H)|(obtain ⟨y95,hy95⟩:=zY (x85_2++[x5_2]);(try rw (occs:=.pos [1]) [← hy95] at H);have Ny95:=zA hy95;clear hy95)
        have H':=zA H;clear H;have hnb61:=NB84_86.out;have hnc61:=NB86_84.out;have hnb62:=NB84_87.out;have hnc62:=NB87_84.out;have hcz63_0:=zc0 BK84;have hcz63_1:=zc1 BK84;have hfz63_0:=zf BK84;obtain ⟨Ao64,co64,eo64⟩:=Kd.R_slice HO_83.out;subst eo64;have hnb65:=NB86_87.out;have hnc65:=NB87_86.out;have hcz66_0:=zc0 BK86;have hcz66_1:=zc1 BK86;have hfz66_0:=zf BK86
        go_wp2_with (first|((with_reducible refine gate_builtin (b:=.append) (xs:=#[.tmp 43,.tmp 45]) rfl ?_);(try (refine gate_guard (by rfl) ?_;dsimp only));at_builtin;refine Kd.R_append (Kd.int .i64) (w0:=w) w.heap.size rfl (.tmp 43) (.tmp 45) 27 3 (.int .i64 0) 8 rfl Try.underlying27 info3 rfl (by decide) (by omega) u85 x85_2 x5_2 [.int .i64 x5_2] (fun k_=>some k_≠(.slice Ao64 x83_1.length co64:Value).ownBlock) (fun _=>False) rfl rfl ?aP (fun _ hk=>hk.elim) ?aF ?aO ?aB ?aS ?aL ?_;(case aP=>exact rfl);(case aB=>exact zB);(case aF=>exact (fun k_ hk=>Kd.fresh' (Kd.R_lt (zR HO_83)) k_ hk));(case aO=>exact (zR HO_85));(case aS=>exact (below_size zB));(case aL=>have:=LMc60.out;omega);intro v453 w67 ho hb hg hat;rw [← Ny95.out] at ho;have HO454:=zA (ho);replace HO_83:=zA (Kd.R_after (ok:=(fun _=>True)) (by refine zr ?_;exact Kd.R_mono HO_83.out (fun _ hk=>⟨trivial,hk⟩)) hg hat);replace BK86:=zA (blk_grown (g:=gb86) (o:=.cells #[.int .u32 a0_0,.int .u64 a0_1] 25 (0,0)) (zk BK86) hg (Kd.R_ne HO_85.out BK86.out (by decide)));replace BK87:=zA (blk_grown (g:=gb87) (o:=.cells #[.slice none 0 0,.slice none 0 0] 29 (0,0)) (zk BK87) hg (Kd.R_ne HO_85.out BK87.out (by decide)));replace BK84:=zA (blk_grown (g:=gb84) (o:=.cells #[.slice Ao64 x83_1.length co64,u85] 29 (0,0)) (zk BK84) hg (Kd.R_ne HO_85.out BK84.out (by decide)));replace HB:=zA (hb);clear HO_85;clear ho hb hg hat;obtain ⟨Ao68,co68,eo68⟩:=Kd.R_slice HO454.out;subst eo68;have hcz69_0:=zc0 BK84;have hcz69_1:=zc1 BK84;have hfz69_0:=zf BK84))
        go_roundg k2
        case measure=>have:=HK1.out;have:=HK2.out;omega
        case rel=>exact ⟨(wrap64 (x5_2+1)),(y95),(.slice Ao68 y95.length co68),zT,H',⟨by have:=HK1.out;have:=HK2.out;omega⟩,⟨by refine zr ?_;exact Kd.R_mono (Kd.R_far (p:=⟨gb84,1,none⟩) (Kd.R_types HO_83.out BK84.out (by decide)) (fun _ hk=>hk.2) (.slice Ao68 y95.length co68)) (fun _ hk=>hk.1.2)⟩,⟨by refine zr ?_;exact Kd.R_mono (Kd.R_far (p:=⟨gb84,1,none⟩) (Kd.R_types HO454.out BK84.out (by decide)) (fun _ hk=>hk.2) (.slice Ao68 y95.length co68)) (fun _ hk=>hk.1)⟩,⟨by refine zj ?_;refine blk_far ?_ NB86_84.out _;refine zj ?_;exact BK86.out⟩,⟨by refine zj ?_;refine blk_far ?_ NB87_84.out _;refine zj ?_;exact BK87.out⟩,⟨by refine zj ?_;refine blk_put (cs:=#[.slice Ao64 x83_1.length co64,u85]) ?_ 1 _ rfl;refine zj ?_;exact BK84.out⟩,⟨zv3 HB GE86 GE87 GE84⟩⟩
       ·have H':=zA H;clear H;have hnb70:=NB84_86.out;have hnc70:=NB86_84.out;have hnb71:=NB84_87.out;have hnc71:=NB87_84.out;have hcz72_0:=zc0 BK84;have hcz72_1:=zc1 BK84;have hfz72_0:=zf BK84;obtain ⟨Ao73,co73,eo73⟩:=Kd.R_slice HO_83.out;subst eo73;have hnb74:=NB86_87.out;have hnc74:=NB87_86.out;have hcz75_0:=zc0 BK86;have hcz75_1:=zc1 BK86;have hfz75_0:=zf BK86
        go_wp2
        go_roundg k2
        case measure=>have:=HK1.out;have:=HK2.out;omega
        case rel=>exact ⟨(wrap64 (x5_2+1)),(x85_2),(u85),zT,H',⟨by have:=HK1.out;have:=HK2.out;omega⟩,⟨by refine zr ?_;exact HO_83.out⟩,⟨by refine zr ?_;exact HO_85.out⟩,⟨by refine zj ?_;exact BK86.out⟩,⟨by refine zj ?_;exact BK87.out⟩,⟨by refine zj ?_;exact BK84.out⟩,⟨zv3 HB GE86 GE87 GE84⟩⟩
      ·simp only [Option.some.injEq,Prod.mk.injEq] at H;obtain ⟨rfl,rfl⟩:=H;have hnb76:=NB84_86.out;have hnc76:=NB86_84.out;have hnb77:=NB84_87.out;have hnc77:=NB87_84.out;have hcz78_0:=zc0 BK84;have hcz78_1:=zc1 BK84;have hfz78_0:=zf BK84;obtain ⟨Ao79,co79,eo79⟩:=Kd.R_slice HO_83.out;subst eo79;have hnb80:=NB87_86.out;have hnc80:=NB86_87.out;have hcz81_0:=zc0 BK87;have hcz81_1:=zc1 BK87;have hfz81_0:=zf BK87;obtain ⟨Ao82,co82,eo82⟩:=Kd.R_slice HO_85.out;subst eo82
       go_wp2
       refine bodyPost_ret (results_cell_row rfl _ _ gb87 29 #[.slice Ao79 x83_1.length co79,.slice Ao82 x85_2.length co82] (0,0) _ rfl (by refine zj ?_;refine blk_put (cs:=#[.slice Ao79 x83_1.length co79,.slice none 0 0]) ?_ 1 _ rfl;refine zj ?_;refine blk_put (cs:=#[.slice none 0 0,.slice none 0 0]) ?_ 0 _ rfl;refine zj ?_;exact BK87.out) Try.underlying29 rfl zK) rfl ?_;exact ⟨_,_,by first|rfl|(simp [errW_none,errW_some] <;> rfl)|(simp only [← hji55];first|rfl|(simp [errW_none,errW_some] <;> rfl))|(simp [*,errW_none,errW_some] <;> rfl),by refine zr ?_;exact Kd.R_mono (Kd.R_far (p:=⟨gb87,1,none⟩) (Kd.R_far (p:=⟨gb87,0,none⟩) (Kd.R_types HO_83.out BK87.out (by decide)) (fun _ hk=>hk.2) (.slice Ao79 x83_1.length co79)) (fun _ hk=>hk.2) (.slice Ao82 x85_2.length co82)) (fun _ hk=>hk.1),by refine zr ?_;exact Kd.R_mono (Kd.R_far (p:=⟨gb87,1,none⟩) (Kd.R_far (p:=⟨gb87,0,none⟩) (Kd.R_types HO_85.out BK87.out (by decide)) (fun _ hk=>hk.2) (.slice Ao79 x83_1.length co79)) (fun _ hk=>hk.2) (.slice Ao82 x85_2.length co82)) (fun _ hk=>hk.1),zv3 HB GE86 GE87 GE84⟩
def ancepsref38_in.l0:Nat→List Int→Int→Int→Option (Bool)
 | 0,_,_,_=>none
 | k+1,x0,x1,x5=>if x5<(x0.length:Int) then (if 0≤x5 then (if (rd x0 x5)=x1 then (some true) else (ancepsref38_in.l0 k x0 x1 (wrap64 (x5+1)))) else (none)) else (some false)
def ancepsref38_in.f (k:Nat) (l0:List Int) (a1:Int):Option (Bool):=ancepsref38_in.l0 k l0 a1 0
set_option maxHeartbeats 8000000 in
set_option maxRecDepth 100000 in
theorem ancepsref38_in.calls (k:Nat) (A0:Option Addr) (c0:Nat) (l0:List Int) (a1:Int) (r:Bool) (w:World) (hr0:Kd.C (Kd.int .i64) w A0 l0.length l0) (hc0:l0.length≤c0) (h:ancepsref38_in.f k l0 a1=some r) :
  Calls Try.prog 12 #[.slice A0 l0.length c0,.int .i64 a1] w fun e w'=>e=.returned (.bool r)∧Drawn0 w w':=by
 have HR0:=zA hr0;have HC0:=zA hc0;clear hr0 hc0;have H:(ancepsref38_in.l0 k l0 a1 0)=some r:=h;clear h;have H':=zA H;clear H
 go_enter Try.func12,Try.ntmps12
 go_wp2
 go_loopg [5] k (fun kq v5 w'=>∃ (x5_1:Int),v5=.int .i64 x5_1∧Aside0 (ancepsref38_in.l0 kq l0 a1 x5_1=some r)∧Aside0 (kq≤k)∧Drawn0 w w')
 case atStart=>exact ⟨(0),zT,H',⟨Nat.le_refl _⟩,by repeat (first|exact Drawn0.refl _|apply Drawn0.step)⟩
 case round=>
  clear H';obtain ⟨x5_1,rfl,HA,HK1,⟨m1,rfl⟩⟩:=hrel
  cases gk with
  | zero=>exact absurd HA.out (by simp [ancepsref38_in.l0])
  | succ k1=>
   have H:=HA.out;clear HA;simp only [ancepsref38_in.l0] at H
   rcases ifd H with ⟨c3b0,H⟩|⟨c3b0,H⟩
   ·obtain ⟨c4b0,H⟩:=ifd1 H
    rcases ife H with ⟨c5b0,c5b1,H⟩|⟨c5,c5b0,c5b1,H⟩
    ·obtain rfl:=Option.some.inj H;obtain ⟨p97,q97,ad97,e97,hx97_0⟩:=zp (Kd.at_int HR0.out x5_1)
     cases e97
     replace p97:=eq_true p97;replace q97:=eq_true q97
     go_wp2
     go_ret
     exact ⟨by first|rfl|(simp;done)|(simp [*];done),by repeat (first|exact Drawn0.refl _|apply Drawn0.step)⟩
    ·have H':=zA H;clear H;obtain ⟨p97,q97,ad97,e97,hx97_0⟩:=zp (Kd.at_int HR0.out x5_1)
     cases e97
     replace p97:=eq_true p97;replace q97:=eq_true q97
     go_wp2
     go_roundg k1
     case measure=>have:=HK1.out;omega
     case rel=>exact ⟨(wrap64 (x5_1+1)),zT,H',⟨by have:=HK1.out;omega⟩,by repeat (first|exact Drawn0.refl _|apply Drawn0.step)⟩
   ·obtain rfl:=Option.some.inj H
    go_wp2
    go_ret
    exact ⟨by first|rfl|(simp;done)|(simp [*];done),by repeat (first|exact Drawn0.refl _|apply Drawn0.step)⟩
def ancepsref38_Both.l0:Nat→List Int→List Int→List Int→Int→Option (List Int)
 | 0,_,_,_,_=>none
 | k+1,x0,x1,x5,x6=>if x6<24 then ((ancepsref38_in.f k x0 x6).bind fun t456=>(if t456=true then (if x5.length<17592186044416 then (ancepsref38_Both.l0 k x0 x1 (x5++[x6]) (wrap64 (x6+1))) else (none)) else ((ancepsref38_in.f k x1 x6).bind fun t460=>(if t460=true then (if x5.length<17592186044416 then (ancepsref38_Both.l0 k x0 x1 (x5++[x6]) (wrap64 (x6+1))) else (none)) else (ancepsref38_Both.l0 k x0 x1 x5 (wrap64 (x6+1))))))) else (some x5)
def ancepsref38_Both.f (k:Nat) (l0:List Int) (l1:List Int):Option (List Int):=ancepsref38_Both.l0 k l0 l1 ([]:List Int) 0
set_option maxHeartbeats 8000000 in
set_option maxRecDepth 100000 in
theorem ancepsref38_Both.calls (k:Nat) (A0:Option Addr) (c0:Nat) (l0:List Int) (A1:Option Addr) (c1:Nat) (l1:List Int) (r:List Int) (w:World) (hr0:Kd.C (Kd.int .i64) w A0 l0.length l0) (hc0:l0.length≤c0) (hr1:Kd.C (Kd.int .i64) w A1 l1.length l1) (hc1:l1.length≤c1) (h:ancepsref38_Both.f k l0 l1=some r) :
  Calls Try.prog 6 #[.slice A0 l0.length c0,.slice A1 l1.length c1] w fun e w'=>∃ v0_:Value,e=.returned (v0_)∧Kd.R (Kd.int .i64) 3 w' w.heap.size (fun _=>True) v0_ r∧Below w.heap.size w w':=by
 have HR0:=zA hr0;have HC0:=zA hc0;clear hr0 hc0;have HR1:=zA hr1;have HC1:=zA hc1;clear hr1 hc1;have HB:=zA (Below.refl w.heap.size w);have H:(ancepsref38_Both.l0 k l0 l1 ([]:List Int) 0)=some r:=h;clear h;have H':=zA H;clear H
 go_enter Try.func6,Try.ntmps6
 go_wp2
 go_loopg [5,6] k (fun kq v5 v6 w'=>∃ (x5_1:List Int) (x6_1:Int),v6=.int .i64 x6_1∧Aside0 (ancepsref38_Both.l0 kq l0 l1 x5_1 x6_1=some r)∧Aside0 (kq≤k)∧Aside0 (Kd.R (Kd.int .i64) 3 w' w.heap.size (fun _=>True) v5 x5_1)∧Aside0 (Below w.heap.size w w'))
 case atStart=>exact ⟨(([]:List Int)),(0),zT,H',⟨Nat.le_refl _⟩,⟨by first|exact Kd.R_nil _ _ _ _ _|exact Kd.N_nil _ _ _ _ _|exact Kd.V_nil _ _ _ _ _|exact Kd.Q_nil _ _ _ _ _|exact Kd.S_nil _ _ _ _ _⟩,⟨zv0 HB⟩⟩
 case round=>
  clear H';obtain ⟨x5_1,x6_1,rfl,HA,HK1,HO_5,HB⟩:=hrel
  cases gk with
  | zero=>exact absurd HA.out (by simp [ancepsref38_Both.l0])
  | succ k1=>
   have H:=HA.out;clear HA;simp only [ancepsref38_Both.l0] at H
   rcases ifd H with ⟨c3b0,H⟩|⟨c3b0,H⟩
   ·obtain ⟨t456,A4,H⟩:=zo H
    by_cases c5:t456=true
    ·subst c5
     have H1:(if x5_1.length<17592186044416 then (ancepsref38_Both.l0 k1 l0 l1 (x5_1++[x6_1]) (wrap64 (x6_1+1))) else (none))=some r:=by rw [if_pos rfl] at H;exact H
     clear H;have H:=H1;clear H1;have HC6:=zA H;clear H
     go_upto_if 18 with (first|((with_reducible refine gate_callee (f:=12) rfl ?_);refine zgo 13 Try.func12 #[.slice A0 l0.length c0,.int .i64 x6_1] ?_;(with_reducible refine (ancepsref38_in.calls k1 _ _ l0 x6_1 true _ (zD HR0 HB) HC0.out A4.out).mono ?_);rintro e w' ⟨rfl,⟨nd,rfl⟩⟩;refine ⟨_,rfl,?_⟩))
     (try simp only [Act.put,zi,zs,zt]);have H:=HC6.out;clear HC6;obtain ⟨c7,H⟩:=if1 H;have LMc7:=zA c7;clear c7
     first|(replace H:=zyb (x5_1++[x6_1]) H;obtain ⟨y457,Ny457,H⟩:=H)|(obtain ⟨y457,hy457⟩:=zY (x5_1++[x6_1]);(try rw (occs:=.pos [1]) [← hy457] at H);have Ny457:=zA hy457;clear hy457)
     have H':=zA H;clear H
     go_wp2_with (first|((with_reducible refine gate_builtin (b:=.append) (xs:=#[.tmp 19,.tmp 21]) rfl ?_);at_builtin;refine Kd.R_append (Kd.int .i64) (w0:=w) w.heap.size rfl (.tmp 19) (.tmp 21) 27 3 (.int .i64 0) 8 rfl Try.underlying27 info3 rfl (by decide) (by omega) u5 x5_1 x6_1 [.int .i64 x6_1] (fun _=>True) (fun _=>False) rfl rfl ?aP (fun _ hk=>hk.elim) ?aF ?aO ?aB ?aS ?aL ?_;(case aP=>exact rfl);(case aB=>exact zB);(case aF=>exact (fun _ _=>trivial));(case aO=>exact (zR HO_5));(case aS=>exact (below_size zB));(case aL=>have:=LMc7.out;omega);intro v458 w8 ho hb hg hat;rw [← Ny457.out] at ho;have HO459:=zA (ho);replace HB:=zA (hb);clear HO_5;clear ho hb hg hat))
     go_roundg k1
     case measure=>have:=HK1.out;omega
     case rel=>exact ⟨(y457),(wrap64 (x6_1+1)),zT,H',⟨by have:=HK1.out;omega⟩,⟨by refine zr ?_;exact HO459.out⟩,⟨zv0 HB⟩⟩
    ·replace c5:=Bool.eq_false_iff.mpr c5;subst c5
     have H1:((ancepsref38_in.f k1 l1 x6_1).bind fun t460=>(if t460=true then (if x5_1.length<17592186044416 then (ancepsref38_Both.l0 k1 l0 l1 (x5_1++[x6_1]) (wrap64 (x6_1+1))) else (none)) else (ancepsref38_Both.l0 k1 l0 l1 x5_1 (wrap64 (x6_1+1)))))=some r:=by rw [if_neg (show ¬ (false=true) by decide)] at H;exact H
     clear H;have H:=H1;clear H1;obtain ⟨t460,A9,H⟩:=zo H;have HC10:=zA H;clear H
     go_upto_if 18 with (first|((with_reducible refine gate_callee (f:=12) rfl ?_);refine zgo 13 Try.func12 #[.slice A0 l0.length c0,.int .i64 x6_1] ?_;(with_reducible refine (ancepsref38_in.calls k1 _ _ l0 x6_1 false _ (zD HR0 HB) HC0.out A4.out).mono ?_);rintro e w' ⟨rfl,⟨nd,rfl⟩⟩;refine ⟨_,rfl,?_⟩)|(go_at_call 12;(with_reducible refine (ancepsref38_in.calls k1 _ _ l1 x6_1 t460 _ ?side1 HC1.out A9.out).mono ?_);(case side1=>repeat (first|exact (Kd.C_below HR1.out zB)|(with_reducible refine Kd.C_alloc ?_ _)|(with_reducible refine Kd.C_drewN ?_ _)|(with_reducible refine Kd.C_drew ?_)));rintro e w' ⟨rfl,⟨nd,rfl⟩⟩))
     (try simp only [Act.put,zi,zs,zt]);have H:=HC10.out;clear HC10
     by_cases c11:t460=true
     ·subst c11
      have H1:(if x5_1.length<17592186044416 then (ancepsref38_Both.l0 k1 l0 l1 (x5_1++[x6_1]) (wrap64 (x6_1+1))) else (none))=some r:=by rw [if_pos rfl] at H;exact H
      clear H;have H:=H1;clear H1;obtain ⟨c12,H⟩:=if1 H;have LMc12:=zA c12;clear c12
      first|(replace H:=zyb (x5_1++[x6_1]) H;obtain ⟨y461,Ny461,H⟩:=H)|(obtain ⟨y461,hy461⟩:=zY (x5_1++[x6_1]);(try rw (occs:=.pos [1]) [← hy461] at H);have Ny461:=zA hy461;clear hy461)
      have H':=zA H;clear H
      go_wp2_with (first|((with_reducible refine gate_builtin (b:=.append) (xs:=#[.tmp 19,.tmp 21]) rfl ?_);at_builtin;refine Kd.R_append (Kd.int .i64) (w0:=w) w.heap.size rfl (.tmp 19) (.tmp 21) 27 3 (.int .i64 0) 8 rfl Try.underlying27 info3 rfl (by decide) (by omega) u5 x5_1 x6_1 [.int .i64 x6_1] (fun _=>True) (fun _=>False) rfl rfl ?aP (fun _ hk=>hk.elim) ?aF ?aO ?aB ?aS ?aL ?_;(case aP=>exact rfl);(case aB=>exact zB);(case aF=>exact (fun _ _=>trivial));(case aO=>exact (zR HO_5));(case aS=>exact (below_size zB));(case aL=>have:=LMc12.out;omega);intro v462 w13 ho hb hg hat;rw [← Ny461.out] at ho;have HO463:=zA (ho);replace HB:=zA (hb);clear HO_5;clear ho hb hg hat))
      go_roundg k1
      case measure=>have:=HK1.out;omega
      case rel=>exact ⟨(y461),(wrap64 (x6_1+1)),zT,H',⟨by have:=HK1.out;omega⟩,⟨by refine zr ?_;exact HO463.out⟩,⟨zv0 HB⟩⟩
     ·replace c11:=Bool.eq_false_iff.mpr c11;subst c11
      have H1:(ancepsref38_Both.l0 k1 l0 l1 x5_1 (wrap64 (x6_1+1)))=some r:=by rw [if_neg (show ¬ (false=true) by decide)] at H;exact H
      clear H;have H:=H1;clear H1;have H':=zA H;clear H
      go_wp2
      go_roundg k1
      case measure=>have:=HK1.out;omega
      case rel=>exact ⟨(x5_1),(wrap64 (x6_1+1)),zT,H',⟨by have:=HK1.out;omega⟩,⟨by refine zr ?_;exact HO_5.out⟩,⟨zv0 HB⟩⟩
   ·obtain rfl:=Option.some.inj H
    go_wp2
    go_ret
    exact ⟨_,ze,by refine zr ?_;exact HO_5.out,zv0 HB⟩
def table_Union_1.f (a0:Bool) (a1:Bool):Option (Bool):=if a0=true then (some true) else (some a1)
set_option maxHeartbeats 8000000 in
set_option maxRecDepth 100000 in
theorem table_Union_1.calls (a0:Bool) (a1:Bool) (r:Bool) (w:World) (h:table_Union_1.f a0 a1=some r) :
  Calls Try.prog 15 #[.bool a0,.bool a1] w fun e w'=>e=.returned (.bool r)∧Drawn0 w w':=by
 have H:(if a0=true then (some true) else (some a1))=some r:=h;clear h
 by_cases c3:a0=true
 ·subst c3
  have H1:(some true)=some r:=by rw [if_pos rfl] at H;exact H
  clear H;have H:=H1;clear H1;obtain rfl:=Option.some.inj H
  go_enter Try.func15,Try.ntmps15
  go_wp2
  go_ret
  exact ⟨by first|rfl|(simp;done)|(simp [*];done),by repeat (first|exact Drawn0.refl _|apply Drawn0.step)⟩
 ·replace c3:=Bool.eq_false_iff.mpr c3;subst c3
  have H1:(some a1)=some r:=by rw [if_neg (show ¬ (false=true) by decide)] at H;exact H
  clear H;have H:=H1;clear H1;obtain rfl:=Option.some.inj H
  go_enter Try.func15,Try.ntmps15
  go_wp2
  go_ret
  exact ⟨by first|rfl|(simp;done)|(simp [*];done),by repeat (first|exact Drawn0.refl _|apply Drawn0.step)⟩
def table_combine_1_table_Union_1.f (k:Nat) (a0:Int)  (l2_0:List Int) (l2_1:List Int) (l3_0:List Int) (l3_1:List Int):Option (Bool):=(table_has.f k l2_0 l2_1 a0).bind fun t90=>((table_has.f k l3_0 l3_1 a0).bind fun t94=>((table_Union_1.f t90 t94).bind fun t469=>(some t469)))
def table_combine_1_table_Union_1.T1:Bool×List (List Nat×List Nat):=(true,[([],[]),([],[]),([],[]),([1,2],[1,2]),([],[]),([],[]),([4,5,3],[4,5]),([0,3,6,6],[0,3,6]),([7,7,0,1,2,3,4,5,6,7],[7])])
def table_combine_1_table_Union_1.B1:List Nat:=[0,0,0,6,0,0,62,127,255]
theorem table_combine_1_table_Union_1.tab1:rtab .any (opsOf Try.f21 1)=table_combine_1_table_Union_1.T1:=by kernel_rfl
theorem table_combine_1_table_Union_1.bits1:waitsOk table_combine_1_table_Union_1.T1.2 table_combine_1_table_Union_1.B1=true:=by kernel_rfl
set_option maxHeartbeats 8000000 in
set_option maxRecDepth 100000 in
theorem table_combine_1_table_Union_1.calls (k:Nat) (a0:Int) (gp1_0:Nat)  (gp2_0:Nat) (A2_0:Option Addr) (c2_0:Nat) (l2_0:List Int) (A2_1:Option Addr) (c2_1:Nat) (l2_1:List Int) (gp3_0:Nat) (A3_0:Option Addr) (c3_0:Nat) (l3_0:List Int) (A3_1:Option Addr) (c3_1:Nat) (l3_1:List Int) (r:Bool) (w:World) (hb_gp1_0:w.heap[gp1_0]?=some (.cells #[.func (.func 15) #[] #[]] 42 (0,0))) (hr2_0:Kd.C (Kd.int .i64) w A2_0 l2_0.length l2_0) (hc2_0:l2_0.length≤c2_0) (hr2_1:Kd.C (Kd.int .i64) w A2_1 l2_1.length l2_1) (hc2_1:l2_1.length≤c2_1) (hb_gp2_0:w.heap[gp2_0]?=some (.cells #[.slice A2_0 l2_0.length c2_0,.slice A2_1 l2_1.length c2_1] 29 (0,0))) (hr3_0:Kd.C (Kd.int .i64) w A3_0 l3_0.length l3_0) (hc3_0:l3_0.length≤c3_0) (hr3_1:Kd.C (Kd.int .i64) w A3_1 l3_1.length l3_1) (hc3_1:l3_1.length≤c3_1) (hb_gp3_0:w.heap[gp3_0]?=some (.cells #[.slice A3_0 l3_0.length c3_0,.slice A3_1 l3_1.length c3_1] 29 (0,0))) (h:table_combine_1_table_Union_1.f k a0 l2_0 l2_1 l3_0 l3_1=some r) :
  Calls Try.prog 21 #[.int .i64 a0,.pointer (some ⟨gp1_0,0,none⟩),.pointer (some ⟨gp2_0,0,none⟩),.pointer (some ⟨gp3_0,0,none⟩)] w fun e w'=>e=.returned (.bool r)∧Below w.heap.size w w':=by
 have HR2_0:=zA hr2_0;have HC2_0:=zA hc2_0;clear hr2_0 hc2_0;have HR2_1:=zA hr2_1;have HC2_1:=zA hc2_1;clear hr2_1 hc2_1;have HR3_0:=zA hr3_0;have HC3_0:=zA hc3_0;clear hr3_0 hc3_0;have HR3_1:=zA hr3_1;have HC3_1:=zA hc3_1;clear hr3_1 hc3_1;have BK93:=zA hb_gp1_0;clear hb_gp1_0;have BK91:=zA hb_gp2_0;clear hb_gp2_0;have BK92:=zA hb_gp3_0;clear hb_gp3_0;have HB:=zA (Below.refl w.heap.size w);have H:((table_has.f k l2_0 l2_1 a0).bind fun t90=>((table_has.f k l3_0 l3_1 a0).bind fun t94=>((table_Union_1.f t90 t94).bind fun t469=>(some t469))))=some r:=h;clear h;obtain ⟨t90,A5,H⟩:=zo H;obtain ⟨t94,A6,H⟩:=zo H;obtain ⟨t469,A7,H⟩:=zo H;obtain rfl:=Option.some.inj H
 go_enter Try.func21,Try.ntmps21
 try go_wp2
 replace BK93:=zA (blk_drew BK93.out);replace BK91:=zA (blk_drew BK91.out);replace BK92:=zA (blk_drew BK92.out);replace HB:=zA (below_drew1 HB.out);refine start_ (n:=9) (S:=fun w'=>w'.cell? ⟨gp1_0,0,none⟩=some (.func (.func 15) #[] #[])∧w'.cell? ⟨gp2_0,0,none⟩=some (.slice A2_0 l2_0.length c2_0)∧w'.cell? ⟨gp2_0,1,none⟩=some (.slice A2_1 l2_1.length c2_1)∧w'.cell? ⟨gp3_0,0,none⟩=some (.slice A3_0 l3_0.length c3_0)∧w'.cell? ⟨gp3_0,1,none⟩=some (.slice A3_1 l3_1.length c3_1)) (ds:=[]) (bz 9 0) zK rfl rfl ⟨zc0 BK93,zc0 BK91,zc1 BK91,zc0 BK92,zc1 BK92⟩ (fun hHeld=>?_);refine with_tabW table_combine_1_table_Union_1.tab1 table_combine_1_table_Union_1.bits1 (fun HT_ HW_=>?_)
 generalize w.drew=w8 at BK93 BK91 BK92 HB hHeld ⊢
 refine zP 2 8 (bz 9 4) HT_ ?_;refine zP 5 11 (bz 9 36) HT_ ?_;refine zQ 0 6 (bz 9 37) HT_ HW_ hHeld ?_;refine zQ 1 7 (bz 9 39) HT_ HW_ hHeld ?_;refine zQ 4 10 (bz 9 55) HT_ HW_ hHeld ?_;refine one_ (i:=3) (N:=some 9) (bz 9 63) rfl rfl (one_of HT_.out zK) (by decide) (fun K hK=>?_);refine goes_ Try.func22 zK rfl #[.agg #[.slice A2_0 l2_0.length c2_0,.slice A2_1 l2_1.length c2_1],.int .i64 a0] (by rfl) rfl rfl zM ?_
 with_reducible refine (table_has.calls k _ _ l2_0 _ _ l2_1 a0 t90 _ ?side1 ?side2 ?side3 ?side4 A5.out).mono ?_
 (case side1=>exact zC (Kd.C_below HR2_0.out HB.out));(case side2=>exact HC2_0.out);(case side3=>exact zC (Kd.C_below HR2_1.out HB.out));(case side4=>exact HC2_1.out);rintro e w9 ⟨rfl,hb⟩;refine ⟨_,rfl,?_⟩;replace BK93:=zw BK93 hb;replace BK91:=zw BK91 hb;replace BK92:=zw BK92 hb;replace HB:=zu hb;(try clear hb);(try clear hb2);(try clear hk);(try clear hi);refine hK.out _ _ ⟨zc0 BK93,zc0 BK91,zc1 BK91,zc0 BK92,zc1 BK92⟩ (fun hHeld=>?_);clear hK K;refine norm_ (a':=?_) ?_ ?_;rotate_left
 ·show Act.put _ (some 9) _=_
  simp only [Act.put,zi,zs,zt,i64_w,i32_w];rfl
 refine one_ (i:=6) (N:=some 12) (bz 9 127) rfl rfl (one_of HT_.out zK) (by decide) (fun K hK=>?_);refine goes_ Try.func22 zK rfl #[.agg #[.slice A3_0 l3_0.length c3_0,.slice A3_1 l3_1.length c3_1],.int .i64 a0] (by rfl) rfl rfl zM ?_
 with_reducible refine (table_has.calls k _ _ l3_0 _ _ l3_1 a0 t94 _ ?side1 ?side2 ?side3 ?side4 A6.out).mono ?_
 (case side1=>exact zC (Kd.C_below HR3_0.out HB.out));(case side2=>exact HC3_0.out);(case side3=>exact zC (Kd.C_below HR3_1.out HB.out));(case side4=>exact HC3_1.out);rintro e w10 ⟨rfl,hb⟩;refine ⟨_,rfl,?_⟩;replace BK93:=zw BK93 hb;replace BK91:=zw BK91 hb;replace BK92:=zw BK92 hb;replace HB:=zu hb;(try clear hb);(try clear hb2);(try clear hk);(try clear hi);refine hK.out _ _ ⟨zc0 BK93,zc0 BK91,zc1 BK91,zc0 BK92,zc1 BK92⟩ (fun hHeld=>?_);clear hK K;refine norm_ (a':=?_) ?_ ?_;rotate_left
 ·show Act.put _ (some 12) _=_
  simp only [Act.put,zi,zs,zt,i64_w,i32_w];rfl
 refine one_ (i:=7) (N:=some 13) (bz 9 255) rfl rfl (one_of HT_.out zK) (by decide) (fun K hK=>?_);refine goesV_ Try.func15 zK rfl #[.bool t90,.bool t94] #[] (by rfl) rfl rfl (by rfl) zM ?_
 with_reducible refine (table_Union_1.calls t90 t94 t469 _ A7.out).mono ?_
 rintro e w' ⟨rfl,⟨nd,rfl⟩⟩;refine ⟨_,rfl,?_⟩;refine hK.out _ _ ⟨zc0 BK93,zc0 BK91,zc1 BK91,zc0 BK92,zc1 BK92⟩ (fun hHeld=>?_);clear hK K;refine norm_ (a':=?_) ?_ ?_;rotate_left
 ·show Act.put _ (some 13) _=_
  simp only [Act.put,zi,zs,zt,i64_w,i32_w];rfl
 refine zP 8 5 (bz 9 511) HT_ ?_;refine done_ (done_of HT_.out zK) ?_
 try go_wp2
 go_ret
 exact ⟨ze,zv0 HB⟩
def table_over_table_combine_1_table_Union_1.l0:Nat→List Int→Int→Int→List Int→List Int→List Int→List Int→List Int→List Int→Option (List Int×List Int)
 | 0,_,_,_,_,_,_,_,_,_=>none
 | k+1,x0,x12,x13,x104,x105,x106,x107,x96,x89=>if x13<x12 then ((table_assignment.f k x0 x13).bind fun t472=>((table_combine_1_table_Union_1.f k t472 x104 x105 x106 x107).bind fun t473=>(if t473=true then (if x89.length<17592186044416 then (table_over_table_combine_1_table_Union_1.l0 k x0 x12 (wrap64 (x13+1)) x104 x105 x106 x107 x96 (x89++[x13])) else (none)) else (table_over_table_combine_1_table_Union_1.l0 k x0 x12 (wrap64 (x13+1)) x104 x105 x106 x107 x96 x89)))) else (some (x96,x89))
def table_over_table_combine_1_table_Union_1.f (k:Nat) (l0:List Int) (l1_0:List Int) (l1_1:List Int) (l1_2:List Int) (l1_3:List Int):Option (List Int×List Int):=(slices_Clone_int_int.f l0).bind fun t94=>(table_over_table_combine_1_table_Union_1.l0 k l0 (shl .i64 1 (l0.length:Int)) 0 l1_0 l1_1 l1_2 l1_3 t94 ([]:List Int))
set_option maxHeartbeats 8000000 in
set_option maxRecDepth 100000 in
theorem table_over_table_combine_1_table_Union_1.calls (k:Nat) (A0:Option Addr) (c0:Nat) (l0:List Int) (gp1_0:Nat) (gp1_1:Nat) (gp1_2:Nat) (A1_0:Option Addr) (c1_0:Nat) (l1_0:List Int) (A1_1:Option Addr) (c1_1:Nat) (l1_1:List Int) (A1_2:Option Addr) (c1_2:Nat) (l1_2:List Int) (A1_3:Option Addr) (c1_3:Nat) (l1_3:List Int) (r1:List Int) (r2:List Int) (w:World) (hr0:Kd.C (Kd.int .i64) w A0 l0.length l0) (hc0:l0.length≤c0) (hr1_0:Kd.C (Kd.int .i64) w A1_0 l1_0.length l1_0) (hc1_0:l1_0.length≤c1_0) (hr1_1:Kd.C (Kd.int .i64) w A1_1 l1_1.length l1_1) (hc1_1:l1_1.length≤c1_1) (hr1_2:Kd.C (Kd.int .i64) w A1_2 l1_2.length l1_2) (hc1_2:l1_2.length≤c1_2) (hr1_3:Kd.C (Kd.int .i64) w A1_3 l1_3.length l1_3) (hc1_3:l1_3.length≤c1_3) (hb_gp1_0:w.heap[gp1_0]?=some (.cells #[.func (.func 15) #[] #[]] 42 (0,0))) (hb_gp1_1:w.heap[gp1_1]?=some (.cells #[.slice A1_0 l1_0.length c1_0,.slice A1_1 l1_1.length c1_1] 29 (0,0))) (hb_gp1_2:w.heap[gp1_2]?=some (.cells #[.slice A1_2 l1_2.length c1_2,.slice A1_3 l1_3.length c1_3] 29 (0,0))) (h:table_over_table_combine_1_table_Union_1.f k l0 l1_0 l1_1 l1_2 l1_3=some (r1,r2)) :
  Calls Try.prog 20 #[.slice A0 l0.length c0,.func (.func 21) #[] #[.pointer (some ⟨gp1_0,0,none⟩),.pointer (some ⟨gp1_1,0,none⟩),.pointer (some ⟨gp1_2,0,none⟩)]] w fun e w'=>∃ v0_ v1_:Value,e=.returned (.agg #[v0_,v1_])∧Kd.R (Kd.int .i64) 3 w' w.heap.size (fun k_=>some k_≠(v1_:Value).ownBlock) v0_ r1∧Kd.R (Kd.int .i64) 3 w' w.heap.size (fun k_=>some k_≠(v0_:Value).ownBlock) v1_ r2∧Below w.heap.size w w':=by
 have HR0:=zA hr0;have HC0:=zA hc0;clear hr0 hc0;have HR1_0:=zA hr1_0;have HC1_0:=zA hc1_0;clear hr1_0 hc1_0;have HR1_1:=zA hr1_1;have HC1_1:=zA hc1_1;clear hr1_1 hc1_1;have HR1_2:=zA hr1_2;have HC1_2:=zA hc1_2;clear hr1_2 hc1_2;have HR1_3:=zA hr1_3;have HC1_3:=zA hc1_3;clear hr1_3 hc1_3;have BK93:=zA hb_gp1_0;clear hb_gp1_0;have BK91:=zA hb_gp1_1;clear hb_gp1_1;have BK92:=zA hb_gp1_2;clear hb_gp1_2;have HB:=zA (Below.refl w.heap.size w);have H:((slices_Clone_int_int.f l0).bind fun t94=>(table_over_table_combine_1_table_Union_1.l0 k l0 (shl .i64 1 (l0.length:Int)) 0 l1_0 l1_1 l1_2 l1_3 t94 ([]:List Int)))=some (r1,r2):=h;clear h;obtain ⟨t94,A3,H⟩:=zo H;obtain ⟨ji4,hji4⟩:=zZ (shl .i64 1 (l0.length:Int))
 first|rw [hji4] at H|simp only [hji4] at H
 (try rw [hji4] at A3);have hji4_:(IntKind.i64.wrap (1 * 2 ^ min (l0.length:Int).toNat 64))=ji4:=hji4;have hji4z:(l0.length:Int)≤64→(IntKind.i64.wrap (1 * 2 ^ (l0.length:Int).toNat))=ji4:=shl_small hji4;have hji4p:(IntKind.i64.wrap (1 * 2 ^ min l0.length 64))=ji4:=hji4_;have hji4q:(l0.length:Int)≤64→(IntKind.i64.wrap (1 * 2 ^ l0.length))=ji4:=hji4z
 have hji4r:(IntKind.i64.wrap (2 ^ min l0.length 64))=ji4:=by have h_:=hji4p;rw [Int.one_mul] at h_;exact h_
 have hji4s:(l0.length:Int)≤64→(IntKind.i64.wrap (2 ^ l0.length))=ji4:=fun hle_=>by have h_:=hji4q hle_;rw [Int.one_mul] at h_;exact h_
 have hji4u:(IntKind.i64.wrap (2 ^ min (l0.length:Int).toNat 64))=ji4:=by have h_:=hji4_;rw [Int.one_mul] at h_;exact h_
 have hji4v:(l0.length:Int)≤64→(IntKind.i64.wrap (2 ^ (l0.length:Int).toNat))=ji4:=fun hle_=>by have h_:=hji4z hle_;rw [Int.one_mul] at h_;exact h_
 have hji4y:(wrap64 (1 * 2 ^ min (l0.length:Int).toNat 64))=ji4:=(i64_w _).symm.trans hji4_
 have hji4x:(l0.length:Int)≤64→(wrap64 (1 * 2 ^ (l0.length:Int).toNat))=ji4:=fun h_=>(i64_w _).symm.trans (hji4z h_)
 have H':=zA H;clear H
 go_enter Try.func20,Try.ntmps20
 go_wp2_with (first|((with_reducible refine gd 4 rfl ?_);refine zx #[.slice none 0 0,.slice none 0 0] 29 ?_;intro gb90 hg w5 BK90 hb GW90 HB1;have GE90:=GW90;have NB93_90:=zL hg BK93;have NB90_93:=zLs NB93_90;have NB91_90:=zL hg BK91;have NB90_91:=zLs NB91_90;have NB92_90:=zL hg BK92;have NB90_92:=zLs NB92_90;replace BK93:=zw BK93 hb;replace BK91:=zw BK91 hb;replace BK92:=zw BK92 hb;clear HB hb hg;have HB:=HB1;clear HB1)|((with_reducible refine gate_callee (f:=28) rfl ?_);refine zgo 8 Try.func28 #[.slice A0 l0.length c0] ?_;(with_reducible refine (slices_Clone_int_int.calls _ _ l0 t94 _ (zD HR0 HB) HC0.out A3.out).mono ?_);rintro e w6 ⟨v469,rfl,ho0,hb⟩;refine ⟨_,rfl,?_⟩;have HO470:=zA (Kd.R_lower ho0 (below_size zB));replace BK93:=zw BK93 hb;replace BK91:=zw BK91 hb;replace BK92:=zw BK92 hb;replace BK90:=zw BK90 hb;replace HB:=zu hb;clear hb;(try clear ho0);obtain ⟨Ao7,co7,eo7⟩:=Kd.R_slice HO470.out;subst eo7)|((with_reducible refine gd 5 rfl ?_);refine zx #[.slice none 0 0,.slice none 0 0] 29 ?_;intro gb88 hg w8 BK88 hb GW88 HB1;have GE88:=GW88;have NB93_88:=zL hg BK93;have NB88_93:=zLs NB93_88;have NB91_88:=zL hg BK91;have NB88_91:=zLs NB91_88;have NB92_88:=zL hg BK92;have NB88_92:=zLs NB92_88;have NB90_88:=zL hg BK90;have NB88_90:=zLs NB90_88;replace HO470:=zA (Kd.R_below (zR HO470) hb);replace BK93:=zw BK93 hb;replace BK91:=zw BK91 hb;replace BK92:=zw BK92 hb;replace BK90:=zw BK90 hb;clear HB hb hg;have HB:=HB1;clear HB1;have hnb9:=NB88_93.out;have hnc9:=NB93_88.out;have hnb10:=NB88_91.out;have hnc10:=NB91_88.out;have hnb11:=NB88_92.out;have hnc11:=NB92_88.out;have hnb12:=NB88_90.out;have hnc12:=NB90_88.out;have hcz13_0:=zc0 BK88;have hcz13_1:=zc1 BK88;have hfz13_0:=zf BK88))
 go_loopg [13] k (fun kq v13 w'=>∃ (x13_1:Int) (x89_1:List Int) (u89:Value),v13=.int .i64 x13_1∧Aside0 (table_over_table_combine_1_table_Union_1.l0 kq l0 ji4 x13_1 l1_0 l1_1 l1_2 l1_3 t94 x89_1=some (r1,r2))∧Aside0 (kq≤k)∧Aside0 (Kd.R (Kd.int .i64) 3 w' w.heap.size (fun k_=>some k_≠(u89:Value).ownBlock) (.slice Ao7 t94.length co7) t94)∧Aside0 (Kd.R (Kd.int .i64) 3 w' w.heap.size (fun k_=>some k_≠((.slice Ao7 t94.length co7):Value).ownBlock) u89 x89_1)∧Aside0 (w'.heap[gp1_0]?=some (.cells #[.func (.func 15) #[] #[]] 42 (0,0)))∧Aside0 (w'.heap[gp1_1]?=some (.cells #[(.slice A1_0 l1_0.length c1_0),(.slice A1_1 l1_1.length c1_1)] 29 (0,0)))∧Aside0 (w'.heap[gp1_2]?=some (.cells #[(.slice A1_2 l1_2.length c1_2),(.slice A1_3 l1_3.length c1_3)] 29 (0,0)))∧Aside0 (w'.heap[gb90]?=some (.cells #[(.slice none 0 0),(.slice none 0 0)] 29 (0,0)))∧Aside0 (w'.heap[gb88]?=some (.cells #[(.slice Ao7 t94.length co7),u89] 29 (0,0)))∧Aside0 (Below w.heap.size w w'))
 case atStart=>exact ⟨(0),(([]:List Int)),(.slice none 0 0),zT,H',⟨Nat.le_refl _⟩,⟨by refine zr ?_;exact Kd.R_mono (Kd.R_far (p:=⟨gb88,1,none⟩) (Kd.R_far (p:=⟨gb88,0,none⟩) (Kd.R_types HO470.out BK88.out (by decide)) (fun _ hk=>hk.2) (.slice Ao7 t94.length co7)) (fun _ hk=>hk.2) (.slice none 0 0)) (fun _ hk=>(by simp [Value.ownBlock]))⟩,⟨by first|exact Kd.R_nil _ _ _ _ _|exact Kd.N_nil _ _ _ _ _|exact Kd.V_nil _ _ _ _ _|exact Kd.Q_nil _ _ _ _ _|exact Kd.S_nil _ _ _ _ _⟩,⟨by refine zj ?_;refine blk_far ?_ NB93_88.out _;refine zj ?_;refine blk_far ?_ NB93_88.out _;refine zj ?_;exact BK93.out⟩,⟨by refine zj ?_;refine blk_far ?_ NB91_88.out _;refine zj ?_;refine blk_far ?_ NB91_88.out _;refine zj ?_;exact BK91.out⟩,⟨by refine zj ?_;refine blk_far ?_ NB92_88.out _;refine zj ?_;refine blk_far ?_ NB92_88.out _;refine zj ?_;exact BK92.out⟩,⟨by refine zj ?_;refine blk_far ?_ NB90_88.out _;refine zj ?_;refine blk_far ?_ NB90_88.out _;refine zj ?_;exact BK90.out⟩,⟨by refine zj ?_;refine blk_put (cs:=#[.slice Ao7 t94.length co7,.slice none 0 0]) ?_ 1 _ rfl;refine zj ?_;refine blk_put (cs:=#[.slice none 0 0,.slice none 0 0]) ?_ 0 _ rfl;refine zj ?_;exact BK88.out⟩,⟨zv2 HB GE90 GE88⟩⟩
 case round=>
  clear H'
  try clear hcz13_0
  try clear hcz13_1
  try clear hfz13_0
  try clear hfz13_1
  obtain ⟨x13_1,x89_1,u89,rfl,HA,HK1,HO_96,HO_89,BK93,BK91,BK92,BK90,BK88,HB⟩:=hrel
  cases gk with
  | zero=>exact absurd HA.out (by simp [table_over_table_combine_1_table_Union_1.l0])
  | succ k1=>
   have H:=HA.out;clear HA;simp only [table_over_table_combine_1_table_Union_1.l0] at H
   rcases ifd H with ⟨c14b0,H⟩|⟨c14b0,H⟩
   ·obtain ⟨t472,A15,H⟩:=zo H;obtain ⟨t473,A16,H⟩:=zo H;have HC17:=zA H;clear H
    go_upto_if 20 with (first|((with_reducible refine gate_callee (f:=32) rfl ?_);refine zgo 19 Try.func32 #[.slice A0 l0.length c0,.int .i64 x13_1] ?_;(with_reducible refine (table_assignment.calls k1 _ _ l0 x13_1 t472 _ (zD HR0 HB) HC0.out A15.out).mono ?_);rintro e w' ⟨rfl,⟨nd,rfl⟩⟩;refine ⟨_,rfl,?_⟩)|(go_at_call 21;(with_reducible refine (table_combine_1_table_Union_1.calls k1 t472 gp1_0 gp1_1 A1_0 c1_0 l1_0 A1_1 c1_1 l1_1 gp1_2 A1_2 c1_2 l1_2 A1_3 c1_3 l1_3 t473 _ ?side1 ?side2 HC1_0.out ?side4 HC1_1.out ?side6 ?side7 HC1_2.out ?side9 HC1_3.out ?side11 A16.out).mono ?_);(case side1=>refine zj ?_;exact BK93.out);(case side2=>repeat (first|exact (Kd.C_below HR1_0.out zB)|(with_reducible refine Kd.C_alloc ?_ _)|(with_reducible refine Kd.C_drewN ?_ _)|(with_reducible refine Kd.C_drew ?_)));(case side4=>repeat (first|exact (Kd.C_below HR1_1.out zB)|(with_reducible refine Kd.C_alloc ?_ _)|(with_reducible refine Kd.C_drewN ?_ _)|(with_reducible refine Kd.C_drew ?_)));(case side6=>refine zj ?_;exact BK91.out);(case side7=>repeat (first|exact (Kd.C_below HR1_2.out zB)|(with_reducible refine Kd.C_alloc ?_ _)|(with_reducible refine Kd.C_drewN ?_ _)|(with_reducible refine Kd.C_drew ?_)));(case side9=>repeat (first|exact (Kd.C_below HR1_3.out zB)|(with_reducible refine Kd.C_alloc ?_ _)|(with_reducible refine Kd.C_drewN ?_ _)|(with_reducible refine Kd.C_drew ?_)));(case side11=>refine zj ?_;exact BK92.out);rintro e w18 ⟨rfl,hb⟩;replace HO_96:=zA (Kd.R_below (zR HO_96) hb);replace HO_89:=zA (Kd.R_below (zR HO_89) hb);replace BK93:=zw BK93 hb;replace BK91:=zw BK91 hb;replace BK92:=zw BK92 hb;replace BK90:=zw BK90 hb;replace BK88:=zw BK88 hb;replace HB:=zu hb;clear hb))
    (try simp only [Act.put,zi,zs,zt]);have H:=HC17.out;clear HC17
    by_cases c19:t473=true
    ·subst c19
     have H1:(if x89_1.length<17592186044416 then (table_over_table_combine_1_table_Union_1.l0 k1 l0 ji4 (wrap64 (x13_1+1)) l1_0 l1_1 l1_2 l1_3 t94 (x89_1++[x13_1])) else (none))=some (r1,r2):=by rw [if_pos rfl] at H;exact H
     clear H;have H:=H1;clear H1;obtain ⟨c20,H⟩:=if1 H;have LMc20:=zA c20;clear c20
     first|(replace H:=zyb (x89_1++[x13_1]) H;obtain ⟨y474,Ny474,H⟩:=H)|(obtain ⟨y474,hy474⟩:=zY (x89_1++[x13_1]);(try rw (occs:=.pos [1]) [← hy474] at H);have Ny474:=zA hy474;clear hy474)
     have H':=zA H;clear H;have hnb21:=NB88_93.out;have hnc21:=NB93_88.out;have hnb22:=NB88_91.out;have hnc22:=NB91_88.out;have hnb23:=NB88_92.out;have hnc23:=NB92_88.out;have hnb24:=NB88_90.out;have hnc24:=NB90_88.out;have hcz25_0:=zc0 BK88;have hcz25_1:=zc1 BK88;have hfz25_0:=zf BK88
     go_wp2_with (first|((with_reducible refine gate_builtin (b:=.append) (xs:=#[.tmp 22,.tmp 24]) rfl ?_);at_builtin;refine Kd.R_append (Kd.int .i64) (w0:=w) w.heap.size rfl (.tmp 22) (.tmp 24) 27 3 (.int .i64 0) 8 rfl Try.underlying27 info3 rfl (by decide) (by omega) u89 x89_1 x13_1 [.int .i64 x13_1] (fun k_=>some k_≠(.slice Ao7 t94.length co7:Value).ownBlock) (fun _=>False) rfl rfl ?aP (fun _ hk=>hk.elim) ?aF ?aO ?aB ?aS ?aL ?_;(case aP=>exact rfl);(case aB=>exact zB);(case aF=>exact (fun k_ hk=>Kd.fresh' (Kd.R_lt (zR HO_96)) k_ hk));(case aO=>exact (zR HO_89));(case aS=>exact (below_size zB));(case aL=>have:=LMc20.out;omega);intro v475 w26 ho hb hg hat;rw [← Ny474.out] at ho;have HO476:=zA (ho);replace HO_96:=zA (Kd.R_after (ok:=(fun _=>True)) (by refine zr ?_;exact Kd.R_mono HO_96.out (fun _ hk=>⟨trivial,hk⟩)) hg hat);replace BK93:=zA (blk_grown (g:=gp1_0) (o:=.cells #[.func (.func 15) #[] #[]] 42 (0,0)) (zk BK93) hg (Kd.R_ne HO_89.out BK93.out (by decide)));replace BK91:=zA (blk_grown (g:=gp1_1) (o:=.cells #[.slice A1_0 l1_0.length c1_0,.slice A1_1 l1_1.length c1_1] 29 (0,0)) (zk BK91) hg (Kd.R_ne HO_89.out BK91.out (by decide)));replace BK92:=zA (blk_grown (g:=gp1_2) (o:=.cells #[.slice A1_2 l1_2.length c1_2,.slice A1_3 l1_3.length c1_3] 29 (0,0)) (zk BK92) hg (Kd.R_ne HO_89.out BK92.out (by decide)));replace BK90:=zA (blk_grown (g:=gb90) (o:=.cells #[.slice none 0 0,.slice none 0 0] 29 (0,0)) (zk BK90) hg (Kd.R_ne HO_89.out BK90.out (by decide)));replace BK88:=zA (blk_grown (g:=gb88) (o:=.cells #[.slice Ao7 t94.length co7,u89] 29 (0,0)) (zk BK88) hg (Kd.R_ne HO_89.out BK88.out (by decide)));replace HB:=zA (hb);clear HO_89;clear ho hb hg hat;obtain ⟨Ao27,co27,eo27⟩:=Kd.R_slice HO476.out;subst eo27;have hcz28_0:=zc0 BK88;have hcz28_1:=zc1 BK88;have hfz28_0:=zf BK88))
     go_roundg k1
     case measure=>have:=HK1.out;omega
     case rel=>exact ⟨(wrap64 (x13_1+1)),(y474),(.slice Ao27 y474.length co27),zT,H',⟨by have:=HK1.out;omega⟩,⟨by refine zr ?_;exact Kd.R_mono (Kd.R_far (p:=⟨gb88,1,none⟩) (Kd.R_types HO_96.out BK88.out (by decide)) (fun _ hk=>hk.2) (.slice Ao27 y474.length co27)) (fun _ hk=>hk.1.2)⟩,⟨by refine zr ?_;exact Kd.R_mono (Kd.R_far (p:=⟨gb88,1,none⟩) (Kd.R_types HO476.out BK88.out (by decide)) (fun _ hk=>hk.2) (.slice Ao27 y474.length co27)) (fun _ hk=>hk.1)⟩,⟨by refine zj ?_;refine blk_far ?_ NB93_88.out _;refine zj ?_;exact BK93.out⟩,⟨by refine zj ?_;refine blk_far ?_ NB91_88.out _;refine zj ?_;exact BK91.out⟩,⟨by refine zj ?_;refine blk_far ?_ NB92_88.out _;refine zj ?_;exact BK92.out⟩,⟨by refine zj ?_;refine blk_far ?_ NB90_88.out _;refine zj ?_;exact BK90.out⟩,⟨by refine zj ?_;refine blk_put (cs:=#[.slice Ao7 t94.length co7,u89]) ?_ 1 _ rfl;refine zj ?_;exact BK88.out⟩,⟨zv2 HB GE90 GE88⟩⟩
    ·replace c19:=Bool.eq_false_iff.mpr c19;subst c19
     have H1:(table_over_table_combine_1_table_Union_1.l0 k1 l0 ji4 (wrap64 (x13_1+1)) l1_0 l1_1 l1_2 l1_3 t94 x89_1)=some (r1,r2):=by rw [if_neg (show ¬ (false=true) by decide)] at H;exact H
     clear H;have H:=H1;clear H1;have H':=zA H;clear H
     go_wp2
     go_roundg k1
     case measure=>have:=HK1.out;omega
     case rel=>exact ⟨(wrap64 (x13_1+1)),(x89_1),(u89),zT,H',⟨by have:=HK1.out;omega⟩,⟨by refine zr ?_;exact HO_96.out⟩,⟨by refine zr ?_;exact HO_89.out⟩,⟨by refine zj ?_;exact BK93.out⟩,⟨by refine zj ?_;exact BK91.out⟩,⟨by refine zj ?_;exact BK92.out⟩,⟨by refine zj ?_;exact BK90.out⟩,⟨by refine zj ?_;exact BK88.out⟩,⟨zv2 HB GE90 GE88⟩⟩
   ·simp only [Option.some.injEq,Prod.mk.injEq] at H;obtain ⟨rfl,rfl⟩:=H;have hnb29:=NB88_93.out;have hnc29:=NB93_88.out;have hnb30:=NB88_91.out;have hnc30:=NB91_88.out;have hnb31:=NB88_92.out;have hnc31:=NB92_88.out;have hnb32:=NB88_90.out;have hnc32:=NB90_88.out;have hcz33_0:=zc0 BK88;have hcz33_1:=zc1 BK88;have hfz33_0:=zf BK88;have hnb34:=NB90_93.out;have hnc34:=NB93_90.out;have hnb35:=NB90_91.out;have hnc35:=NB91_90.out;have hnb36:=NB90_92.out;have hnc36:=NB92_90.out;have hcz37_0:=zc0 BK90;have hcz37_1:=zc1 BK90;have hfz37_0:=zf BK90;obtain ⟨Ao38,co38,eo38⟩:=Kd.R_slice HO_89.out;subst eo38
    go_wp2
    refine bodyPost_ret (results_cell_row rfl _ _ gb90 29 #[.slice Ao7 t94.length co7,.slice Ao38 x89_1.length co38] (0,0) _ rfl (by refine zj ?_;refine blk_put (cs:=#[.slice Ao7 t94.length co7,.slice none 0 0]) ?_ 1 _ rfl;refine zj ?_;refine blk_put (cs:=#[.slice none 0 0,.slice none 0 0]) ?_ 0 _ rfl;refine zj ?_;exact BK90.out) Try.underlying29 rfl zK) rfl ?_;exact ⟨_,_,by first|rfl|(simp [errW_none,errW_some] <;> rfl)|(simp only [← hji4];first|rfl|(simp [errW_none,errW_some] <;> rfl))|(simp [*,errW_none,errW_some] <;> rfl),by refine zr ?_;exact Kd.R_mono (Kd.R_far (p:=⟨gb90,1,none⟩) (Kd.R_far (p:=⟨gb90,0,none⟩) (Kd.R_types HO_96.out BK90.out (by decide)) (fun _ hk=>hk.2) (.slice Ao7 t94.length co7)) (fun _ hk=>hk.2) (.slice Ao38 x89_1.length co38)) (fun _ hk=>hk.1),by refine zr ?_;exact Kd.R_mono (Kd.R_far (p:=⟨gb90,1,none⟩) (Kd.R_far (p:=⟨gb90,0,none⟩) (Kd.R_types HO_89.out BK90.out (by decide)) (fun _ hk=>hk.2) (.slice Ao7 t94.length co7)) (fun _ hk=>hk.2) (.slice Ao38 x89_1.length co38)) (fun _ hk=>hk.1),zv2 HB GE90 GE88⟩
end Go.Proofs.Ytilljenmobgkaaa.A
