import Derived.Test.YtilljenmobgkaaaA0
import Derived.Test.YtilljenmobgkaaaA1
namespace Go.Proofs.Ytilljenmobgkaaa.A
open Go.RowKit Go.Proofs.YtilljenmobgkaaaW.PrintWords Go.Proofs.YtilljenmobgkaaaW.PrintLast Go.Proofs.YtilljenmobgkaaaW.PrintMore
attribute [local go_sem] max2_int min2_int max_two min_two max_three min_three max_four min_four Try.underlying27 Try.underlying29 Try.underlying3 Try.underlying42
set_option linter.unusedVariables false
set_option linter.unusedSimpArgs false
def table_over_table_combine_1_table_Join_1.l0:Nat→List Int→Int→Int→List Int→List Int→List Int→List Int→List Int→List Int→Option (List Int×List Int)
 | 0,_,_,_,_,_,_,_,_,_=>none
 | k+1,x0,x12,x13,x84,x85,x86,x87,x69,x58=>if x13<x12 then ((table_assignment.f k x0 x13).bind fun t98=>((table_combine_1_table_Join_1.f k t98 x84 x85 x86 x87).bind fun t99=>(if t99=true then (if x58.length<17592186044416 then (table_over_table_combine_1_table_Join_1.l0 k x0 x12 (wrap64 (x13+1)) x84 x85 x86 x87 x69 (x58++[x13])) else (none)) else (table_over_table_combine_1_table_Join_1.l0 k x0 x12 (wrap64 (x13+1)) x84 x85 x86 x87 x69 x58)))) else (some (x69,x58))
def table_over_table_combine_1_table_Join_1.f (k:Nat) (l0:List Int) (l1_0:List Int) (l1_1:List Int) (l1_2:List Int) (l1_3:List Int):Option (List Int×List Int):=(slices_Clone_int_int.f l0).bind fun t72=>(table_over_table_combine_1_table_Join_1.l0 k l0 (shl .i64 1 (l0.length:Int)) 0 l1_0 l1_1 l1_2 l1_3 t72 ([]:List Int))
set_option maxHeartbeats 8000000 in
set_option maxRecDepth 100000 in
theorem table_over_table_combine_1_table_Join_1.calls (k:Nat) (A0:Option Addr) (c0:Nat) (l0:List Int) (gp1_0:Nat) (gp1_1:Nat) (gp1_2:Nat) (A1_0:Option Addr) (c1_0:Nat) (l1_0:List Int) (A1_1:Option Addr) (c1_1:Nat) (l1_1:List Int) (A1_2:Option Addr) (c1_2:Nat) (l1_2:List Int) (A1_3:Option Addr) (c1_3:Nat) (l1_3:List Int) (r1:List Int) (r2:List Int) (w:World) (hr0:Kd.C (Kd.int .i64) w A0 l0.length l0) (hc0:l0.length≤c0) (hr1_0:Kd.C (Kd.int .i64) w A1_0 l1_0.length l1_0) (hc1_0:l1_0.length≤c1_0) (hr1_1:Kd.C (Kd.int .i64) w A1_1 l1_1.length l1_1) (hc1_1:l1_1.length≤c1_1) (hr1_2:Kd.C (Kd.int .i64) w A1_2 l1_2.length l1_2) (hc1_2:l1_2.length≤c1_2) (hr1_3:Kd.C (Kd.int .i64) w A1_3 l1_3.length l1_3) (hc1_3:l1_3.length≤c1_3) (hb_gp1_0:w.heap[gp1_0]?=some (.cells #[.func (.func 14) #[] #[]] 42 (0,0))) (hb_gp1_1:w.heap[gp1_1]?=some (.cells #[.slice A1_0 l1_0.length c1_0,.slice A1_1 l1_1.length c1_1] 29 (0,0))) (hb_gp1_2:w.heap[gp1_2]?=some (.cells #[.slice A1_2 l1_2.length c1_2,.slice A1_3 l1_3.length c1_3] 29 (0,0))) (h:table_over_table_combine_1_table_Join_1.f k l0 l1_0 l1_1 l1_2 l1_3=some (r1,r2)) :
  Calls Try.prog 20 #[.slice A0 l0.length c0,.func (.func 21) #[] #[.pointer (some ⟨gp1_0,0,none⟩),.pointer (some ⟨gp1_1,0,none⟩),.pointer (some ⟨gp1_2,0,none⟩)]] w fun e w'=>∃ v0_ v1_:Value,e=.returned (.agg #[v0_,v1_])∧Kd.R (Kd.int .i64) 3 w' w.heap.size (fun k_=>some k_≠(v1_:Value).ownBlock) v0_ r1∧Kd.R (Kd.int .i64) 3 w' w.heap.size (fun k_=>some k_≠(v0_:Value).ownBlock) v1_ r2∧Below w.heap.size w w':=by
 have HR0:=zA hr0;have HC0:=zA hc0;clear hr0 hc0;have HR1_0:=zA hr1_0;have HC1_0:=zA hc1_0;clear hr1_0 hc1_0;have HR1_1:=zA hr1_1;have HC1_1:=zA hc1_1;clear hr1_1 hc1_1;have HR1_2:=zA hr1_2;have HC1_2:=zA hc1_2;clear hr1_2 hc1_2;have HR1_3:=zA hr1_3;have HC1_3:=zA hc1_3;clear hr1_3 hc1_3;have BK63:=zA hb_gp1_0;clear hb_gp1_0;have BK65:=zA hb_gp1_1;clear hb_gp1_1;have BK66:=zA hb_gp1_2;clear hb_gp1_2;have HB:=zA (Below.refl w.heap.size w);have H:((slices_Clone_int_int.f l0).bind fun t72=>(table_over_table_combine_1_table_Join_1.l0 k l0 (shl .i64 1 (l0.length:Int)) 0 l1_0 l1_1 l1_2 l1_3 t72 ([]:List Int)))=some (r1,r2):=h;clear h;obtain ⟨t72,A3,H⟩:=zo H;obtain ⟨ji4,hji4⟩:=zZ (shl .i64 1 (l0.length:Int))
 first|rw [hji4] at H|simp only [hji4] at H
 (try rw [hji4] at A3);have hji4_:(IntKind.i64.wrap (1 * 2 ^ min (l0.length:Int).toNat 64))=ji4:=hji4;have hji4z:(l0.length:Int)≤64→(IntKind.i64.wrap (1 * 2 ^ (l0.length:Int).toNat))=ji4:=shl_small hji4;have hji4p:(IntKind.i64.wrap (1 * 2 ^ min l0.length 64))=ji4:=hji4_;have hji4q:(l0.length:Int)≤64→(IntKind.i64.wrap (1 * 2 ^ l0.length))=ji4:=hji4z
 have hji4r:(IntKind.i64.wrap (2 ^ min l0.length 64))=ji4:=by have h_:=hji4p;rw [Int.one_mul] at h_;exact h_
 have hji4s:(l0.length:Int)≤64→(IntKind.i64.wrap (2 ^ l0.length))=ji4:=fun hle_=>by have h_:=hji4q hle_;rw [Int.one_mul] at h_;exact h_
 have hji4u:(IntKind.i64.wrap (2 ^ min (l0.length:Int).toNat 64))=ji4:=by have h_:=hji4_;rw [Int.one_mul] at h_;exact h_
 have hji4v:(l0.length:Int)≤64→(IntKind.i64.wrap (2 ^ (l0.length:Int).toNat))=ji4:=fun hle_=>by have h_:=hji4z hle_;rw [Int.one_mul] at h_;exact h_
 have hji4y:(wrap64 (1 * 2 ^ min (l0.length:Int).toNat 64))=ji4:=(i64_w _).symm.trans hji4_
 have hji4x:(l0.length:Int)≤64→(wrap64 (1 * 2 ^ (l0.length:Int).toNat))=ji4:=fun h_=>(i64_w _).symm.trans (hji4z h_)
 have H':=zA H;clear H
 go_enter Try.func20,Try.ntmps20
 go_wp2_with (first|((with_reducible refine gd 4 rfl ?_);refine zx #[.slice none 0 0,.slice none 0 0] 29 ?_;intro gb61 hg w5 BK61 hb GW61 HB1;have GE61:=GW61;have NB63_61:=zL hg BK63;have NB61_63:=zLs NB63_61;have NB65_61:=zL hg BK65;have NB61_65:=zLs NB65_61;have NB66_61:=zL hg BK66;have NB61_66:=zLs NB66_61;replace BK63:=zw BK63 hb;replace BK65:=zw BK65 hb;replace BK66:=zw BK66 hb;clear HB hb hg;have HB:=HB1;clear HB1)|((with_reducible refine gate_callee (f:=28) rfl ?_);refine zgo 8 Try.func28 #[.slice A0 l0.length c0] ?_;(with_reducible refine (slices_Clone_int_int.calls _ _ l0 t72 _ (zD HR0 HB) HC0.out A3.out).mono ?_);rintro e w6 ⟨v289,rfl,ho0,hb⟩;refine ⟨_,rfl,?_⟩;have HO290:=zA (Kd.R_lower ho0 (below_size zB));replace BK63:=zw BK63 hb;replace BK65:=zw BK65 hb;replace BK66:=zw BK66 hb;replace BK61:=zw BK61 hb;replace HB:=zu hb;clear hb;(try clear ho0);obtain ⟨Ao7,co7,eo7⟩:=Kd.R_slice HO290.out;subst eo7)|((with_reducible refine gd 5 rfl ?_);refine zx #[.slice none 0 0,.slice none 0 0] 29 ?_;intro gb56 hg w8 BK56 hb GW56 HB1;have GE56:=GW56;have NB63_56:=zL hg BK63;have NB56_63:=zLs NB63_56;have NB65_56:=zL hg BK65;have NB56_65:=zLs NB65_56;have NB66_56:=zL hg BK66;have NB56_66:=zLs NB66_56;have NB61_56:=zL hg BK61;have NB56_61:=zLs NB61_56;replace HO290:=zA (Kd.R_below (zR HO290) hb);replace BK63:=zw BK63 hb;replace BK65:=zw BK65 hb;replace BK66:=zw BK66 hb;replace BK61:=zw BK61 hb;clear HB hb hg;have HB:=HB1;clear HB1;have hnb9:=NB56_63.out;have hnc9:=NB63_56.out;have hnb10:=NB56_65.out;have hnc10:=NB65_56.out;have hnb11:=NB56_66.out;have hnc11:=NB66_56.out;have hnb12:=NB56_61.out;have hnc12:=NB61_56.out;have hcz13_0:=zc0 BK56;have hcz13_1:=zc1 BK56;have hfz13_0:=zf BK56))
 go_loopg [13] k (fun kq v13 w'=>∃ (x13_1:Int) (x58_1:List Int) (u58:Value),v13=.int .i64 x13_1∧Aside0 (table_over_table_combine_1_table_Join_1.l0 kq l0 ji4 x13_1 l1_0 l1_1 l1_2 l1_3 t72 x58_1=some (r1,r2))∧Aside0 (kq≤k)∧Aside0 (Kd.R (Kd.int .i64) 3 w' w.heap.size (fun k_=>some k_≠(u58:Value).ownBlock) (.slice Ao7 t72.length co7) t72)∧Aside0 (Kd.R (Kd.int .i64) 3 w' w.heap.size (fun k_=>some k_≠((.slice Ao7 t72.length co7):Value).ownBlock) u58 x58_1)∧Aside0 (w'.heap[gp1_0]?=some (.cells #[.func (.func 14) #[] #[]] 42 (0,0)))∧Aside0 (w'.heap[gp1_1]?=some (.cells #[(.slice A1_0 l1_0.length c1_0),(.slice A1_1 l1_1.length c1_1)] 29 (0,0)))∧Aside0 (w'.heap[gp1_2]?=some (.cells #[(.slice A1_2 l1_2.length c1_2),(.slice A1_3 l1_3.length c1_3)] 29 (0,0)))∧Aside0 (w'.heap[gb61]?=some (.cells #[(.slice none 0 0),(.slice none 0 0)] 29 (0,0)))∧Aside0 (w'.heap[gb56]?=some (.cells #[(.slice Ao7 t72.length co7),u58] 29 (0,0)))∧Aside0 (Below w.heap.size w w'))
 case atStart=>exact ⟨(0),(([]:List Int)),(.slice none 0 0),zT,H',⟨Nat.le_refl _⟩,⟨by refine zr ?_;exact Kd.R_mono (Kd.R_far (p:=⟨gb56,1,none⟩) (Kd.R_far (p:=⟨gb56,0,none⟩) (Kd.R_types HO290.out BK56.out (by decide)) (fun _ hk=>hk.2) (.slice Ao7 t72.length co7)) (fun _ hk=>hk.2) (.slice none 0 0)) (fun _ hk=>(by simp [Value.ownBlock]))⟩,⟨by first|exact Kd.R_nil _ _ _ _ _|exact Kd.N_nil _ _ _ _ _|exact Kd.V_nil _ _ _ _ _|exact Kd.Q_nil _ _ _ _ _|exact Kd.S_nil _ _ _ _ _⟩,⟨by refine zj ?_;refine blk_far ?_ NB63_56.out _;refine zj ?_;refine blk_far ?_ NB63_56.out _;refine zj ?_;exact BK63.out⟩,⟨by refine zj ?_;refine blk_far ?_ NB65_56.out _;refine zj ?_;refine blk_far ?_ NB65_56.out _;refine zj ?_;exact BK65.out⟩,⟨by refine zj ?_;refine blk_far ?_ NB66_56.out _;refine zj ?_;refine blk_far ?_ NB66_56.out _;refine zj ?_;exact BK66.out⟩,⟨by refine zj ?_;refine blk_far ?_ NB61_56.out _;refine zj ?_;refine blk_far ?_ NB61_56.out _;refine zj ?_;exact BK61.out⟩,⟨by refine zj ?_;refine blk_put (cs:=#[.slice Ao7 t72.length co7,.slice none 0 0]) ?_ 1 _ rfl;refine zj ?_;refine blk_put (cs:=#[.slice none 0 0,.slice none 0 0]) ?_ 0 _ rfl;refine zj ?_;exact BK56.out⟩,⟨zv2 HB GE61 GE56⟩⟩
 case round=>
  clear H'
  try clear hcz13_0
  try clear hcz13_1
  try clear hfz13_0
  try clear hfz13_1
  obtain ⟨x13_1,x58_1,u58,rfl,HA,HK1,HO_69,HO_58,BK63,BK65,BK66,BK61,BK56,HB⟩:=hrel
  cases gk with
  | zero=>exact absurd HA.out (by simp [table_over_table_combine_1_table_Join_1.l0])
  | succ k1=>
   have H:=HA.out;clear HA;simp only [table_over_table_combine_1_table_Join_1.l0] at H
   rcases ifd H with ⟨c14b0,H⟩|⟨c14b0,H⟩
   ·obtain ⟨t98,A15,H⟩:=zo H;obtain ⟨t99,A16,H⟩:=zo H;have HC17:=zA H;clear H
    go_upto_if 20 with (first|((with_reducible refine gate_callee (f:=32) rfl ?_);refine zgo 19 Try.func32 #[.slice A0 l0.length c0,.int .i64 x13_1] ?_;(with_reducible refine (table_assignment.calls k1 _ _ l0 x13_1 t98 _ (zD HR0 HB) HC0.out A15.out).mono ?_);rintro e w' ⟨rfl,⟨nd,rfl⟩⟩;refine ⟨_,rfl,?_⟩)|(go_at_call 21;(with_reducible refine (table_combine_1_table_Join_1.calls k1 t98 gp1_0 gp1_1 A1_0 c1_0 l1_0 A1_1 c1_1 l1_1 gp1_2 A1_2 c1_2 l1_2 A1_3 c1_3 l1_3 t99 _ ?side1 ?side2 HC1_0.out ?side4 HC1_1.out ?side6 ?side7 HC1_2.out ?side9 HC1_3.out ?side11 A16.out).mono ?_);(case side1=>refine zj ?_;exact BK63.out);(case side2=>repeat (first|exact (Kd.C_below HR1_0.out zB)|(with_reducible refine Kd.C_alloc ?_ _)|(with_reducible refine Kd.C_drewN ?_ _)|(with_reducible refine Kd.C_drew ?_)));(case side4=>repeat (first|exact (Kd.C_below HR1_1.out zB)|(with_reducible refine Kd.C_alloc ?_ _)|(with_reducible refine Kd.C_drewN ?_ _)|(with_reducible refine Kd.C_drew ?_)));(case side6=>refine zj ?_;exact BK65.out);(case side7=>repeat (first|exact (Kd.C_below HR1_2.out zB)|(with_reducible refine Kd.C_alloc ?_ _)|(with_reducible refine Kd.C_drewN ?_ _)|(with_reducible refine Kd.C_drew ?_)));(case side9=>repeat (first|exact (Kd.C_below HR1_3.out zB)|(with_reducible refine Kd.C_alloc ?_ _)|(with_reducible refine Kd.C_drewN ?_ _)|(with_reducible refine Kd.C_drew ?_)));(case side11=>refine zj ?_;exact BK66.out);rintro e w18 ⟨rfl,hb⟩;replace HO_69:=zA (Kd.R_below (zR HO_69) hb);replace HO_58:=zA (Kd.R_below (zR HO_58) hb);replace BK63:=zw BK63 hb;replace BK65:=zw BK65 hb;replace BK66:=zw BK66 hb;replace BK61:=zw BK61 hb;replace BK56:=zw BK56 hb;replace HB:=zu hb;clear hb))
    (try simp only [Act.put,zi,zs,zt]);have H:=HC17.out;clear HC17
    by_cases c19:t99=true
    ·subst c19
     have H1:(if x58_1.length<17592186044416 then (table_over_table_combine_1_table_Join_1.l0 k1 l0 ji4 (wrap64 (x13_1+1)) l1_0 l1_1 l1_2 l1_3 t72 (x58_1++[x13_1])) else (none))=some (r1,r2):=by rw [if_pos rfl] at H;exact H
     clear H;have H:=H1;clear H1;obtain ⟨c20,H⟩:=if1 H;have LMc20:=zA c20;clear c20
     first|(replace H:=zyb (x58_1++[x13_1]) H;obtain ⟨y81,Ny81,H⟩:=H)|(obtain ⟨y81,hy81⟩:=zY (x58_1++[x13_1]);(try rw (occs:=.pos [1]) [← hy81] at H);have Ny81:=zA hy81;clear hy81)
     have H':=zA H;clear H;have hnb21:=NB56_63.out;have hnc21:=NB63_56.out;have hnb22:=NB56_65.out;have hnc22:=NB65_56.out;have hnb23:=NB56_66.out;have hnc23:=NB66_56.out;have hnb24:=NB56_61.out;have hnc24:=NB61_56.out;have hcz25_0:=zc0 BK56;have hcz25_1:=zc1 BK56;have hfz25_0:=zf BK56
     go_wp2_with (first|((with_reducible refine gate_builtin (b:=.append) (xs:=#[.tmp 22,.tmp 24]) rfl ?_);at_builtin;refine Kd.R_append (Kd.int .i64) (w0:=w) w.heap.size rfl (.tmp 22) (.tmp 24) 27 3 (.int .i64 0) 8 rfl Try.underlying27 info3 rfl (by decide) (by omega) u58 x58_1 x13_1 [.int .i64 x13_1] (fun k_=>some k_≠(.slice Ao7 t72.length co7:Value).ownBlock) (fun _=>False) rfl rfl ?aP (fun _ hk=>hk.elim) ?aF ?aO ?aB ?aS ?aL ?_;(case aP=>exact rfl);(case aB=>exact zB);(case aF=>exact (fun k_ hk=>Kd.fresh' (Kd.R_lt (zR HO_69)) k_ hk));(case aO=>exact (zR HO_58));(case aS=>exact (below_size zB));(case aL=>have:=LMc20.out;omega);intro v295 w26 ho hb hg hat;rw [← Ny81.out] at ho;have HO296:=zA (ho);replace HO_69:=zA (Kd.R_after (ok:=(fun _=>True)) (by refine zr ?_;exact Kd.R_mono HO_69.out (fun _ hk=>⟨trivial,hk⟩)) hg hat);replace BK63:=zA (blk_grown (g:=gp1_0) (o:=.cells #[.func (.func 14) #[] #[]] 42 (0,0)) (zk BK63) hg (Kd.R_ne HO_58.out BK63.out (by decide)));replace BK65:=zA (blk_grown (g:=gp1_1) (o:=.cells #[.slice A1_0 l1_0.length c1_0,.slice A1_1 l1_1.length c1_1] 29 (0,0)) (zk BK65) hg (Kd.R_ne HO_58.out BK65.out (by decide)));replace BK66:=zA (blk_grown (g:=gp1_2) (o:=.cells #[.slice A1_2 l1_2.length c1_2,.slice A1_3 l1_3.length c1_3] 29 (0,0)) (zk BK66) hg (Kd.R_ne HO_58.out BK66.out (by decide)));replace BK61:=zA (blk_grown (g:=gb61) (o:=.cells #[.slice none 0 0,.slice none 0 0] 29 (0,0)) (zk BK61) hg (Kd.R_ne HO_58.out BK61.out (by decide)));replace BK56:=zA (blk_grown (g:=gb56) (o:=.cells #[.slice Ao7 t72.length co7,u58] 29 (0,0)) (zk BK56) hg (Kd.R_ne HO_58.out BK56.out (by decide)));replace HB:=zA (hb);clear HO_58;clear ho hb hg hat;obtain ⟨Ao27,co27,eo27⟩:=Kd.R_slice HO296.out;subst eo27;have hcz28_0:=zc0 BK56;have hcz28_1:=zc1 BK56;have hfz28_0:=zf BK56))
     go_roundg k1
     case measure=>have:=HK1.out;omega
     case rel=>exact ⟨(wrap64 (x13_1+1)),(y81),(.slice Ao27 y81.length co27),zT,H',⟨by have:=HK1.out;omega⟩,⟨by refine zr ?_;exact Kd.R_mono (Kd.R_far (p:=⟨gb56,1,none⟩) (Kd.R_types HO_69.out BK56.out (by decide)) (fun _ hk=>hk.2) (.slice Ao27 y81.length co27)) (fun _ hk=>hk.1.2)⟩,⟨by refine zr ?_;exact Kd.R_mono (Kd.R_far (p:=⟨gb56,1,none⟩) (Kd.R_types HO296.out BK56.out (by decide)) (fun _ hk=>hk.2) (.slice Ao27 y81.length co27)) (fun _ hk=>hk.1)⟩,⟨by refine zj ?_;refine blk_far ?_ NB63_56.out _;refine zj ?_;exact BK63.out⟩,⟨by refine zj ?_;refine blk_far ?_ NB65_56.out _;refine zj ?_;exact BK65.out⟩,⟨by refine zj ?_;refine blk_far ?_ NB66_56.out _;refine zj ?_;exact BK66.out⟩,⟨by refine zj ?_;refine blk_far ?_ NB61_56.out _;refine zj ?_;exact BK61.out⟩,⟨by refine zj ?_;refine blk_put (cs:=#[.slice Ao7 t72.length co7,u58]) ?_ 1 _ rfl;refine zj ?_;exact BK56.out⟩,⟨zv2 HB GE61 GE56⟩⟩
    ·replace c19:=Bool.eq_false_iff.mpr c19;subst c19
     have H1:(table_over_table_combine_1_table_Join_1.l0 k1 l0 ji4 (wrap64 (x13_1+1)) l1_0 l1_1 l1_2 l1_3 t72 x58_1)=some (r1,r2):=by rw [if_neg (show ¬ (false=true) by decide)] at H;exact H
     clear H;have H:=H1;clear H1;have H':=zA H;clear H
     go_wp2
     go_roundg k1
     case measure=>have:=HK1.out;omega
     case rel=>exact ⟨(wrap64 (x13_1+1)),(x58_1),(u58),zT,H',⟨by have:=HK1.out;omega⟩,⟨by refine zr ?_;exact HO_69.out⟩,⟨by refine zr ?_;exact HO_58.out⟩,⟨by refine zj ?_;exact BK63.out⟩,⟨by refine zj ?_;exact BK65.out⟩,⟨by refine zj ?_;exact BK66.out⟩,⟨by refine zj ?_;exact BK61.out⟩,⟨by refine zj ?_;exact BK56.out⟩,⟨zv2 HB GE61 GE56⟩⟩
   ·simp only [Option.some.injEq,Prod.mk.injEq] at H;obtain ⟨rfl,rfl⟩:=H;have hnb29:=NB56_63.out;have hnc29:=NB63_56.out;have hnb30:=NB56_65.out;have hnc30:=NB65_56.out;have hnb31:=NB56_66.out;have hnc31:=NB66_56.out;have hnb32:=NB56_61.out;have hnc32:=NB61_56.out;have hcz33_0:=zc0 BK56;have hcz33_1:=zc1 BK56;have hfz33_0:=zf BK56;have hnb34:=NB61_63.out;have hnc34:=NB63_61.out;have hnb35:=NB61_65.out;have hnc35:=NB65_61.out;have hnb36:=NB61_66.out;have hnc36:=NB66_61.out;have hcz37_0:=zc0 BK61;have hcz37_1:=zc1 BK61;have hfz37_0:=zf BK61;obtain ⟨Ao38,co38,eo38⟩:=Kd.R_slice HO_58.out;subst eo38
    go_wp2
    refine bodyPost_ret (results_cell_row rfl _ _ gb61 29 #[.slice Ao7 t72.length co7,.slice Ao38 x58_1.length co38] (0,0) _ rfl (by refine zj ?_;refine blk_put (cs:=#[.slice Ao7 t72.length co7,.slice none 0 0]) ?_ 1 _ rfl;refine zj ?_;refine blk_put (cs:=#[.slice none 0 0,.slice none 0 0]) ?_ 0 _ rfl;refine zj ?_;exact BK61.out) Try.underlying29 rfl zK) rfl ?_;exact ⟨_,_,by first|rfl|(simp [errW_none,errW_some] <;> rfl)|(simp only [← hji4];first|rfl|(simp [errW_none,errW_some] <;> rfl))|(simp [*,errW_none,errW_some] <;> rfl),by refine zr ?_;exact Kd.R_mono (Kd.R_far (p:=⟨gb61,1,none⟩) (Kd.R_far (p:=⟨gb61,0,none⟩) (Kd.R_types HO_69.out BK61.out (by decide)) (fun _ hk=>hk.2) (.slice Ao7 t72.length co7)) (fun _ hk=>hk.2) (.slice Ao38 x58_1.length co38)) (fun _ hk=>hk.1),by refine zr ?_;exact Kd.R_mono (Kd.R_far (p:=⟨gb61,1,none⟩) (Kd.R_far (p:=⟨gb61,0,none⟩) (Kd.R_types HO_58.out BK61.out (by decide)) (fun _ hk=>hk.2) (.slice Ao7 t72.length co7)) (fun _ hk=>hk.2) (.slice Ao38 x58_1.length co38)) (fun _ hk=>hk.1),zv2 HB GE61 GE56⟩
def table_combine_table_Join_1.f (k:Nat) (l0_0:List Int) (l0_1:List Int) (l1_0:List Int) (l1_1:List Int) :Option (List Int×List Int×Int):=(table_Valid.f k l0_0 l0_1).bind fun t88=>(if t88=0 then ((table_Valid.f k l1_0 l1_1).bind fun t89=>(if t89=0 then ((table_all.f k l0_0 l1_0).bind fun t80=>(if (t80.length:Int)>10 then (some (([]:List Int),([]:List Int),3)) else ((table_over_table_combine_1_table_Join_1.f k t80 l0_0 l0_1 l1_0 l1_1).bind fun bt82=>(some (bt82.1,bt82.2,0))))) else (some (([]:List Int),([]:List Int),t89)))) else (some (([]:List Int),([]:List Int),t88)))
set_option maxHeartbeats 8000000 in
set_option maxRecDepth 100000 in
theorem table_combine_table_Join_1.calls (k:Nat) (A0_0:Option Addr) (c0_0:Nat) (l0_0:List Int) (A0_1:Option Addr) (c0_1:Nat) (l0_1:List Int) (A1_0:Option Addr) (c1_0:Nat) (l1_0:List Int) (A1_1:Option Addr) (c1_1:Nat) (l1_1:List Int)  (r1:List Int) (r2:List Int) (r3:Int) (w:World) (hr0_0:Kd.C (Kd.int .i64) w A0_0 l0_0.length l0_0) (hc0_0:l0_0.length≤c0_0) (hr0_1:Kd.C (Kd.int .i64) w A0_1 l0_1.length l0_1) (hc0_1:l0_1.length≤c0_1) (hr1_0:Kd.C (Kd.int .i64) w A1_0 l1_0.length l1_0) (hc1_0:l1_0.length≤c1_0) (hr1_1:Kd.C (Kd.int .i64) w A1_1 l1_1.length l1_1) (hc1_1:l1_1.length≤c1_1) (h:table_combine_table_Join_1.f k l0_0 l0_1 l1_0 l1_1=some (r1,r2,r3)) :
  Calls Try.prog 13 #[.agg #[.slice A0_0 l0_0.length c0_0,.slice A0_1 l0_1.length c0_1],.agg #[.slice A1_0 l1_0.length c1_0,.slice A1_1 l1_1.length c1_1],.func (.func 14) #[] #[]] w fun e w'=>∃ v0_ v1_:Value,e=.returned (.tuple #[.agg #[v0_,v1_],.int .i64 r3])∧Kd.R (Kd.int .i64) 3 w' w.heap.size (fun k_=>some k_≠(v1_:Value).ownBlock) v0_ r1∧Kd.R (Kd.int .i64) 3 w' w.heap.size (fun k_=>some k_≠(v0_:Value).ownBlock) v1_ r2∧Below w.heap.size w w':=by
 have HR0_0:=zA hr0_0;have HC0_0:=zA hc0_0;clear hr0_0 hc0_0;have HR0_1:=zA hr0_1;have HC0_1:=zA hc0_1;clear hr0_1 hc0_1;have HR1_0:=zA hr1_0;have HC1_0:=zA hc1_0;clear hr1_0 hc1_0;have HR1_1:=zA hr1_1;have HC1_1:=zA hc1_1;clear hr1_1 hc1_1;have HB:=zA (Below.refl w.heap.size w);have H:((table_Valid.f k l0_0 l0_1).bind fun t88=>(if t88=0 then ((table_Valid.f k l1_0 l1_1).bind fun t89=>(if t89=0 then ((table_all.f k l0_0 l1_0).bind fun t80=>(if (t80.length:Int)>10 then (some (([]:List Int),([]:List Int),3)) else ((table_over_table_combine_1_table_Join_1.f k t80 l0_0 l0_1 l1_0 l1_1).bind fun bt82=>(some (bt82.1,bt82.2,0))))) else (some (([]:List Int),([]:List Int),t89)))) else (some (([]:List Int),([]:List Int),t88))))=some (r1,r2,r3):=h;clear h;obtain ⟨t88,A4,H⟩:=zo H;have HC5:=zA H;clear H
 go_enter Try.func13,Try.ntmps13
 go_upto_if 14 with (first|((with_reducible refine gd 3 rfl ?_);refine zx #[.slice A0_0 l0_0.length c0_0,.slice A0_1 l0_1.length c0_1] 29 ?_;intro gb59 hg w6 BK59 hb GW59 HB1;have GE59:=GW59;clear HB hb hg;have HB:=HB1;clear HB1)|((with_reducible refine gd 4 rfl ?_);refine zx #[.slice A1_0 l1_0.length c1_0,.slice A1_1 l1_1.length c1_1] 29 ?_;intro gb60 hg w7 BK60 hb GW60 HB1;have GE60:=GW60;have NB59_60:=zL hg BK59;have NB60_59:=zLs NB59_60;replace BK59:=zw BK59 hb;clear HB hb hg;have HB:=HB1;clear HB1)|((with_reducible refine gd 5 rfl ?_);refine zx #[.func (.func 14) #[] #[]] 42 ?_;intro gb62 hg w8 BK62 hb GW62 HB1;have GE62:=GW62;have NB59_62:=zL hg BK59;have NB62_59:=zLs NB59_62;have NB60_62:=zL hg BK60;have NB62_60:=zLs NB60_62;replace BK59:=zw BK59 hb;replace BK60:=zw BK60 hb;clear HB hb hg;have HB:=HB1;clear HB1)|((with_reducible refine gd 6 rfl ?_);refine zx #[.slice none 0 0,.slice none 0 0] 29 ?_;intro gb57 hg w9 BK57 hb GW57 HB1;have GE57:=GW57;have NB59_57:=zL hg BK59;have NB57_59:=zLs NB59_57;have NB60_57:=zL hg BK60;have NB57_60:=zLs NB60_57;have NB62_57:=zL hg BK62;have NB57_62:=zLs NB62_57;replace BK59:=zw BK59 hb;replace BK60:=zw BK60 hb;replace BK62:=zw BK62 hb;clear HB hb hg;have HB:=HB1;clear HB1;have hnb10:=NB59_60.out;have hnc10:=NB60_59.out;have hnb11:=NB59_62.out;have hnc11:=NB62_59.out;have hnb12:=NB59_57.out;have hnc12:=NB57_59.out;have hcz13_0:=zc0 BK59;have hcz13_1:=zc1 BK59;have hfz13_0:=zf BK59)|((with_reducible refine gate_callee (f:=17) rfl ?_);refine zgo 12 Try.func17 #[.agg #[.slice A0_0 l0_0.length c0_0,.slice A0_1 l0_1.length c0_1]] ?_;(with_reducible refine (table_Valid.calls k _ _ l0_0 _ _ l0_1 t88 _ (zD HR0_0 HB) HC0_0.out (zD HR0_1 HB) HC0_1.out A4.out).mono ?_);rintro e w14 ⟨rfl,hb⟩;refine ⟨_,rfl,?_⟩;replace BK59:=zw BK59 hb;replace BK60:=zw BK60 hb;replace BK62:=zw BK62 hb;replace BK57:=zw BK57 hb;replace HB:=zu hb;clear hb))
 (try simp only [Act.put,zi,zs,zt]);have H:=HC5.out;clear HC5
 rcases ife H with ⟨c15b0,c15b1,H⟩|⟨c15,c15b0,c15b1,H⟩
 ·(first|rw [c15b0]|(simp only [i64_w,i32_w];rw [c15b0])|skip)
  (try rw [c15b1]);obtain ⟨t89,A16,H⟩:=zo H;have HC17:=zA H;clear H;have hnb18:=NB60_59.out;have hnc18:=NB59_60.out;have hnb19:=NB60_62.out;have hnc19:=NB62_60.out;have hnb20:=NB60_57.out;have hnc20:=NB57_60.out;have hcz21_0:=zc0 BK60;have hcz21_1:=zc1 BK60;have hfz21_0:=zf BK60
  go_upto_if 20 with (first|((with_reducible refine gate_callee (f:=17) rfl ?_);refine zgo 18 Try.func17 #[.agg #[.slice A1_0 l1_0.length c1_0,.slice A1_1 l1_1.length c1_1]] ?_;(with_reducible refine (table_Valid.calls k _ _ l1_0 _ _ l1_1 t89 _ (zD HR1_0 HB) HC1_0.out (zD HR1_1 HB) HC1_1.out A16.out).mono ?_);rintro e w22 ⟨rfl,hb⟩;refine ⟨_,rfl,?_⟩;replace BK59:=zw BK59 hb;replace BK60:=zw BK60 hb;replace BK62:=zw BK62 hb;replace BK57:=zw BK57 hb;replace HB:=zu hb;clear hb))
  (try simp only [Act.put,zi,zs,zt]);have H:=HC17.out;clear HC17
  rcases ife H with ⟨c23b0,c23b1,H⟩|⟨c23,c23b0,c23b1,H⟩
  ·(first|rw [c23b0]|(simp only [i64_w,i32_w];rw [c23b0])|skip)
   (try rw [c23b1]);obtain ⟨t80,A24,H⟩:=zo H;have HC25:=zA H;clear H;have hnb26:=NB59_60.out;have hnc26:=NB60_59.out;have hnb27:=NB59_62.out;have hnc27:=NB62_59.out;have hnb28:=NB59_57.out;have hnc28:=NB57_59.out;have hcz29_0:=zc0 BK59;have hcz29_1:=zc1 BK59;have hfz29_0:=zf BK59;have hnb30:=NB60_62.out;have hnc30:=NB62_60.out;have hnb31:=NB60_57.out;have hnc31:=NB57_60.out;have hcz32_0:=zc0 BK60;have hcz32_1:=zc1 BK60;have hfz32_0:=zf BK60
   go_upto_if 30 with (first|((with_reducible refine gate_callee (f:=19) rfl ?_);refine zgo 27 Try.func19 #[.slice A0_0 l0_0.length c0_0,.slice A1_0 l1_0.length c1_0] ?_;(with_reducible refine (table_all.calls k (fun k_=>k_<w.heap.size) _ _ l0_0 (fun k_=>k_<w.heap.size) _ _ l1_0 t80 _ ?side1 ?side2 A24.out).mono ?_);(case side1=>exact Kd.V_mk HC0_0.out (Kd.F_below (Kd.C_F (Kd.heap_int .i64) HR0_0.out) zB));(case side2=>exact Kd.V_mk HC1_0.out (Kd.F_below (Kd.C_F (Kd.heap_int .i64) HR1_0.out) zB));rintro e w33 ⟨v304,rfl,ho0,hb⟩;refine ⟨_,rfl,?_⟩;have HO90:=zA (Kd.R_lower (Kd.R_mono (ok':=fun k_=>True) ho0 (fun _ hk_=>trivial)) (below_size zB));replace BK59:=zw BK59 hb;replace BK60:=zw BK60 hb;replace BK62:=zw BK62 hb;replace BK57:=zw BK57 hb;replace HB:=zu hb;clear hb;(try clear ho0);obtain ⟨Ao34,co34,eo34⟩:=Kd.R_slice HO90.out;subst eo34))
   (try simp only [Act.put,zi,zs,zt]);have H:=HC25.out;clear HC25
   rcases if0 H with ⟨c35,H⟩|⟨c35,H⟩
   ·have c35b0:decide (10<(t80.length:Int))=true:=decide_eq_true c35;have c35b1:decide (10<t80.length)=true:=decide_eq_true (by omega);clear c35
    (first|rw [c35b0]|(simp only [i64_w,i32_w];rw [c35b0])|skip)
    (try rw [c35b1]);simp only [Option.some.injEq,Prod.mk.injEq] at H;obtain ⟨rfl,rfl,rfl⟩:=H;have hnb36:=NB57_59.out;have hnc36:=NB59_57.out;have hnb37:=NB57_60.out;have hnc37:=NB60_57.out;have hnb38:=NB57_62.out;have hnc38:=NB62_57.out;have hcz39_0:=zc0 BK57;have hcz39_1:=zc1 BK57;have hfz39_0:=zf BK57
    go_wp2
    refine bodyPost_ret (results_ct rfl _ _ gb57 29 #[.slice none 0 0,.slice none 0 0] (0,0) _ rfl (by refine zj ?_;refine blk_put (cs:=#[.slice none 0 0,.slice none 0 0]) ?_ 1 _ rfl;refine zj ?_;refine blk_put (cs:=#[.slice none 0 0,.slice none 0 0]) ?_ 0 _ rfl;refine zj ?_;exact BK57.out) Try.underlying29 rfl zK) rfl ?_;exact ⟨_,_,ze,by first|exact Kd.R_nil _ _ _ _ _|exact Kd.N_nil _ _ _ _ _|exact Kd.V_nil _ _ _ _ _|exact Kd.Q_nil _ _ _ _ _|exact Kd.S_nil _ _ _ _ _,by first|exact Kd.R_nil _ _ _ _ _|exact Kd.N_nil _ _ _ _ _|exact Kd.V_nil _ _ _ _ _|exact Kd.Q_nil _ _ _ _ _|exact Kd.S_nil _ _ _ _ _,zv4 HB GE59 GE60 GE62 GE57⟩
   ·have c35b0:decide (10<(t80.length:Int))=false:=decide_eq_false c35;have c35b1:decide (10<t80.length)=false:=decide_eq_false (by omega);clear c35
    (first|rw [c35b0]|(simp only [i64_w,i32_w];rw [c35b0])|skip)
    (try rw [c35b1]);obtain ⟨t82,t309,A40,H⟩:=zO H
    dsimp only at H
    simp only [Option.some.injEq,Prod.mk.injEq] at H;obtain ⟨rfl,rfl,rfl⟩:=H
    go_wp2_with (first|((with_reducible refine gate_callee (f:=20) rfl ?_);refine zgo 34 Try.func20 #[.slice Ao34 t80.length co34,.func (.func 21) #[] #[.pointer (some ⟨gb62,0,none⟩),.pointer (some ⟨gb59,0,none⟩),.pointer (some ⟨gb60,0,none⟩)]] ?_;(with_reducible refine (table_over_table_combine_1_table_Join_1.calls k _ _ t80 gb62 gb59 gb60 A0_0 c0_0 l0_0 A0_1 c0_1 l0_1 A1_0 c1_0 l1_0 A1_1 c1_1 l1_1 t82 t309 _ ?side1 ?side2 (zD HR0_0 HB) HC0_0.out (zD HR0_1 HB) HC0_1.out (zD HR1_0 HB) HC1_0.out (zD HR1_1 HB) HC1_1.out ?side11 ?side12 ?side13 A40.out).mono ?_);(case side1=>exact zC (Kd.R_reads' HO90.out).2.2);(case side2=>exact (Kd.R_reads' HO90.out).2.1);(case side11=>refine zj ?_;exact BK62.out);(case side12=>refine zj ?_;exact BK59.out);(case side13=>refine zj ?_;exact BK60.out);rintro e w41 ⟨v307,v310,rfl,ho0,ho1,hb⟩;refine ⟨_,rfl,?_⟩;have HO308:=zA (Kd.R_lower (Kd.R_new' ho0 (Kd.R_lt (zR HO90))) (below_size zB));have HO311:=zA (Kd.R_lower (Kd.R_new' ho1 (Kd.R_lt (zR HO90))) (below_size zB));replace HO90:=zA (Kd.R_mono (Kd.R_told (Kd.R_told (Kd.R_old (zR HO90) hb) (Kd.R_base ho0)) (Kd.R_base ho1)) (fun _ h_=>h_.1));replace BK59:=zw BK59 hb;replace BK60:=zw BK60 hb;replace BK62:=zw BK62 hb;replace BK57:=zw BK57 hb;replace HB:=zu hb;clear hb;(try clear ho0);(try clear ho1);obtain ⟨Ao42,co42,eo42⟩:=Kd.R_slice HO308.out;subst eo42;have hnb43:=NB57_59.out;have hnc43:=NB59_57.out;have hnb44:=NB57_60.out;have hnc44:=NB60_57.out;have hnb45:=NB57_62.out;have hnc45:=NB62_57.out;have hcz46_0:=zc0 BK57;have hcz46_1:=zc1 BK57;have hfz46_0:=zf BK57;obtain ⟨Ao47,co47,eo47⟩:=Kd.R_slice HO311.out;subst eo47))
    refine bodyPost_ret (results_ct rfl _ _ gb57 29 #[.slice Ao42 t82.length co42,.slice Ao47 t309.length co47] (0,0) _ rfl (by refine zj ?_;refine blk_put (cs:=#[.slice Ao42 t82.length co42,.slice none 0 0]) ?_ 1 _ rfl;refine zj ?_;refine blk_put (cs:=#[.slice none 0 0,.slice none 0 0]) ?_ 0 _ rfl;refine zj ?_;exact BK57.out) Try.underlying29 rfl zK) rfl ?_;exact ⟨_,_,ze,by refine zr ?_;exact Kd.R_mono (Kd.R_far (p:=⟨gb57,1,none⟩) (Kd.R_far (p:=⟨gb57,0,none⟩) (Kd.R_types HO308.out BK57.out (by decide)) (fun _ hk=>hk.2) (.slice Ao42 t82.length co42)) (fun _ hk=>hk.2) (.slice Ao47 t309.length co47)) (fun _ hk=>hk.1.1),by refine zr ?_;exact Kd.R_mono (Kd.R_far (p:=⟨gb57,1,none⟩) (Kd.R_far (p:=⟨gb57,0,none⟩) (Kd.R_types HO311.out BK57.out (by decide)) (fun _ hk=>hk.2) (.slice Ao42 t82.length co42)) (fun _ hk=>hk.2) (.slice Ao47 t309.length co47)) (fun _ hk=>hk.1.1),zv4 HB GE59 GE60 GE62 GE57⟩
  ·(first|rw [c23b0]|(simp only [i64_w,i32_w];rw [c23b0])|skip)
   (try rw [c23b1]);simp only [Option.some.injEq,Prod.mk.injEq] at H;obtain ⟨rfl,rfl,rfl⟩:=H;have hnb48:=NB57_59.out;have hnc48:=NB59_57.out;have hnb49:=NB57_60.out;have hnc49:=NB60_57.out;have hnb50:=NB57_62.out;have hnc50:=NB62_57.out;have hcz51_0:=zc0 BK57;have hcz51_1:=zc1 BK57;have hfz51_0:=zf BK57
   go_wp2
   refine bodyPost_ret (results_ct rfl _ _ gb57 29 #[.slice none 0 0,.slice none 0 0] (0,0) _ rfl (by refine zj ?_;refine blk_put (cs:=#[.slice none 0 0,.slice none 0 0]) ?_ 1 _ rfl;refine zj ?_;refine blk_put (cs:=#[.slice none 0 0,.slice none 0 0]) ?_ 0 _ rfl;refine zj ?_;exact BK57.out) Try.underlying29 rfl zK) rfl ?_;exact ⟨_,_,ze,by first|exact Kd.R_nil _ _ _ _ _|exact Kd.N_nil _ _ _ _ _|exact Kd.V_nil _ _ _ _ _|exact Kd.Q_nil _ _ _ _ _|exact Kd.S_nil _ _ _ _ _,by first|exact Kd.R_nil _ _ _ _ _|exact Kd.N_nil _ _ _ _ _|exact Kd.V_nil _ _ _ _ _|exact Kd.Q_nil _ _ _ _ _|exact Kd.S_nil _ _ _ _ _,zv4 HB GE59 GE60 GE62 GE57⟩
 ·(first|rw [c15b0]|(simp only [i64_w,i32_w];rw [c15b0])|skip)
  (try rw [c15b1]);simp only [Option.some.injEq,Prod.mk.injEq] at H;obtain ⟨rfl,rfl,rfl⟩:=H;have hnb52:=NB57_59.out;have hnc52:=NB59_57.out;have hnb53:=NB57_60.out;have hnc53:=NB60_57.out;have hnb54:=NB57_62.out;have hnc54:=NB62_57.out;have hcz55_0:=zc0 BK57;have hcz55_1:=zc1 BK57;have hfz55_0:=zf BK57
  go_wp2
  refine bodyPost_ret (results_ct rfl _ _ gb57 29 #[.slice none 0 0,.slice none 0 0] (0,0) _ rfl (by refine zj ?_;refine blk_put (cs:=#[.slice none 0 0,.slice none 0 0]) ?_ 1 _ rfl;refine zj ?_;refine blk_put (cs:=#[.slice none 0 0,.slice none 0 0]) ?_ 0 _ rfl;refine zj ?_;exact BK57.out) Try.underlying29 rfl zK) rfl ?_;exact ⟨_,_,ze,by first|exact Kd.R_nil _ _ _ _ _|exact Kd.N_nil _ _ _ _ _|exact Kd.V_nil _ _ _ _ _|exact Kd.Q_nil _ _ _ _ _|exact Kd.S_nil _ _ _ _ _,by first|exact Kd.R_nil _ _ _ _ _|exact Kd.N_nil _ _ _ _ _|exact Kd.V_nil _ _ _ _ _|exact Kd.Q_nil _ _ _ _ _|exact Kd.S_nil _ _ _ _ _,zv4 HB GE59 GE60 GE62 GE57⟩
def table_Join.f (k:Nat) (l0_0:List Int) (l0_1:List Int) (l1_0:List Int) (l1_1:List Int):Option (List Int×List Int×Int):=(table_combine_table_Join_1.f k l0_0 l0_1 l1_0 l1_1).bind fun bt79=>(some (bt79.1,bt79.2.1,bt79.2.2))
set_option maxHeartbeats 8000000 in
set_option maxRecDepth 100000 in
theorem table_Join.calls (k:Nat) (A0_0:Option Addr) (c0_0:Nat) (l0_0:List Int) (A0_1:Option Addr) (c0_1:Nat) (l0_1:List Int) (A1_0:Option Addr) (c1_0:Nat) (l1_0:List Int) (A1_1:Option Addr) (c1_1:Nat) (l1_1:List Int) (r1:List Int) (r2:List Int) (r3:Int) (w:World) (hr0_0:Kd.C (Kd.int .i64) w A0_0 l0_0.length l0_0) (hc0_0:l0_0.length≤c0_0) (hr0_1:Kd.C (Kd.int .i64) w A0_1 l0_1.length l0_1) (hc0_1:l0_1.length≤c0_1) (hr1_0:Kd.C (Kd.int .i64) w A1_0 l1_0.length l1_0) (hc1_0:l1_0.length≤c1_0) (hr1_1:Kd.C (Kd.int .i64) w A1_1 l1_1.length l1_1) (hc1_1:l1_1.length≤c1_1) (h:table_Join.f k l0_0 l0_1 l1_0 l1_1=some (r1,r2,r3)) :
  Calls Try.prog 7 #[.agg #[.slice A0_0 l0_0.length c0_0,.slice A0_1 l0_1.length c0_1],.agg #[.slice A1_0 l1_0.length c1_0,.slice A1_1 l1_1.length c1_1]] w fun e w'=>∃ v0_ v1_:Value,e=.returned (.tuple #[.agg #[v0_,v1_],.int .i64 r3])∧Kd.R (Kd.int .i64) 3 w' w.heap.size (fun k_=>some k_≠(v1_:Value).ownBlock) v0_ r1∧Kd.R (Kd.int .i64) 3 w' w.heap.size (fun k_=>some k_≠(v0_:Value).ownBlock) v1_ r2∧Below w.heap.size w w':=by
 have HR0_0:=zA hr0_0;have HC0_0:=zA hc0_0;clear hr0_0 hc0_0;have HR0_1:=zA hr0_1;have HC0_1:=zA hc0_1;clear hr0_1 hc0_1;have HR1_0:=zA hr1_0;have HC1_0:=zA hc1_0;clear hr1_0 hc1_0;have HR1_1:=zA hr1_1;have HC1_1:=zA hc1_1;clear hr1_1 hc1_1;have HB:=zA (Below.refl w.heap.size w);have H:((table_combine_table_Join_1.f k l0_0 l0_1 l1_0 l1_1).bind fun bt79=>(some (bt79.1,bt79.2.1,bt79.2.2)))=some (r1,r2,r3):=h;clear h;replace H:=Option.bind_eq_some_iff.mp H;obtain ⟨⟨t79,t94,t321⟩,A30,H⟩:=H;replace H:(some (t79,t94,t321))=some (r1,r2,r3):=H;have A3:=zA A30;clear A30;simp only [Option.some.injEq,Prod.mk.injEq] at H;obtain ⟨rfl,rfl,rfl⟩:=H
 go_enter Try.func7,Try.ntmps7
 go_wp2_with (first|((with_reducible refine gd 2 rfl ?_);refine zx #[.slice A0_0 l0_0.length c0_0,.slice A0_1 l0_1.length c0_1] 29 ?_;intro gb68 hg w4 BK68 hb GW68 HB1;have GE68:=GW68;clear HB hb hg;have HB:=HB1;clear HB1)|((with_reducible refine gd 3 rfl ?_);refine zx #[.slice A1_0 l1_0.length c1_0,.slice A1_1 l1_1.length c1_1] 29 ?_;intro gb70 hg w5 BK70 hb GW70 HB1;have GE70:=GW70;have NB68_70:=zL hg BK68;have NB70_68:=zLs NB68_70;replace BK68:=zw BK68 hb;clear HB hb hg;have HB:=HB1;clear HB1)|((with_reducible refine gd 4 rfl ?_);refine zx #[.slice none 0 0,.slice none 0 0] 29 ?_;intro gb67 hg w6 BK67 hb GW67 HB1;have GE67:=GW67;have NB68_67:=zL hg BK68;have NB67_68:=zLs NB68_67;have NB70_67:=zL hg BK70;have NB67_70:=zLs NB70_67;replace BK68:=zw BK68 hb;replace BK70:=zw BK70 hb;clear HB hb hg;have HB:=HB1;clear HB1;have hnb7:=NB68_70.out;have hnc7:=NB70_68.out;have hnb8:=NB68_67.out;have hnc8:=NB67_68.out;have hcz9_0:=zc0 BK68;have hcz9_1:=zc1 BK68;have hfz9_0:=zf BK68;have hnb10:=NB70_67.out;have hnc10:=NB67_70.out;have hcz11_0:=zc0 BK70;have hcz11_1:=zc1 BK70;have hfz11_0:=zf BK70)|((with_reducible refine gate_callee (f:=13) rfl ?_);refine zgo 8 Try.func13 #[.agg #[.slice A0_0 l0_0.length c0_0,.slice A0_1 l0_1.length c0_1],.agg #[.slice A1_0 l1_0.length c1_0,.slice A1_1 l1_1.length c1_1],.func (.func 14) #[] #[]] ?_;(with_reducible refine (table_combine_table_Join_1.calls k _ _ l0_0 _ _ l0_1 _ _ l1_0 _ _ l1_1  t79 t94 t321 _ (zD HR0_0 HB) HC0_0.out (zD HR0_1 HB) HC0_1.out (zD HR1_0 HB) HC1_0.out (zD HR1_1 HB) HC1_1.out A3.out).mono ?_);rintro e w12 ⟨v316,v319,rfl,ho0,ho1,hb⟩;refine ⟨_,rfl,?_⟩;have HO317:=zA (Kd.R_lower ho0 (below_size zB));have HO320:=zA (Kd.R_lower ho1 (below_size zB));replace BK68:=zw BK68 hb;replace BK70:=zw BK70 hb;replace BK67:=zw BK67 hb;replace HB:=zu hb;clear hb;(try clear ho0);(try clear ho1);obtain ⟨Ao13,co13,eo13⟩:=Kd.R_slice HO317.out;subst eo13;have hcz14_0:=zc0 BK67;have hcz14_1:=zc1 BK67;have hfz14_0:=zf BK67;obtain ⟨Ao15,co15,eo15⟩:=Kd.R_slice HO320.out;subst eo15))
 refine bodyPost_ret (results_ct rfl _ _ gb67 29 #[.slice Ao13 t79.length co13,.slice Ao15 t94.length co15] (0,0) _ rfl (by refine zj ?_;refine blk_put (cs:=#[.slice Ao13 t79.length co13,.slice none 0 0]) ?_ 1 _ rfl;refine zj ?_;refine blk_put (cs:=#[.slice none 0 0,.slice none 0 0]) ?_ 0 _ rfl;refine zj ?_;exact BK67.out) Try.underlying29 rfl zK) rfl ?_;exact ⟨_,_,ze,by refine zr ?_;exact Kd.R_mono (Kd.R_far (p:=⟨gb67,1,none⟩) (Kd.R_far (p:=⟨gb67,0,none⟩) (Kd.R_types HO317.out BK67.out (by decide)) (fun _ hk=>hk.2) (.slice Ao13 t79.length co13)) (fun _ hk=>hk.2) (.slice Ao15 t94.length co15)) (fun _ hk=>hk.1),by refine zr ?_;exact Kd.R_mono (Kd.R_far (p:=⟨gb67,1,none⟩) (Kd.R_far (p:=⟨gb67,0,none⟩) (Kd.R_types HO320.out BK67.out (by decide)) (fun _ hk=>hk.2) (.slice Ao13 t79.length co13)) (fun _ hk=>hk.2) (.slice Ao15 t94.length co15)) (fun _ hk=>hk.1),zv3 HB GE68 GE70 GE67⟩
def ancepsref38_Lists.l0:Nat→List Int→List Int→Int→Option (Bool)
 | 0,_,_,_=>none
 | k+1,x0,x1,x5=>if x5<(x0.length:Int) then (if 0≤x5 then (if x5<(x1.length:Int) then (if (rd x0 x5)=(rd x1 x5) then (ancepsref38_Lists.l0 k x0 x1 (wrap64 (x5+1))) else (some false)) else (none)) else (none)) else (some true)
def ancepsref38_Lists.f (k:Nat) (l0:List Int) (l1:List Int):Option (Bool):=if (l0.length:Int)=(l1.length:Int) then (ancepsref38_Lists.l0 k l0 l1 0) else (some false)
set_option maxHeartbeats 8000000 in
set_option maxRecDepth 100000 in
theorem ancepsref38_Lists.calls (k:Nat) (A0:Option Addr) (c0:Nat) (l0:List Int) (A1:Option Addr) (c1:Nat) (l1:List Int) (r:Bool) (w:World) (hr0:Kd.C (Kd.int .i64) w A0 l0.length l0) (hc0:l0.length≤c0) (hr1:Kd.C (Kd.int .i64) w A1 l1.length l1) (hc1:l1.length≤c1) (h:ancepsref38_Lists.f k l0 l1=some r) :
  Calls Try.prog 16 #[.slice A0 l0.length c0,.slice A1 l1.length c1] w fun e w'=>e=.returned (.bool r)∧Drawn0 w w':=by
 have HR0:=zA hr0;have HC0:=zA hc0;clear hr0 hc0;have HR1:=zA hr1;have HC1:=zA hc1;clear hr1 hc1;have H:(if (l0.length:Int)=(l1.length:Int) then (ancepsref38_Lists.l0 k l0 l1 0) else (some false))=some r:=h;clear h
 rcases if0 H with ⟨c3,H⟩|⟨c3,H⟩
 ·have c3b0:((l0.length:Int) == (l1.length:Int))=true:=beq_iff_eq.mpr c3;have c3b1:((l0.length:Int) != (l1.length:Int))=false:=bne_eq_false_iff_eq.mpr c3
  have c3b2:(l0.length == l1.length)=true:=by first|simpa using c3|(simp at c3 ⊢;omega)
  clear c3;have H':=zA H;clear H
  go_enter Try.func16,Try.ntmps16
  go_wp2
  repeat (go_quiet (fail);try go_wp2)
  go_loopg [5] k (fun kq v5 w'=>∃ (x5_1:Int),v5=.int .i64 x5_1∧Aside0 (ancepsref38_Lists.l0 kq l0 l1 x5_1=some r)∧Aside0 (kq≤k)∧Drawn0 w w')
  case atStart=>exact ⟨(0),zT,H',⟨Nat.le_refl _⟩,by repeat (first|exact Drawn0.refl _|apply Drawn0.step)⟩
  case round=>
   clear H'
   try clear c3
   try clear c3b0
   try clear c3b1
   try clear c3b2
   obtain ⟨x5_1,rfl,HA,HK1,⟨m1,rfl⟩⟩:=hrel
   cases gk with
   | zero=>exact absurd HA.out (by simp [ancepsref38_Lists.l0])
   | succ k1=>
    have H:=HA.out;clear HA;simp only [ancepsref38_Lists.l0] at H
    rcases ifd H with ⟨c4b0,H⟩|⟨c4b0,H⟩
    ·obtain ⟨c5b0,H⟩:=ifd1 H;obtain ⟨c6b0,H⟩:=ifd1 H
     rcases ife H with ⟨c7b0,c7b1,H⟩|⟨c7,c7b0,c7b1,H⟩
     ·have H':=zA H;clear H;obtain ⟨p74,q74,ad74,e74,hx74_0⟩:=zp (Kd.at_int HR0.out x5_1)
      cases e74
      replace p74:=eq_true p74;replace q74:=eq_true q74;obtain ⟨p75,q75,ad75,e75,hx75_0⟩:=zp (Kd.at_int HR1.out x5_1)
      cases e75
      replace p75:=eq_true p75;replace q75:=eq_true q75
      go_wp2
      repeat (go_quiet (fail);try go_wp2)
      go_roundg k1
      case measure=>have:=HK1.out;omega
      case rel=>exact ⟨(wrap64 (x5_1+1)),zT,H',⟨by have:=HK1.out;omega⟩,by repeat (first|exact Drawn0.refl _|apply Drawn0.step)⟩
     ·obtain rfl:=Option.some.inj H;obtain ⟨p74,q74,ad74,e74,hx74_0⟩:=zp (Kd.at_int HR0.out x5_1)
      cases e74
      replace p74:=eq_true p74;replace q74:=eq_true q74;obtain ⟨p75,q75,ad75,e75,hx75_0⟩:=zp (Kd.at_int HR1.out x5_1)
      cases e75
      replace p75:=eq_true p75;replace q75:=eq_true q75
      go_wp2
      repeat (go_quiet (fail);try go_wp2)
      go_ret
      exact ⟨by first|rfl|(simp;done)|(simp [*];done),by repeat (first|exact Drawn0.refl _|apply Drawn0.step)⟩
    ·obtain rfl:=Option.some.inj H
     go_wp2
     repeat (go_quiet (fail);try go_wp2)
     go_ret
     exact ⟨by first|rfl|(simp;done)|(simp [*];done),by repeat (first|exact Drawn0.refl _|apply Drawn0.step)⟩
 ·have c3b0:((l0.length:Int) == (l1.length:Int))=false:=beq_eq_false_iff_ne.mpr c3;have c3b1:((l0.length:Int) != (l1.length:Int))=true:=bne_iff_ne.mpr c3
  have c3b2:(l0.length == l1.length)=false:=by first|simpa using c3|(simp at c3 ⊢;omega)
  obtain rfl:=Option.some.inj H
  go_enter Try.func16,Try.ntmps16
  go_wp2
  repeat (go_quiet (fail);try go_wp2)
  go_ret
  exact ⟨by first|rfl|(simp;done)|(simp [*];done),by repeat (first|exact Drawn0.refl _|apply Drawn0.step)⟩
def ancepsref38_Equal.f (k:Nat) (l0_0:List Int) (l0_1:List Int) (l1_0:List Int) (l1_1:List Int):Option (Bool):=(ancepsref38_Lists.f k l0_0 l1_0).bind fun t95=>(if t95=true then ((ancepsref38_Lists.f k l0_1 l1_1).bind fun t91=>(some t91)) else (some false))
set_option maxHeartbeats 8000000 in
set_option maxRecDepth 100000 in
theorem ancepsref38_Equal.calls (k:Nat) (A0_0:Option Addr) (c0_0:Nat) (l0_0:List Int) (A0_1:Option Addr) (c0_1:Nat) (l0_1:List Int) (A1_0:Option Addr) (c1_0:Nat) (l1_0:List Int) (A1_1:Option Addr) (c1_1:Nat) (l1_1:List Int) (r:Bool) (w:World) (hr0_0:Kd.C (Kd.int .i64) w A0_0 l0_0.length l0_0) (hc0_0:l0_0.length≤c0_0) (hr0_1:Kd.C (Kd.int .i64) w A0_1 l0_1.length l0_1) (hc0_1:l0_1.length≤c0_1) (hr1_0:Kd.C (Kd.int .i64) w A1_0 l1_0.length l1_0) (hc1_0:l1_0.length≤c1_0) (hr1_1:Kd.C (Kd.int .i64) w A1_1 l1_1.length l1_1) (hc1_1:l1_1.length≤c1_1) (h:ancepsref38_Equal.f k l0_0 l0_1 l1_0 l1_1=some r) :
  Calls Try.prog 10 #[.agg #[.slice A0_0 l0_0.length c0_0,.slice A0_1 l0_1.length c0_1],.agg #[.slice A1_0 l1_0.length c1_0,.slice A1_1 l1_1.length c1_1]] w fun e w'=>e=.returned (.bool r)∧Below w.heap.size w w':=by
 have HR0_0:=zA hr0_0;have HC0_0:=zA hc0_0;clear hr0_0 hc0_0;have HR0_1:=zA hr0_1;have HC0_1:=zA hc0_1;clear hr0_1 hc0_1;have HR1_0:=zA hr1_0;have HC1_0:=zA hc1_0;clear hr1_0 hc1_0;have HR1_1:=zA hr1_1;have HC1_1:=zA hc1_1;clear hr1_1 hc1_1;have HB:=zA (Below.refl w.heap.size w);have H:((ancepsref38_Lists.f k l0_0 l1_0).bind fun t95=>(if t95=true then ((ancepsref38_Lists.f k l0_1 l1_1).bind fun t91=>(some t91)) else (some false)))=some r:=h;clear h;have HC3:=zA H;clear H
 go_enter Try.func10,Try.ntmps10
 go_upto_region 1 with (first|((with_reducible refine gd 2 rfl ?_);refine zx #[.slice A0_0 l0_0.length c0_0,.slice A0_1 l0_1.length c0_1] 29 ?_;intro gb71 hg w4 BK71 hb GW71 HB1;have GE71:=GW71;clear HB hb hg;have HB:=HB1;clear HB1)|((with_reducible refine gd 3 rfl ?_);refine zx #[.slice A1_0 l1_0.length c1_0,.slice A1_1 l1_1.length c1_1] 29 ?_;intro gb73 hg w5 BK73 hb GW73 HB1;have GE73:=GW73;have NB71_73:=zL hg BK71;have NB73_71:=zLs NB71_73;replace BK71:=zw BK71 hb;clear HB hb hg;have HB:=HB1;clear HB1))
 (try simp only [Act.put,zi,zs,zt]);have H:=HC3.out;clear HC3;obtain ⟨t95,A6,H⟩:=zo H
 by_cases c7:t95=true
 ·subst c7
  have H1:((ancepsref38_Lists.f k l0_1 l1_1).bind fun t91=>(some t91))=some r:=by rw [if_pos rfl] at H;exact H
  clear H;have H:=H1;clear H1;obtain ⟨t91,A8,H⟩:=zo H;obtain rfl:=Option.some.inj H;have hnb9:=NB71_73.out;have hnc9:=NB73_71.out;have hcz10_0:=zc0 BK71;have hcz10_1:=zc1 BK71;have hfz10_0:=zf BK71;have hcz11_0:=zc0 BK73;have hcz11_1:=zc1 BK73;have hfz11_0:=zf BK73
  go_wp2_with (first|((with_reducible refine gate_callee (f:=16) rfl ?_);refine zgo 9 Try.func16 #[.slice A0_0 l0_0.length c0_0,.slice A1_0 l1_0.length c1_0] ?_;(with_reducible refine (ancepsref38_Lists.calls k _ _ l0_0 _ _ l1_0 true _ (zD HR0_0 HB) HC0_0.out (zD HR1_0 HB) HC1_0.out A6.out).mono ?_);rintro e w' ⟨rfl,⟨nd,rfl⟩⟩;refine ⟨_,rfl,?_⟩)|(go_at_call 16;(with_reducible refine (ancepsref38_Lists.calls k _ _ l0_1 _ _ l1_1 t91 _ ?side1 HC0_1.out ?side3 HC1_1.out A8.out).mono ?_);(case side1=>repeat (first|exact (Kd.C_below HR0_1.out zB)|(with_reducible refine Kd.C_alloc ?_ _)|(with_reducible refine Kd.C_drewN ?_ _)|(with_reducible refine Kd.C_drew ?_)));(case side3=>repeat (first|exact (Kd.C_below HR1_1.out zB)|(with_reducible refine Kd.C_alloc ?_ _)|(with_reducible refine Kd.C_drewN ?_ _)|(with_reducible refine Kd.C_drew ?_)));rintro e w' ⟨rfl,⟨nd,rfl⟩⟩))
  go_ret
  exact ⟨ze,zv2 HB GE71 GE73⟩
 ·replace c7:=Bool.eq_false_iff.mpr c7;subst c7
  have H1:(some false)=some r:=by rw [if_neg (show ¬ (false=true) by decide)] at H;exact H
  clear H;have H:=H1;clear H1;obtain rfl:=Option.some.inj H;have hnb12:=NB71_73.out;have hnc12:=NB73_71.out;have hcz13_0:=zc0 BK71;have hcz13_1:=zc1 BK71;have hfz13_0:=zf BK71;have hcz14_0:=zc0 BK73;have hcz14_1:=zc1 BK73;have hfz14_0:=zf BK73
  go_wp2_with (first|((with_reducible refine gate_callee (f:=16) rfl ?_);refine zgo 9 Try.func16 #[.slice A0_0 l0_0.length c0_0,.slice A1_0 l1_0.length c1_0] ?_;(with_reducible refine (ancepsref38_Lists.calls k _ _ l0_0 _ _ l1_0 false _ (zD HR0_0 HB) HC0_0.out (zD HR1_0 HB) HC1_0.out A6.out).mono ?_);rintro e w' ⟨rfl,⟨nd,rfl⟩⟩;refine ⟨_,rfl,?_⟩))
  go_ret
  exact ⟨ze,zv2 HB GE71 GE73⟩
def table_without_1_v1.f (a0:Int) (a1_0:Int):Option (Bool):=some (a0 == a1_0)
set_option maxHeartbeats 8000000 in
set_option maxRecDepth 100000 in
theorem table_without_1_v1.calls (a0:Int) (gp1_0:Nat) (a1_0:Int) (r:Bool) (w:World) (hb_gp1_0:w.heap[gp1_0]?=some (.cells #[.int .i64 a1_0] 3 (0,0))) (h:table_without_1_v1.f a0 a1_0=some r) :
  Calls Try.prog 36 #[.int .i64 a0,.pointer (some ⟨gp1_0,0,none⟩)] w fun e w'=>e=.returned (.bool r)∧Drawn0 w w':=by
 have BK328:=zA hb_gp1_0;clear hb_gp1_0;have H:(some (a0 == a1_0))=some r:=h;clear h;obtain rfl:=Option.some.inj H;have hcz3_0:w.cell? ⟨gp1_0,0,none⟩=some (.int .i64 a1_0):=zc0 BK328;have hfz3_0:=zf BK328 0
 go_enter Try.func36,Try.ntmps36
 go_wp2
 go_ret
 exact ⟨by first|rfl|(simp;done)|(simp [*];done),by repeat (first|exact Drawn0.refl _|apply Drawn0.step)⟩
section
open Go.Sort Go.Shelf
def slices_DeleteFunc_int_int_table_without_1.f (l0:List Int) (a1_0:Int):Option (List Int):=some (l0.filter fun x=>!(x == a1_0))
theorem slices_DeleteFunc_int_int_table_without_1.calls (P0_:Nat→Prop) (u102_:Value) (l0:List Int) (gp1_0:Nat) (a1_0:Int) (r:List Int) (w0 w:World) (hB:Below w0.heap.size w0 w) (ho0:Kd.R (Kd.int .i64) 3 w w0.heap.size P0_ u102_ l0) (hb_gp1_0:w.heap[gp1_0]?=some (.cells #[.int .i64 a1_0] 3 (0,0))) (hap:∀ k_,P0_ k_→k_≠gp1_0) (h:slices_DeleteFunc_int_int_table_without_1.f l0 a1_0=some r) :
 Calls Try.prog 35 #[u102_,.func (.func 36) #[] #[.pointer (some ⟨gp1_0,0,none⟩)]] w fun e w'=>∃ v0_:Value,e=.returned (v0_)∧Kd.R (Kd.int .i64) 3 w' w0.heap.size (fun k_=>(P0_ k_∨w.heap.size≤k_)) v0_ r∧Below w0.heap.size w0 w'∧Kept w w' (fun k_=>P0_ k_):=by
 obtain rfl:=Option.some.inj h;obtain ⟨A,c,rfl⟩:=Kd.R_slice ho0
 have hone:OneCell (Value.int .i64):=fun _=>rfl
 have hgp:gp1_0<w.heap.size:=(Array.getElem?_eq_some_iff.1 hb_gp1_0).1
 have gives:∀ (W:World) (x:Int),W.heap[gp1_0]?=some (.cells #[.int .i64 a1_0] 3 (0,0))→FnGives Try.prog 36 #[.pointer (some ⟨gp1_0,0,none⟩)] #[.int .i64 x] (.bool (x == a1_0)) W:=by
  intro W x hb;refine (table_without_1_v1.calls x gp1_0 a1_0 (x == a1_0) W hb rfl).mono ?_;rintro e w' ⟨rfl,hd⟩;exact ⟨rfl,hd.out⟩
 have hp:PredAt Try.prog 36 #[.pointer (some ⟨gp1_0,0,none⟩)] (Value.int .i64) (fun x=>x == a1_0) w:=fun W x hb=>gives W x ((hb.block _ hgp).trans hb_gp1_0)
 rcases A with _|ad
 ·have hl:l0=[]:=by
   rcases l0 with _|⟨x,xs⟩
   ·rfl
   ·have ho:=Kd.own_of_R (enc:=Value.int .i64) (h1:=fun _=>rfl) ho0
    rcases ho.2 with ⟨_,h0⟩|⟨_,_,_,h0,_⟩
    ·simp at h0
    ·simp at h0
  subst hl;refine (deleteFunc_nil laysDelete c _ w).mono ?_;rintro e w' ⟨rfl,rfl⟩;exact ⟨_,rfl,Kd.R_mono ho0 (fun k hk=>.inl hk),hB,Kept.refl _ _⟩
 ·have had:∃ g,ad=⟨g,0,none⟩:=by
   have ho:=Kd.own_of_R (enc:=Value.int .i64) (h1:=fun _=>rfl) ho0
   rcases ho.2 with ⟨h0,_⟩|⟨g,_,_,h0,_⟩
   ·simp at h0
   ·injection h0 with h0;injection h0 with h0;exact ⟨g,h0⟩
  obtain ⟨g,rfl⟩:=had;obtain ⟨h1,h2,h3,h4,h5,h6,h7⟩:=int_row ho0
  have hne:gp1_0≠g:=fun e_=>hap g h1 e_.symm
  have hpo:PredOver Try.prog 36 #[.pointer (some ⟨gp1_0,0,none⟩)] (Value.int .i64) (fun x=>x == a1_0) g 0 l0.toArray.size w:=by
   intro n os dk x _;refine gives _ x ?_
   show (grow (putRow (Value.int .i64) (Sort.ahead w n) g 0 dk) os).heap[gp1_0]?=_
   rw [heap_grow_old _ _ (by simpa [putRow,mapBlock,Sort.ahead] using hgp)]
   simpa [putRow,mapBlock,Sort.ahead,Array.getElem?_modify,hne.symm] using hb_gp1_0
  have key:=AnyE.slices_DeleteFunc laysDelete (Value.int .i64) hone (fun x=>x == a1_0) 36 #[.pointer (some ⟨gp1_0,0,none⟩)] (enters_of Try.func36 zK rfl) 0 Try.zeroValue3 g 0 c l0.toArray w hp hpo h7 (by unfold maxLen at h6;simp;omega) (by simpa using h5);have hle:(l0.filter fun x=>!(x == a1_0)).length≤l0.length:=List.length_filter_le _ _;rw [List.size_toArray] at key;refine key.mono ?_;rintro e w' ⟨rfl,q,rfl⟩;have hr:=int_row_put (ok':=fun k_=>(P0_ k_∨w.heap.size≤k_)) (ys:=(l0.filter fun x=>!(x == a1_0))++List.replicate (l0.length - (l0.filter fun x=>!(x == a1_0)).length) 0) ho0 q #[] (by simp;omega) hle (.inl h1);rw [List.take_left,grow_empty] at hr;have hb:=put_below hB h2 q #[] ((l0.filter fun x=>!(x == a1_0))++List.replicate (l0.length - (l0.filter fun x=>!(x == a1_0)).length) 0).toArray;have hk:=put_kept (ok:=fun k_=>P0_ k_) (w:=w) q #[] ((l0.filter fun x=>!(x == a1_0))++List.replicate (l0.length - (l0.filter fun x=>!(x == a1_0)).length) 0).toArray h1;rw [grow_empty] at hb hk;exact ⟨_,rfl,hr,hb,hk⟩
end
def table_without.f (l0:List Int) (a1:Int):Option (List Int):=(slices_Clone_int_int.f l0).bind fun t83=>((slices_DeleteFunc_int_int_table_without_1.f t83 a1).bind fun t96=>(some t96))
set_option maxHeartbeats 8000000 in
set_option maxRecDepth 100000 in
theorem table_without.calls (A0:Option Addr) (c0:Nat) (l0:List Int) (a1:Int) (r:List Int) (w:World) (hr0:Kd.C (Kd.int .i64) w A0 l0.length l0) (hc0:l0.length≤c0) (h:table_without.f l0 a1=some r) :
  Calls Try.prog 24 #[.slice A0 l0.length c0,.int .i64 a1] w fun e w'=>∃ v0_:Value,e=.returned (v0_)∧Kd.R (Kd.int .i64) 3 w' w.heap.size (fun _=>True) v0_ r∧Below w.heap.size w w':=by
 have HR0:=zA hr0;have HC0:=zA hc0;clear hr0 hc0;have HB:=zA (Below.refl w.heap.size w);have H:((slices_Clone_int_int.f l0).bind fun t83=>((slices_DeleteFunc_int_int_table_without_1.f t83 a1).bind fun t96=>(some t96)))=some r:=h;clear h;obtain ⟨t83,A3,H⟩:=zo H;obtain ⟨t96,A4,H⟩:=zo H;obtain rfl:=Option.some.inj H
 go_enter Try.func24,Try.ntmps24
 go_wp2_with (first|((with_reducible refine gd 3 rfl ?_);refine zx #[.int .i64 a1] 3 ?_;intro gb78 hg w5 BK78 hb GW78 HB1;have GE78:=GW78;clear HB hb hg;have HB:=HB1;clear HB1)|((with_reducible refine gate_callee (f:=28) rfl ?_);refine zgo 6 Try.func28 #[.slice A0 l0.length c0] ?_;(with_reducible refine (slices_Clone_int_int.calls _ _ l0 t83 _ (zD HR0 HB) HC0.out A3.out).mono ?_);rintro e w6 ⟨v331,rfl,ho0,hb⟩;refine ⟨_,rfl,?_⟩;have HO92:=zA (Kd.R_lower (Kd.R_newB ho0 (g:=gb78) (o:=.cells #[.int .i64 a1] 3 (0,0)) (zk BK78)) (below_size zB));replace BK78:=zw BK78 hb;replace HB:=zu hb;clear hb;(try clear ho0);obtain ⟨Ao7,co7,eo7⟩:=Kd.R_slice HO92.out;subst eo7)|((with_reducible refine gate_callee (f:=35) rfl ?_);refine zgo 8 Try.func35 #[.slice Ao7 t83.length co7,.func (.func 36) #[] #[.pointer (some ⟨gb78,0,none⟩)]] ?_;(with_reducible refine (slices_DeleteFunc_int_int_table_without_1.calls (fun k_=>some k_=(.slice Ao7 t83.length co7:Value).ownBlock) (.slice Ao7 t83.length co7) t83 gb78 a1 t96 w _ ?side1 ?side2 ?side3 ?side4 A4.out).mono ?_);(case side1=>repeat (first|(with_reducible first|exact HB.out|apply below_alloc|apply pw_below_drewN|apply below_drew1|refine below_set ?_ GE78.out)|exact HB.out));(case side2=>exact Kd.R_tight rfl HO92.out);(case side3=>refine zj ?_;exact BK78.out);(case side4=>exact fun k_ e_=>(HO92.out.1 k_ e_.symm).2);rintro e w8 ⟨v334,rfl,ho0,hb,hkp⟩;refine ⟨_,rfl,?_⟩;have HO335:=zA (Kd.R_mono (ok':=fun k_=>k_≠gb78) ho0 (fun k_ hk_=>Or.elim hk_ (fun hs_=>fun e_=>(Kd.R_away HO92.out (fun _ hk=>hk.2)) (by rw [← e_];exact hs_)) (fun hn_=>(Kd.freshB (g:=gb78) (o:=.cells #[.int .i64 a1] 3 (0,0)) (zk BK78) k_ hn_))));replace BK78:=zA (blk_kept (zk BK78) hkp (fun hs_=>(fun e_=>(Kd.R_away HO92.out (fun _ hk=>hk.2)) e_) hs_));replace HB:=zA (hb);clear HO92;(try clear hb);(try clear hkp);(try clear ho0)))
 go_ret
 exact ⟨_,ze,by refine zr ?_;exact Kd.R_mono HO335.out (fun _ hk=>trivial),zv1 HB GE78⟩
def slices_Equal_int_int.l0:Nat→List Int→List Int→Int→Int→Option (Bool)
 | 0,_,_,_,_=>none
 | k+1,x0,x1,x12,x13=>if x13<x12 then (if 0≤x13 then (if x13<(x0.length:Int) then (if x13<(x1.length:Int) then (if (rd x0 x13)=(rd x1 x13) then (slices_Equal_int_int.l0 k x0 x1 x12 (wrap64 (x13+1))) else (some false)) else (none)) else (none)) else (none)) else (some true)
def slices_Equal_int_int.f (k:Nat) (l0:List Int) (l1:List Int):Option (Bool):=if (l0.length:Int)=(l1.length:Int) then (slices_Equal_int_int.l0 k l0 l1 (l0.length:Int) 0) else (some false)
set_option maxHeartbeats 8000000 in
set_option maxRecDepth 100000 in
theorem slices_Equal_int_int.calls (k:Nat) (A0:Option Addr) (c0:Nat) (l0:List Int) (A1:Option Addr) (c1:Nat) (l1:List Int) (r:Bool) (w:World) (hr0:Kd.C (Kd.int .i64) w A0 l0.length l0) (hc0:l0.length≤c0) (hr1:Kd.C (Kd.int .i64) w A1 l1.length l1) (hc1:l1.length≤c1) (h:slices_Equal_int_int.f k l0 l1=some r) :
  Calls Try.prog 27 #[.slice A0 l0.length c0,.slice A1 l1.length c1] w fun e w'=>e=.returned (.bool r)∧Drawn0 w w':=by
 have HR0:=zA hr0;have HC0:=zA hc0;clear hr0 hc0;have HR1:=zA hr1;have HC1:=zA hc1;clear hr1 hc1;have H:(if (l0.length:Int)=(l1.length:Int) then (slices_Equal_int_int.l0 k l0 l1 (l0.length:Int) 0) else (some false))=some r:=h;clear h
 rcases if0 H with ⟨c3,H⟩|⟨c3,H⟩
 ·have c3b0:((l0.length:Int) == (l1.length:Int))=true:=beq_iff_eq.mpr c3;have c3b1:((l0.length:Int) != (l1.length:Int))=false:=bne_eq_false_iff_eq.mpr c3
  have c3b2:(l0.length == l1.length)=true:=by first|simpa using c3|(simp at c3 ⊢;omega)
  clear c3;have H':=zA H;clear H
  go_enter Try.func27,Try.ntmps27
  go_wp2
  repeat (go_quiet (fail);try go_wp2)
  go_loopg [13] k (fun kq v13 w'=>∃ (x13_1:Int),v13=.int .i64 x13_1∧Aside0 (slices_Equal_int_int.l0 kq l0 l1 (l0.length:Int) x13_1=some r)∧Aside0 (kq≤k)∧Drawn0 w w')
  case atStart=>exact ⟨(0),zT,H',⟨Nat.le_refl _⟩,by repeat (first|exact Drawn0.refl _|apply Drawn0.step)⟩
  case round=>
   clear H'
   try clear c3
   try clear c3b0
   try clear c3b1
   try clear c3b2
   obtain ⟨x13_1,rfl,HA,HK1,⟨m1,rfl⟩⟩:=hrel
   cases gk with
   | zero=>exact absurd HA.out (by simp [slices_Equal_int_int.l0])
   | succ k1=>
    have H:=HA.out;clear HA;simp only [slices_Equal_int_int.l0] at H
    rcases ifd H with ⟨c4b0,H⟩|⟨c4b0,H⟩
    ·obtain ⟨c5b0,H⟩:=ifd1 H;obtain ⟨c6b0,H⟩:=ifd1 H;obtain ⟨c7b0,H⟩:=ifd1 H
     rcases ife H with ⟨c8b0,c8b1,H⟩|⟨c8,c8b0,c8b1,H⟩
     ·have H':=zA H;clear H;obtain ⟨p76,q76,ad76,e76,hx76_0⟩:=zp (Kd.at_int HR0.out x13_1)
      cases e76
      replace p76:=eq_true p76;replace q76:=eq_true q76;obtain ⟨p77,q77,ad77,e77,hx77_0⟩:=zp (Kd.at_int HR1.out x13_1)
      cases e77
      replace p77:=eq_true p77;replace q77:=eq_true q77
      go_wp2
      repeat (go_quiet (fail);try go_wp2)
      go_roundg k1
      case measure=>have:=HK1.out;omega
      case rel=>exact ⟨(wrap64 (x13_1+1)),zT,H',⟨by have:=HK1.out;omega⟩,by repeat (first|exact Drawn0.refl _|apply Drawn0.step)⟩
     ·obtain rfl:=Option.some.inj H;obtain ⟨p76,q76,ad76,e76,hx76_0⟩:=zp (Kd.at_int HR0.out x13_1)
      cases e76
      replace p76:=eq_true p76;replace q76:=eq_true q76;obtain ⟨p77,q77,ad77,e77,hx77_0⟩:=zp (Kd.at_int HR1.out x13_1)
      cases e77
      replace p77:=eq_true p77;replace q77:=eq_true q77
      go_wp2
      repeat (go_quiet (fail);try go_wp2)
      go_ret
      exact ⟨by first|rfl|(simp;done)|(simp [*];done),by repeat (first|exact Drawn0.refl _|apply Drawn0.step)⟩
    ·obtain rfl:=Option.some.inj H
     go_wp2
     repeat (go_quiet (fail);try go_wp2)
     go_ret
     exact ⟨by first|rfl|(simp;done)|(simp [*];done),by repeat (first|exact Drawn0.refl _|apply Drawn0.step)⟩
 ·have c3b0:((l0.length:Int) == (l1.length:Int))=false:=beq_eq_false_iff_ne.mpr c3;have c3b1:((l0.length:Int) != (l1.length:Int))=true:=bne_iff_ne.mpr c3
  have c3b2:(l0.length == l1.length)=false:=by first|simpa using c3|(simp at c3 ⊢;omega)
  obtain rfl:=Option.some.inj H
  go_enter Try.func27,Try.ntmps27
  go_wp2
  repeat (go_quiet (fail);try go_wp2)
  go_ret
  exact ⟨by first|rfl|(simp;done)|(simp [*];done),by repeat (first|exact Drawn0.refl _|apply Drawn0.step)⟩
def table_vital_1_v1.f (k:Nat) (a0:Int) (l1_0:List Int) (l1_1:List Int):Option (Bool):=(table_has.f k l1_0 l1_1 a0).bind fun t97=>(some t97)
set_option maxHeartbeats 8000000 in
set_option maxRecDepth 100000 in
theorem table_vital_1_v1.calls (k:Nat) (a0:Int) (gp1_0:Nat) (A1_0:Option Addr) (c1_0:Nat) (l1_0:List Int) (A1_1:Option Addr) (c1_1:Nat) (l1_1:List Int) (r:Bool) (w:World) (hr1_0:Kd.C (Kd.int .i64) w A1_0 l1_0.length l1_0) (hc1_0:l1_0.length≤c1_0) (hr1_1:Kd.C (Kd.int .i64) w A1_1 l1_1.length l1_1) (hc1_1:l1_1.length≤c1_1) (hb_gp1_0:w.heap[gp1_0]?=some (.cells #[.slice A1_0 l1_0.length c1_0,.slice A1_1 l1_1.length c1_1] 29 (0,0))) (h:table_vital_1_v1.f k a0 l1_0 l1_1=some r) :
  Calls Try.prog 25 #[.int .i64 a0,.pointer (some ⟨gp1_0,0,none⟩)] w fun e w'=>e=.returned (.bool r)∧Below w.heap.size w w':=by
 have HR1_0:=zA hr1_0;have HC1_0:=zA hc1_0;clear hr1_0 hc1_0;have HR1_1:=zA hr1_1;have HC1_1:=zA hc1_1;clear hr1_1 hc1_1;have BK93:=zA hb_gp1_0;clear hb_gp1_0;have HB:=zA (Below.refl w.heap.size w);have H:((table_has.f k l1_0 l1_1 a0).bind fun t97=>(some t97))=some r:=h;clear h;obtain ⟨t97,A3,H⟩:=zo H;obtain rfl:=Option.some.inj H;have hcz4_0:w.cell? ⟨gp1_0,0,none⟩=some (.slice A1_0 l1_0.length c1_0):=zc0 BK93;have hcz4_1:w.cell? ⟨gp1_0,1,none⟩=some (.slice A1_1 l1_1.length c1_1):=zc1 BK93;have hfz4_0:=zf BK93
 go_enter Try.func25,Try.ntmps25
 go_wp2_with (first|((with_reducible refine gate_callee (f:=22) rfl ?_);refine zgo 6 Try.func22 #[.agg #[.slice A1_0 l1_0.length c1_0,.slice A1_1 l1_1.length c1_1],.int .i64 a0] ?_;(with_reducible refine (table_has.calls k _ _ l1_0 _ _ l1_1 a0 t97 _ ?side1 HC1_0.out ?side3 HC1_1.out A3.out).mono ?_);(case side1=>repeat (first|exact HR1_0.out|(with_reducible refine Kd.C_alloc ?_ _)|(with_reducible refine Kd.C_drewN ?_ _)|(with_reducible refine Kd.C_drew ?_)));(case side3=>repeat (first|exact HR1_1.out|(with_reducible refine Kd.C_alloc ?_ _)|(with_reducible refine Kd.C_drewN ?_ _)|(with_reducible refine Kd.C_drew ?_)));rintro e w5 ⟨rfl,hb⟩;refine ⟨_,rfl,?_⟩;replace BK93:=zw BK93 hb;replace HB:=zu hb;clear hb))
 go_ret
 exact ⟨ze,zv0 HB⟩
end Go.Proofs.Ytilljenmobgkaaa.A
