import Derived.Test.YtilljenmobgkaaaA0
import Derived.Test.YtilljenmobgkaaaA1
import Derived.Test.YtilljenmobgkaaaA2
namespace Go.Proofs.Ytilljenmobgkaaa.A
open Go.RowKit Go.Proofs.YtilljenmobgkaaaW.PrintWords Go.Proofs.YtilljenmobgkaaaW.PrintLast Go.Proofs.YtilljenmobgkaaaW.PrintMore
attribute [local go_sem] max2_int min2_int max_two min_two max_three min_three max_four min_four Try.underlying27 Try.underlying29 Try.underlying3
set_option linter.unusedVariables false
set_option linter.unusedSimpArgs false
def table_over_table_vital_1.l0:Nat→List Int→Int→Int→List Int→List Int→List Int→List Int→Option (List Int×List Int)
 | 0,_,_,_,_,_,_,_=>none
 | k+1,x0,x12,x13,x46,x47,x42,x40=>if x13<x12 then ((table_assignment.f k x0 x13).bind fun t37=>((table_vital_1_v1.f k t37 x46 x47).bind fun t49=>(if t49=true then (if x40.length<17592186044416 then (table_over_table_vital_1.l0 k x0 x12 (wrap64 (x13+1)) x46 x47 x42 (x40++[x13])) else (none)) else (table_over_table_vital_1.l0 k x0 x12 (wrap64 (x13+1)) x46 x47 x42 x40)))) else (some (x42,x40))
def table_over_table_vital_1.f (k:Nat) (l0:List Int) (l1_0:List Int) (l1_1:List Int):Option (List Int×List Int):=(slices_Clone_int_int.f l0).bind fun t36=>(table_over_table_vital_1.l0 k l0 (shl .i64 1 (l0.length:Int)) 0 l1_0 l1_1 t36 ([]:List Int))
set_option maxHeartbeats 8000000 in
set_option maxRecDepth 100000 in
theorem table_over_table_vital_1.calls (k:Nat) (A0:Option Addr) (c0:Nat) (l0:List Int) (gp1_0:Nat) (A1_0:Option Addr) (c1_0:Nat) (l1_0:List Int) (A1_1:Option Addr) (c1_1:Nat) (l1_1:List Int) (r1:List Int) (r2:List Int) (w:World) (hr0:Kd.C (Kd.int .i64) w A0 l0.length l0) (hc0:l0.length≤c0) (hr1_0:Kd.C (Kd.int .i64) w A1_0 l1_0.length l1_0) (hc1_0:l1_0.length≤c1_0) (hr1_1:Kd.C (Kd.int .i64) w A1_1 l1_1.length l1_1) (hc1_1:l1_1.length≤c1_1) (hb_gp1_0:w.heap[gp1_0]?=some (.cells #[.slice A1_0 l1_0.length c1_0,.slice A1_1 l1_1.length c1_1] 29 (0,0))) (h:table_over_table_vital_1.f k l0 l1_0 l1_1=some (r1,r2)) :
  Calls Try.prog 20 #[.slice A0 l0.length c0,.func (.func 25) #[] #[.pointer (some ⟨gp1_0,0,none⟩)]] w fun e w'=>∃ v0_ v1_:Value,e=.returned (.agg #[v0_,v1_])∧Kd.R (Kd.int .i64) 3 w' w.heap.size (fun k_=>some k_≠(v1_:Value).ownBlock) v0_ r1∧Kd.R (Kd.int .i64) 3 w' w.heap.size (fun k_=>some k_≠(v0_:Value).ownBlock) v1_ r2∧Below w.heap.size w w':=by
 have HR0:=zA hr0;have HC0:=zA hc0;clear hr0 hc0;have HR1_0:=zA hr1_0;have HC1_0:=zA hc1_0;clear hr1_0 hc1_0;have HR1_1:=zA hr1_1;have HC1_1:=zA hc1_1;clear hr1_1 hc1_1;have BK38:=zA hb_gp1_0;clear hb_gp1_0;have HB:=zA (Below.refl w.heap.size w);have H:((slices_Clone_int_int.f l0).bind fun t36=>(table_over_table_vital_1.l0 k l0 (shl .i64 1 (l0.length:Int)) 0 l1_0 l1_1 t36 ([]:List Int)))=some (r1,r2):=h;clear h;obtain ⟨t36,A3,H⟩:=zo H;obtain ⟨ji4,hji4⟩:=zZ (shl .i64 1 (l0.length:Int))
 first|rw [hji4] at H|simp only [hji4] at H
 (try rw [hji4] at A3);have hji4_:(IntKind.i64.wrap (1 * 2 ^ min (l0.length:Int).toNat 64))=ji4:=hji4;have hji4z:(l0.length:Int)≤64→(IntKind.i64.wrap (1 * 2 ^ (l0.length:Int).toNat))=ji4:=shl_small hji4;have hji4p:(IntKind.i64.wrap (1 * 2 ^ min l0.length 64))=ji4:=hji4_;have hji4q:(l0.length:Int)≤64→(IntKind.i64.wrap (1 * 2 ^ l0.length))=ji4:=hji4z
 have hji4r:(IntKind.i64.wrap (2 ^ min l0.length 64))=ji4:=by have h_:=hji4p;rw [Int.one_mul] at h_;exact h_
 have hji4s:(l0.length:Int)≤64→(IntKind.i64.wrap (2 ^ l0.length))=ji4:=fun hle_=>by have h_:=hji4q hle_;rw [Int.one_mul] at h_;exact h_
 have hji4u:(IntKind.i64.wrap (2 ^ min (l0.length:Int).toNat 64))=ji4:=by have h_:=hji4_;rw [Int.one_mul] at h_;exact h_
 have hji4v:(l0.length:Int)≤64→(IntKind.i64.wrap (2 ^ (l0.length:Int).toNat))=ji4:=fun hle_=>by have h_:=hji4z hle_;rw [Int.one_mul] at h_;exact h_
 have hji4y:(wrap64 (1 * 2 ^ min (l0.length:Int).toNat 64))=ji4:=(i64_w _).symm.trans hji4_
 have hji4x:(l0.length:Int)≤64→(wrap64 (1 * 2 ^ (l0.length:Int).toNat))=ji4:=fun h_=>(i64_w _).symm.trans (hji4z h_)
 have H':=zA H;clear H
 go_enter Try.func20,Try.ntmps20
 go_wp2_with (first|((with_reducible refine gd 4 rfl ?_);refine zx #[.slice none 0 0,.slice none 0 0] 29 ?_;intro gb35 hg w5 BK35 hb GW35 HB1;have GE35:=GW35;have NB38_35:=zL hg BK38;have NB35_38:=zLs NB38_35;replace BK38:=zw BK38 hb;clear HB hb hg;have HB:=HB1;clear HB1)|((with_reducible refine gate_callee (f:=28) rfl ?_);refine zgo 8 Try.func28 #[.slice A0 l0.length c0] ?_;(with_reducible refine (slices_Clone_int_int.calls _ _ l0 t36 _ (zD HR0 HB) HC0.out A3.out).mono ?_);rintro e w6 ⟨v44,rfl,ho0,hb⟩;refine ⟨_,rfl,?_⟩;have HO51:=zA (Kd.R_lower ho0 (below_size zB));replace BK38:=zw BK38 hb;replace BK35:=zw BK35 hb;replace HB:=zu hb;clear hb;(try clear ho0);obtain ⟨Ao7,co7,eo7⟩:=Kd.R_slice HO51.out;subst eo7)|((with_reducible refine gd 5 rfl ?_);refine zx #[.slice none 0 0,.slice none 0 0] 29 ?_;intro gb41 hg w8 BK41 hb GW41 HB1;have GE41:=GW41;have NB38_41:=zL hg BK38;have NB41_38:=zLs NB38_41;have NB35_41:=zL hg BK35;have NB41_35:=zLs NB35_41;replace HO51:=zA (Kd.R_below (zR HO51) hb);replace BK38:=zw BK38 hb;replace BK35:=zw BK35 hb;clear HB hb hg;have HB:=HB1;clear HB1;have hnb9:=NB41_38.out;have hnc9:=NB38_41.out;have hnb10:=NB41_35.out;have hnc10:=NB35_41.out;have hcz11_0:=zc0 BK41;have hcz11_1:=zc1 BK41;have hfz11_0:=zf BK41))
 go_loopg [13] k (fun kq v13 w'=>∃ (x13_1:Int) (x40_1:List Int) (u40:Value),v13=.int .i64 x13_1∧Aside0 (table_over_table_vital_1.l0 kq l0 ji4 x13_1 l1_0 l1_1 t36 x40_1=some (r1,r2))∧Aside0 (kq≤k)∧Aside0 (Kd.R (Kd.int .i64) 3 w' w.heap.size (fun k_=>some k_≠(u40:Value).ownBlock) (.slice Ao7 t36.length co7) t36)∧Aside0 (Kd.R (Kd.int .i64) 3 w' w.heap.size (fun k_=>some k_≠((.slice Ao7 t36.length co7):Value).ownBlock) u40 x40_1)∧Aside0 (w'.heap[gp1_0]?=some (.cells #[(.slice A1_0 l1_0.length c1_0),(.slice A1_1 l1_1.length c1_1)] 29 (0,0)))∧Aside0 (w'.heap[gb35]?=some (.cells #[(.slice none 0 0),(.slice none 0 0)] 29 (0,0)))∧Aside0 (w'.heap[gb41]?=some (.cells #[(.slice Ao7 t36.length co7),u40] 29 (0,0)))∧Aside0 (Below w.heap.size w w'))
 case atStart=>exact ⟨(0),(([]:List Int)),(.slice none 0 0),zT,H',⟨Nat.le_refl _⟩,⟨by refine zr ?_;exact Kd.R_mono (Kd.R_far (p:=⟨gb41,1,none⟩) (Kd.R_far (p:=⟨gb41,0,none⟩) (Kd.R_types HO51.out BK41.out (by decide)) (fun _ hk=>hk.2) (.slice Ao7 t36.length co7)) (fun _ hk=>hk.2) (.slice none 0 0)) (fun _ hk=>(by simp [Value.ownBlock]))⟩,⟨by first|exact Kd.R_nil _ _ _ _ _|exact Kd.N_nil _ _ _ _ _|exact Kd.V_nil _ _ _ _ _|exact Kd.Q_nil _ _ _ _ _|exact Kd.S_nil _ _ _ _ _⟩,⟨by refine zj ?_;refine blk_far ?_ NB38_41.out _;refine zj ?_;refine blk_far ?_ NB38_41.out _;refine zj ?_;exact BK38.out⟩,⟨by refine zj ?_;refine blk_far ?_ NB35_41.out _;refine zj ?_;refine blk_far ?_ NB35_41.out _;refine zj ?_;exact BK35.out⟩,⟨by refine zj ?_;refine blk_put (cs:=#[.slice Ao7 t36.length co7,.slice none 0 0]) ?_ 1 _ rfl;refine zj ?_;refine blk_put (cs:=#[.slice none 0 0,.slice none 0 0]) ?_ 0 _ rfl;refine zj ?_;exact BK41.out⟩,⟨zv2 HB GE35 GE41⟩⟩
 case round=>
  clear H'
  try clear hcz11_0
  try clear hcz11_1
  try clear hfz11_0
  try clear hfz11_1
  obtain ⟨x13_1,x40_1,u40,rfl,HA,HK1,HO_42,HO_40,BK38,BK35,BK41,HB⟩:=hrel
  cases gk with
  | zero=>exact absurd HA.out (by simp [table_over_table_vital_1.l0])
  | succ k1=>
   have H:=HA.out;clear HA;simp only [table_over_table_vital_1.l0] at H
   rcases ifd H with ⟨c12b0,H⟩|⟨c12b0,H⟩
   ·obtain ⟨t37,A13,H⟩:=zo H;obtain ⟨t49,A14,H⟩:=zo H;have HC15:=zA H;clear H
    go_upto_if 20 with (first|((with_reducible refine gate_callee (f:=32) rfl ?_);refine zgo 19 Try.func32 #[.slice A0 l0.length c0,.int .i64 x13_1] ?_;(with_reducible refine (table_assignment.calls k1 _ _ l0 x13_1 t37 _ (zD HR0 HB) HC0.out A13.out).mono ?_);rintro e w' ⟨rfl,⟨nd,rfl⟩⟩;refine ⟨_,rfl,?_⟩)|(go_at_call 25;(with_reducible refine (table_vital_1_v1.calls k1 t37 gp1_0 A1_0 c1_0 l1_0 A1_1 c1_1 l1_1 t49 _ ?side1 HC1_0.out ?side3 HC1_1.out ?side5 A14.out).mono ?_);(case side1=>repeat (first|exact (Kd.C_below HR1_0.out zB)|(with_reducible refine Kd.C_alloc ?_ _)|(with_reducible refine Kd.C_drewN ?_ _)|(with_reducible refine Kd.C_drew ?_)));(case side3=>repeat (first|exact (Kd.C_below HR1_1.out zB)|(with_reducible refine Kd.C_alloc ?_ _)|(with_reducible refine Kd.C_drewN ?_ _)|(with_reducible refine Kd.C_drew ?_)));(case side5=>refine zj ?_;exact BK38.out);rintro e w16 ⟨rfl,hb⟩;replace HO_42:=zA (Kd.R_below (zR HO_42) hb);replace HO_40:=zA (Kd.R_below (zR HO_40) hb);replace BK38:=zw BK38 hb;replace BK35:=zw BK35 hb;replace BK41:=zw BK41 hb;replace HB:=zu hb;clear hb))
    (try simp only [Act.put,zi,zs,zt]);have H:=HC15.out;clear HC15
    by_cases c17:t49=true
    ·subst c17
     have H1:(if x40_1.length<17592186044416 then (table_over_table_vital_1.l0 k1 l0 ji4 (wrap64 (x13_1+1)) l1_0 l1_1 t36 (x40_1++[x13_1])) else (none))=some (r1,r2):=by rw [if_pos rfl] at H;exact H
     clear H;have H:=H1;clear H1;obtain ⟨c18,H⟩:=if1 H;have LMc18:=zA c18;clear c18
     first|(replace H:=zyb (x40_1++[x13_1]) H;obtain ⟨y45,Ny45,H⟩:=H)|(obtain ⟨y45,hy45⟩:=zY (x40_1++[x13_1]);(try rw (occs:=.pos [1]) [← hy45] at H);have Ny45:=zA hy45;clear hy45)
     have H':=zA H;clear H;have hnb19:=NB41_38.out;have hnc19:=NB38_41.out;have hnb20:=NB41_35.out;have hnc20:=NB35_41.out;have hcz21_0:=zc0 BK41;have hcz21_1:=zc1 BK41;have hfz21_0:=zf BK41
     go_wp2_with (first|((with_reducible refine gate_builtin (b:=.append) (xs:=#[.tmp 22,.tmp 24]) rfl ?_);at_builtin;refine Kd.R_append (Kd.int .i64) (w0:=w) w.heap.size rfl (.tmp 22) (.tmp 24) 27 3 (.int .i64 0) 8 rfl Try.underlying27 info3 rfl (by decide) (by omega) u40 x40_1 x13_1 [.int .i64 x13_1] (fun k_=>some k_≠(.slice Ao7 t36.length co7:Value).ownBlock) (fun _=>False) rfl rfl ?aP (fun _ hk=>hk.elim) ?aF ?aO ?aB ?aS ?aL ?_;(case aP=>exact rfl);(case aB=>exact zB);(case aF=>exact (fun k_ hk=>Kd.fresh' (Kd.R_lt (zR HO_42)) k_ hk));(case aO=>exact (zR HO_40));(case aS=>exact (below_size zB));(case aL=>have:=LMc18.out;omega);intro v48 w22 ho hb hg hat;rw [← Ny45.out] at ho;have HO52:=zA (ho);replace HO_42:=zA (Kd.R_after (ok:=(fun _=>True)) (by refine zr ?_;exact Kd.R_mono HO_42.out (fun _ hk=>⟨trivial,hk⟩)) hg hat);replace BK38:=zA (blk_grown (g:=gp1_0) (o:=.cells #[.slice A1_0 l1_0.length c1_0,.slice A1_1 l1_1.length c1_1] 29 (0,0)) (zk BK38) hg (Kd.R_ne HO_40.out BK38.out (by decide)));replace BK35:=zA (blk_grown (g:=gb35) (o:=.cells #[.slice none 0 0,.slice none 0 0] 29 (0,0)) (zk BK35) hg (Kd.R_ne HO_40.out BK35.out (by decide)));replace BK41:=zA (blk_grown (g:=gb41) (o:=.cells #[.slice Ao7 t36.length co7,u40] 29 (0,0)) (zk BK41) hg (Kd.R_ne HO_40.out BK41.out (by decide)));replace HB:=zA (hb);clear HO_40;clear ho hb hg hat;obtain ⟨Ao23,co23,eo23⟩:=Kd.R_slice HO52.out;subst eo23;have hcz24_0:=zc0 BK41;have hcz24_1:=zc1 BK41;have hfz24_0:=zf BK41))
     go_roundg k1
     case measure=>have:=HK1.out;omega
     case rel=>exact ⟨(wrap64 (x13_1+1)),(y45),(.slice Ao23 y45.length co23),zT,H',⟨by have:=HK1.out;omega⟩,⟨by refine zr ?_;exact Kd.R_mono (Kd.R_far (p:=⟨gb41,1,none⟩) (Kd.R_types HO_42.out BK41.out (by decide)) (fun _ hk=>hk.2) (.slice Ao23 y45.length co23)) (fun _ hk=>hk.1.2)⟩,⟨by refine zr ?_;exact Kd.R_mono (Kd.R_far (p:=⟨gb41,1,none⟩) (Kd.R_types HO52.out BK41.out (by decide)) (fun _ hk=>hk.2) (.slice Ao23 y45.length co23)) (fun _ hk=>hk.1)⟩,⟨by refine zj ?_;refine blk_far ?_ NB38_41.out _;refine zj ?_;exact BK38.out⟩,⟨by refine zj ?_;refine blk_far ?_ NB35_41.out _;refine zj ?_;exact BK35.out⟩,⟨by refine zj ?_;refine blk_put (cs:=#[.slice Ao7 t36.length co7,u40]) ?_ 1 _ rfl;refine zj ?_;exact BK41.out⟩,⟨zv2 HB GE35 GE41⟩⟩
    ·replace c17:=Bool.eq_false_iff.mpr c17;subst c17
     have H1:(table_over_table_vital_1.l0 k1 l0 ji4 (wrap64 (x13_1+1)) l1_0 l1_1 t36 x40_1)=some (r1,r2):=by rw [if_neg (show ¬ (false=true) by decide)] at H;exact H
     clear H;have H:=H1;clear H1;have H':=zA H;clear H
     go_wp2
     go_roundg k1
     case measure=>have:=HK1.out;omega
     case rel=>exact ⟨(wrap64 (x13_1+1)),(x40_1),(u40),zT,H',⟨by have:=HK1.out;omega⟩,⟨by refine zr ?_;exact HO_42.out⟩,⟨by refine zr ?_;exact HO_40.out⟩,⟨by refine zj ?_;exact BK38.out⟩,⟨by refine zj ?_;exact BK35.out⟩,⟨by refine zj ?_;exact BK41.out⟩,⟨zv2 HB GE35 GE41⟩⟩
   ·simp only [Option.some.injEq,Prod.mk.injEq] at H;obtain ⟨rfl,rfl⟩:=H;have hnb25:=NB41_38.out;have hnc25:=NB38_41.out;have hnb26:=NB41_35.out;have hnc26:=NB35_41.out;have hcz27_0:=zc0 BK41;have hcz27_1:=zc1 BK41;have hfz27_0:=zf BK41;have hnb28:=NB35_38.out;have hnc28:=NB38_35.out;have hcz29_0:=zc0 BK35;have hcz29_1:=zc1 BK35;have hfz29_0:=zf BK35;obtain ⟨Ao30,co30,eo30⟩:=Kd.R_slice HO_40.out;subst eo30
    go_wp2
    refine bodyPost_ret (results_cell_row rfl _ _ gb35 29 #[.slice Ao7 t36.length co7,.slice Ao30 x40_1.length co30] (0,0) _ rfl (by refine zj ?_;refine blk_put (cs:=#[.slice Ao7 t36.length co7,.slice none 0 0]) ?_ 1 _ rfl;refine zj ?_;refine blk_put (cs:=#[.slice none 0 0,.slice none 0 0]) ?_ 0 _ rfl;refine zj ?_;exact BK35.out) Try.underlying29 rfl zK) rfl ?_;exact ⟨_,_,by first|rfl|(simp [errW_none,errW_some] <;> rfl)|(simp only [← hji4];first|rfl|(simp [errW_none,errW_some] <;> rfl))|(simp [*,errW_none,errW_some] <;> rfl),by refine zr ?_;exact Kd.R_mono (Kd.R_far (p:=⟨gb35,1,none⟩) (Kd.R_far (p:=⟨gb35,0,none⟩) (Kd.R_types HO_42.out BK35.out (by decide)) (fun _ hk=>hk.2) (.slice Ao7 t36.length co7)) (fun _ hk=>hk.2) (.slice Ao30 x40_1.length co30)) (fun _ hk=>hk.1),by refine zr ?_;exact Kd.R_mono (Kd.R_far (p:=⟨gb35,1,none⟩) (Kd.R_far (p:=⟨gb35,0,none⟩) (Kd.R_types HO_40.out BK35.out (by decide)) (fun _ hk=>hk.2) (.slice Ao7 t36.length co7)) (fun _ hk=>hk.2) (.slice Ao30 x40_1.length co30)) (fun _ hk=>hk.1),zv2 HB GE35 GE41⟩
def table_vital_2_v1.f (k:Nat) (a0:Int) (l1_0:List Int) (l1_1:List Int) (a2_0:Int):Option (Bool):=if 0≤a2_0 then ((table_has.f k l1_0 l1_1 (Go.bits .or .i64 a0 (shl .i64 1 a2_0))).bind fun t36=>(some t36)) else (none)
set_option maxHeartbeats 8000000 in
set_option maxRecDepth 100000 in
theorem table_vital_2_v1.calls (k:Nat) (a0:Int) (gp1_0:Nat) (A1_0:Option Addr) (c1_0:Nat) (l1_0:List Int) (A1_1:Option Addr) (c1_1:Nat) (l1_1:List Int) (gp2_0:Nat) (a2_0:Int) (r:Bool) (w:World) (hr1_0:Kd.C (Kd.int .i64) w A1_0 l1_0.length l1_0) (hc1_0:l1_0.length≤c1_0) (hr1_1:Kd.C (Kd.int .i64) w A1_1 l1_1.length l1_1) (hc1_1:l1_1.length≤c1_1) (hb_gp1_0:w.heap[gp1_0]?=some (.cells #[.slice A1_0 l1_0.length c1_0,.slice A1_1 l1_1.length c1_1] 29 (0,0))) (hb_gp2_0:w.heap[gp2_0]?=some (.cells #[.int .i64 a2_0] 3 (0,0))) (h:table_vital_2_v1.f k a0 l1_0 l1_1 a2_0=some r) :
  Calls Try.prog 26 #[.int .i64 a0,.pointer (some ⟨gp1_0,0,none⟩),.pointer (some ⟨gp2_0,0,none⟩)] w fun e w'=>e=.returned (.bool r)∧Below w.heap.size w w':=by
 have HR1_0:=zA hr1_0;have HC1_0:=zA hc1_0;clear hr1_0 hc1_0;have HR1_1:=zA hr1_1;have HC1_1:=zA hc1_1;clear hr1_1 hc1_1;have BK38:=zA hb_gp1_0;clear hb_gp1_0;have BK35:=zA hb_gp2_0;clear hb_gp2_0;have HB:=zA (Below.refl w.heap.size w);have H:(if 0≤a2_0 then ((table_has.f k l1_0 l1_1 (Go.bits .or .i64 a0 (shl .i64 1 a2_0))).bind fun t36=>(some t36)) else (none))=some r:=h;clear h;obtain ⟨c4,H⟩:=if1 H;have c4b0:=eq_true c4;have c4b1:decide (0≤a2_0)=true:=decide_eq_true c4;clear c4;obtain ⟨ji5,hji5⟩:=zZ (shl .i64 1 a2_0)
 first|rw [hji5] at H|simp only [hji5] at H
 have hji5_:(IntKind.i64.wrap (1 * 2 ^ min a2_0.toNat 64))=ji5:=hji5;have hji5z:a2_0≤64→(IntKind.i64.wrap (1 * 2 ^ a2_0.toNat))=ji5:=shl_small hji5
 have hji5u:(IntKind.i64.wrap (2 ^ min a2_0.toNat 64))=ji5:=by have h_:=hji5_;rw [Int.one_mul] at h_;exact h_
 have hji5v:a2_0≤64→(IntKind.i64.wrap (2 ^ a2_0.toNat))=ji5:=fun hle_=>by have h_:=hji5z hle_;rw [Int.one_mul] at h_;exact h_
 have hji5y:(wrap64 (1 * 2 ^ min a2_0.toNat 64))=ji5:=(i64_w _).symm.trans hji5_
 have hji5x:a2_0≤64→(wrap64 (1 * 2 ^ a2_0.toNat))=ji5:=fun h_=>(i64_w _).symm.trans (hji5z h_)
 obtain ⟨t36,A6,H⟩:=zo H;obtain rfl:=Option.some.inj H
 go_enter Try.func26,Try.ntmps26
 try go_wp2
 replace BK38:=zA (blk_drew BK38.out);replace BK35:=zA (blk_drew BK35.out);replace HB:=zA (below_drew1 HB.out);refine start_ (n:=7) (S:=fun w'=>w'.cell? ⟨gp1_0,0,none⟩=some (.slice A1_0 l1_0.length c1_0)∧w'.cell? ⟨gp1_0,1,none⟩=some (.slice A1_1 l1_1.length c1_1)∧w'.cell? ⟨gp2_0,0,none⟩=some (.int .i64 a2_0)) (ds:=[]) (bz 7 0) zK rfl rfl ⟨zc0 BK38,zc1 BK38,zc0 BK35⟩ (fun hHeld=>?_)
 generalize w.drew=w7 at BK38 BK35 HB hHeld ⊢
 refine pure_ (i:=1) (N:=some 6) (v:=?_) (a':=?_) (bz 7 2) rfl rfl zK (fun _ _ _ h=>h) (Or.inl ⟨by rfl,?_⟩) ?_ ?_;rotate_left
 ·intro w'
  go_simp
  with_reducible rfl
 rotate_left
 ·simp only [Act.put,zi,zs,zt,i64_w,i32_w];rfl
 refine take_ (i:=0) (N:=some 5) (v:=?_) (a':=?_) (bz 7 3) rfl rfl zK (fun _ _ _ h=>h) (Or.inl ⟨by rfl,?_⟩) hHeld ?_ ?_;rotate_left
 ·rintro w' ⟨s0,s1,s2⟩
  go_simp
  with_reducible rfl
 rotate_left
 ·simp only [Act.put,zi,zs,zt,i64_w,i32_w];rfl
 refine take_ (i:=2) (N:=some 7) (v:=?_) (a':=?_) (bz 7 7) rfl rfl zK (fun _ _ _ h=>h) (Or.inl ⟨by rfl,?_⟩) hHeld ?_ ?_;rotate_left
 ·rintro w' ⟨s0,s1,s2⟩
  go_simp
  with_reducible rfl
 rotate_left
 ·simp only [Act.put,zi,zs,zt,i64_w,i32_w];rfl
 refine pure_ (i:=3) (N:=some 8) (v:=?_) (a':=?_) (bz 7 15) rfl rfl zK (fun _ _ _ h=>h) (Or.inl ⟨by rfl,?_⟩) ?_ ?_;rotate_left
 ·intro w'
  go_simp
  with_reducible rfl
 rotate_left
 ·simp only [Act.put,zi,zs,zt,i64_w,i32_w];rfl
 refine pure_ (i:=4) (N:=some 9) (v:=?_) (a':=?_) (bz 7 31) rfl rfl zK (fun _ _ _ h=>h) (Or.inl ⟨by rfl,?_⟩) ?_ ?_;rotate_left
 ·intro w'
  go_simp
  with_reducible rfl
 rotate_left
 ·simp only [Act.put,zi,zs,zt,i64_w,i32_w];rfl
 refine one_ (i:=5) (N:=some 10) (bz 7 63) rfl rfl zK (by decide) (fun K hK=>?_);refine goes_ Try.func22 zK rfl #[.agg #[.slice A1_0 l1_0.length c1_0,.slice A1_1 l1_1.length c1_1],.int .i64 (Go.bits .or .i64 a0 (ji5))] (by rfl) rfl rfl (by (try simp only [List.map_toArray,List.map_cons,List.map_nil]);first|done|(simp only [hji5];rfl)|rfl|(simp only [List.length_drop,List.length_take];rfl)) ?_
 with_reducible refine (table_has.calls k _ _ l1_0 _ _ l1_1 (Go.bits .or .i64 a0 (ji5)) t36 _ ?side1 ?side2 ?side3 ?side4 A6.out).mono ?_
 (case side1=>exact zC (Kd.C_below HR1_0.out HB.out));(case side2=>exact HC1_0.out);(case side3=>exact zC (Kd.C_below HR1_1.out HB.out));(case side4=>exact HC1_1.out);rintro e w8 ⟨rfl,hb⟩;refine ⟨_,rfl,?_⟩;replace BK38:=zw BK38 hb;replace BK35:=zw BK35 hb;replace HB:=zu hb;(try clear hb);(try clear hb2);(try clear hk);(try clear hi);refine hK.out _ _ ⟨zc0 BK38,zc1 BK38,zc0 BK35⟩ (fun hHeld=>?_);clear hK K;refine norm_ (a':=?_) ?_ ?_;rotate_left
 ·show Act.put _ (some 10) _=_
  simp only [Act.put,zi,zs,zt,i64_w,i32_w];rfl
 refine pure_ (i:=6) (N:=some 4) (v:=?_) (a':=?_) (bz 7 127) rfl rfl zK (fun _ _ _ h=>h) (Or.inl ⟨by rfl,?_⟩) ?_ ?_;rotate_left
 ·intro w'
  go_simp
  with_reducible rfl
 rotate_left
 ·simp only [Act.put,zi,zs,zt,i64_w,i32_w];rfl
 refine done_ zK ?_
 try go_wp2
 go_ret
 exact ⟨by first|rfl|(simp [errW_none,errW_some] <;> rfl)|(simp only [← hji5];first|rfl|(simp [errW_none,errW_some] <;> rfl))|(simp [*,errW_none,errW_some] <;> rfl),zv0 HB⟩
def table_over_table_vital_2.l0:Nat→List Int→Int→Int→List Int→List Int→Int→List Int→List Int→Option (List Int×List Int)
 | 0,_,_,_,_,_,_,_,_=>none
 | k+1,x0,x12,x13,x46,x47,x50,x43,x39=>if x13<x12 then ((table_assignment.f k x0 x13).bind fun t49=>((table_vital_2_v1.f k t49 x46 x47 x50).bind fun t45=>(if t45=true then (if x39.length<17592186044416 then (table_over_table_vital_2.l0 k x0 x12 (wrap64 (x13+1)) x46 x47 x50 x43 (x39++[x13])) else (none)) else (table_over_table_vital_2.l0 k x0 x12 (wrap64 (x13+1)) x46 x47 x50 x43 x39)))) else (some (x43,x39))
def table_over_table_vital_2.f (k:Nat) (l0:List Int) (l1_0:List Int) (l1_1:List Int) (a1_2:Int):Option (List Int×List Int):=(slices_Clone_int_int.f l0).bind fun t44=>(table_over_table_vital_2.l0 k l0 (shl .i64 1 (l0.length:Int)) 0 l1_0 l1_1 a1_2 t44 ([]:List Int))
set_option maxHeartbeats 8000000 in
set_option maxRecDepth 100000 in
theorem table_over_table_vital_2.calls (k:Nat) (A0:Option Addr) (c0:Nat) (l0:List Int) (gp1_0:Nat) (gp1_1:Nat) (A1_0:Option Addr) (c1_0:Nat) (l1_0:List Int) (A1_1:Option Addr) (c1_1:Nat) (l1_1:List Int) (a1_2:Int) (r1:List Int) (r2:List Int) (w:World) (hr0:Kd.C (Kd.int .i64) w A0 l0.length l0) (hc0:l0.length≤c0) (hr1_0:Kd.C (Kd.int .i64) w A1_0 l1_0.length l1_0) (hc1_0:l1_0.length≤c1_0) (hr1_1:Kd.C (Kd.int .i64) w A1_1 l1_1.length l1_1) (hc1_1:l1_1.length≤c1_1) (hb_gp1_0:w.heap[gp1_0]?=some (.cells #[.slice A1_0 l1_0.length c1_0,.slice A1_1 l1_1.length c1_1] 29 (0,0))) (hb_gp1_1:w.heap[gp1_1]?=some (.cells #[.int .i64 a1_2] 3 (0,0))) (h:table_over_table_vital_2.f k l0 l1_0 l1_1 a1_2=some (r1,r2)) :
  Calls Try.prog 20 #[.slice A0 l0.length c0,.func (.func 26) #[] #[.pointer (some ⟨gp1_0,0,none⟩),.pointer (some ⟨gp1_1,0,none⟩)]] w fun e w'=>∃ v0_ v1_:Value,e=.returned (.agg #[v0_,v1_])∧Kd.R (Kd.int .i64) 3 w' w.heap.size (fun k_=>some k_≠(v1_:Value).ownBlock) v0_ r1∧Kd.R (Kd.int .i64) 3 w' w.heap.size (fun k_=>some k_≠(v0_:Value).ownBlock) v1_ r2∧Below w.heap.size w w':=by
 have HR0:=zA hr0;have HC0:=zA hc0;clear hr0 hc0;have HR1_0:=zA hr1_0;have HC1_0:=zA hc1_0;clear hr1_0 hc1_0;have HR1_1:=zA hr1_1;have HC1_1:=zA hc1_1;clear hr1_1 hc1_1;have BK38:=zA hb_gp1_0;clear hb_gp1_0;have BK35:=zA hb_gp1_1;clear hb_gp1_1;have HB:=zA (Below.refl w.heap.size w);have H:((slices_Clone_int_int.f l0).bind fun t44=>(table_over_table_vital_2.l0 k l0 (shl .i64 1 (l0.length:Int)) 0 l1_0 l1_1 a1_2 t44 ([]:List Int)))=some (r1,r2):=h;clear h;obtain ⟨t44,A3,H⟩:=zo H;obtain ⟨ji4,hji4⟩:=zZ (shl .i64 1 (l0.length:Int))
 first|rw [hji4] at H|simp only [hji4] at H
 (try rw [hji4] at A3);have hji4_:(IntKind.i64.wrap (1 * 2 ^ min (l0.length:Int).toNat 64))=ji4:=hji4;have hji4z:(l0.length:Int)≤64→(IntKind.i64.wrap (1 * 2 ^ (l0.length:Int).toNat))=ji4:=shl_small hji4;have hji4p:(IntKind.i64.wrap (1 * 2 ^ min l0.length 64))=ji4:=hji4_;have hji4q:(l0.length:Int)≤64→(IntKind.i64.wrap (1 * 2 ^ l0.length))=ji4:=hji4z
 have hji4r:(IntKind.i64.wrap (2 ^ min l0.length 64))=ji4:=by have h_:=hji4p;rw [Int.one_mul] at h_;exact h_
 have hji4s:(l0.length:Int)≤64→(IntKind.i64.wrap (2 ^ l0.length))=ji4:=fun hle_=>by have h_:=hji4q hle_;rw [Int.one_mul] at h_;exact h_
 have hji4u:(IntKind.i64.wrap (2 ^ min (l0.length:Int).toNat 64))=ji4:=by have h_:=hji4_;rw [Int.one_mul] at h_;exact h_
 have hji4v:(l0.length:Int)≤64→(IntKind.i64.wrap (2 ^ (l0.length:Int).toNat))=ji4:=fun hle_=>by have h_:=hji4z hle_;rw [Int.one_mul] at h_;exact h_
 have hji4y:(wrap64 (1 * 2 ^ min (l0.length:Int).toNat 64))=ji4:=(i64_w _).symm.trans hji4_
 have hji4x:(l0.length:Int)≤64→(wrap64 (1 * 2 ^ (l0.length:Int).toNat))=ji4:=fun h_=>(i64_w _).symm.trans (hji4z h_)
 have H':=zA H;clear H
 go_enter Try.func20,Try.ntmps20
 go_wp2_with (first|((with_reducible refine gd 4 rfl ?_);refine zx #[.slice none 0 0,.slice none 0 0] 29 ?_;intro gb36 hg w5 BK36 hb GW36 HB1;have GE36:=GW36;have NB38_36:=zL hg BK38;have NB36_38:=zLs NB38_36;have NB35_36:=zL hg BK35;have NB36_35:=zLs NB35_36;replace BK38:=zw BK38 hb;replace BK35:=zw BK35 hb;clear HB hb hg;have HB:=HB1;clear HB1)|((with_reducible refine gate_callee (f:=28) rfl ?_);refine zgo 8 Try.func28 #[.slice A0 l0.length c0] ?_;(with_reducible refine (slices_Clone_int_int.calls _ _ l0 t44 _ (zD HR0 HB) HC0.out A3.out).mono ?_);rintro e w6 ⟨v51,rfl,ho0,hb⟩;refine ⟨_,rfl,?_⟩;have HO41:=zA (Kd.R_lower (Kd.R_newB ho0 (g:=gp1_1) (o:=.cells #[.int .i64 a1_2] 3 (0,0)) (zk BK35)) (below_size zB));replace BK38:=zw BK38 hb;replace BK35:=zw BK35 hb;replace BK36:=zw BK36 hb;replace HB:=zu hb;clear hb;(try clear ho0);obtain ⟨Ao7,co7,eo7⟩:=Kd.R_slice HO41.out;subst eo7)|((with_reducible refine gd 5 rfl ?_);refine zx #[.slice none 0 0,.slice none 0 0] 29 ?_;intro gb37 hg w8 BK37 hb GW37 HB1;have GE37:=GW37;have NB38_37:=zL hg BK38;have NB37_38:=zLs NB38_37;have NB35_37:=zL hg BK35;have NB37_35:=zLs NB35_37;have NB36_37:=zL hg BK36;have NB37_36:=zLs NB36_37;replace HO41:=zA (Kd.R_below (zR HO41) hb);replace BK38:=zw BK38 hb;replace BK35:=zw BK35 hb;replace BK36:=zw BK36 hb;clear HB hb hg;have HB:=HB1;clear HB1;have hnb9:=NB37_38.out;have hnc9:=NB38_37.out;have hnb10:=NB37_35.out;have hnc10:=NB35_37.out;have hnb11:=NB37_36.out;have hnc11:=NB36_37.out;have hcz12_0:=zc0 BK37;have hcz12_1:=zc1 BK37;have hfz12_0:=zf BK37))
 go_loopg [13] k (fun kq v13 w'=>∃ (x13_1:Int) (x39_1:List Int) (u39:Value),v13=.int .i64 x13_1∧Aside0 (table_over_table_vital_2.l0 kq l0 ji4 x13_1 l1_0 l1_1 a1_2 t44 x39_1=some (r1,r2))∧Aside0 (kq≤k)∧Aside0 (Kd.R (Kd.int .i64) 3 w' w.heap.size (fun k_=>some k_≠(u39:Value).ownBlock∧k_≠gp1_1) (.slice Ao7 t44.length co7) t44)∧Aside0 (Kd.R (Kd.int .i64) 3 w' w.heap.size (fun k_=>some k_≠((.slice Ao7 t44.length co7):Value).ownBlock∧k_≠gp1_1) u39 x39_1)∧Aside0 (w'.heap[gp1_0]?=some (.cells #[(.slice A1_0 l1_0.length c1_0),(.slice A1_1 l1_1.length c1_1)] 29 (0,0)))∧Aside0 (w'.heap[gp1_1]?=some (.cells #[.int .i64 a1_2] 3 (0,0)))∧Aside0 (w'.heap[gb36]?=some (.cells #[(.slice none 0 0),(.slice none 0 0)] 29 (0,0)))∧Aside0 (w'.heap[gb37]?=some (.cells #[(.slice Ao7 t44.length co7),u39] 29 (0,0)))∧Aside0 (Below w.heap.size w w'))
 case atStart=>exact ⟨(0),(([]:List Int)),(.slice none 0 0),zT,H',⟨Nat.le_refl _⟩,⟨by refine zr ?_;exact Kd.R_mono (Kd.R_far (p:=⟨gb37,1,none⟩) (Kd.R_far (p:=⟨gb37,0,none⟩) (Kd.R_types HO41.out BK37.out (by decide)) (fun _ hk=>hk.2) (.slice Ao7 t44.length co7)) (fun _ hk=>hk.2) (.slice none 0 0)) (fun _ hk=>⟨(by simp [Value.ownBlock]),hk.1.2⟩)⟩,⟨by first|exact Kd.R_nil _ _ _ _ _|exact Kd.N_nil _ _ _ _ _|exact Kd.V_nil _ _ _ _ _|exact Kd.Q_nil _ _ _ _ _|exact Kd.S_nil _ _ _ _ _⟩,⟨by refine zj ?_;refine blk_far ?_ NB38_37.out _;refine zj ?_;refine blk_far ?_ NB38_37.out _;refine zj ?_;exact BK38.out⟩,⟨by refine zj ?_;refine blk_far ?_ NB35_37.out _;refine zj ?_;refine blk_far ?_ NB35_37.out _;refine zj ?_;exact BK35.out⟩,⟨by refine zj ?_;refine blk_far ?_ NB36_37.out _;refine zj ?_;refine blk_far ?_ NB36_37.out _;refine zj ?_;exact BK36.out⟩,⟨by refine zj ?_;refine blk_put (cs:=#[.slice Ao7 t44.length co7,.slice none 0 0]) ?_ 1 _ rfl;refine zj ?_;refine blk_put (cs:=#[.slice none 0 0,.slice none 0 0]) ?_ 0 _ rfl;refine zj ?_;exact BK37.out⟩,⟨zv2 HB GE36 GE37⟩⟩
 case round=>
  clear H'
  try clear hcz12_0
  try clear hcz12_1
  try clear hfz12_0
  try clear hfz12_1
  obtain ⟨x13_1,x39_1,u39,rfl,HA,HK1,HO_43,HO_39,BK38,BK35,BK36,BK37,HB⟩:=hrel
  cases gk with
  | zero=>exact absurd HA.out (by simp [table_over_table_vital_2.l0])
  | succ k1=>
   have H:=HA.out;clear HA;simp only [table_over_table_vital_2.l0] at H
   rcases ifd H with ⟨c13b0,H⟩|⟨c13b0,H⟩
   ·obtain ⟨t49,A14,H⟩:=zo H;obtain ⟨t45,A15,H⟩:=zo H;have HC16:=zA H;clear H
    go_upto_if 20 with (first|((with_reducible refine gate_callee (f:=32) rfl ?_);refine zgo 19 Try.func32 #[.slice A0 l0.length c0,.int .i64 x13_1] ?_;(with_reducible refine (table_assignment.calls k1 _ _ l0 x13_1 t49 _ (zD HR0 HB) HC0.out A14.out).mono ?_);rintro e w' ⟨rfl,⟨nd,rfl⟩⟩;refine ⟨_,rfl,?_⟩)|(go_at_call 26;(with_reducible refine (table_vital_2_v1.calls k1 t49 gp1_0 A1_0 c1_0 l1_0 A1_1 c1_1 l1_1 gp1_1 a1_2 t45 _ ?side1 HC1_0.out ?side3 HC1_1.out ?side5 ?side6 A15.out).mono ?_);(case side1=>repeat (first|exact (Kd.C_below HR1_0.out zB)|(with_reducible refine Kd.C_alloc ?_ _)|(with_reducible refine Kd.C_drewN ?_ _)|(with_reducible refine Kd.C_drew ?_)));(case side3=>repeat (first|exact (Kd.C_below HR1_1.out zB)|(with_reducible refine Kd.C_alloc ?_ _)|(with_reducible refine Kd.C_drewN ?_ _)|(with_reducible refine Kd.C_drew ?_)));(case side5=>refine zj ?_;exact BK38.out);(case side6=>refine zj ?_;exact BK35.out);rintro e w17 ⟨rfl,hb⟩;replace HO_43:=zA (Kd.R_below (zR HO_43) hb);replace HO_39:=zA (Kd.R_below (zR HO_39) hb);replace BK38:=zw BK38 hb;replace BK35:=zw BK35 hb;replace BK36:=zw BK36 hb;replace BK37:=zw BK37 hb;replace HB:=zu hb;clear hb))
    (try simp only [Act.put,zi,zs,zt]);have H:=HC16.out;clear HC16
    by_cases c18:t45=true
    ·subst c18
     have H1:(if x39_1.length<17592186044416 then (table_over_table_vital_2.l0 k1 l0 ji4 (wrap64 (x13_1+1)) l1_0 l1_1 a1_2 t44 (x39_1++[x13_1])) else (none))=some (r1,r2):=by rw [if_pos rfl] at H;exact H
     clear H;have H:=H1;clear H1;obtain ⟨c19,H⟩:=if1 H;have LMc19:=zA c19;clear c19
     first|(replace H:=zyb (x39_1++[x13_1]) H;obtain ⟨y48,Ny48,H⟩:=H)|(obtain ⟨y48,hy48⟩:=zY (x39_1++[x13_1]);(try rw (occs:=.pos [1]) [← hy48] at H);have Ny48:=zA hy48;clear hy48)
     have H':=zA H;clear H;have hnb20:=NB37_38.out;have hnc20:=NB38_37.out;have hnb21:=NB37_35.out;have hnc21:=NB35_37.out;have hnb22:=NB37_36.out;have hnc22:=NB36_37.out;have hcz23_0:=zc0 BK37;have hcz23_1:=zc1 BK37;have hfz23_0:=zf BK37
     go_wp2_with (first|((with_reducible refine gate_builtin (b:=.append) (xs:=#[.tmp 22,.tmp 24]) rfl ?_);at_builtin;refine Kd.R_append (Kd.int .i64) (w0:=w) w.heap.size rfl (.tmp 22) (.tmp 24) 27 3 (.int .i64 0) 8 rfl Try.underlying27 info3 rfl (by decide) (by omega) u39 x39_1 x13_1 [.int .i64 x13_1] (fun k_=>some k_≠(.slice Ao7 t44.length co7:Value).ownBlock∧k_≠gp1_1) (fun _=>False) rfl rfl ?aP (fun _ hk=>hk.elim) ?aF ?aO ?aB ?aS ?aL ?_;(case aP=>exact rfl);(case aB=>exact zB);(case aF=>exact (fun k_ hk=>⟨Kd.fresh' (Kd.R_lt (zR HO_43)) k_ hk,Kd.freshB (g:=gp1_1) (o:=.cells #[.int .i64 a1_2] 3 (0,0)) (zk BK35) k_ hk⟩));(case aO=>exact (zR HO_39));(case aS=>exact (below_size zB));(case aL=>have:=LMc19.out;omega);intro v52 w24 ho hb hg hat;rw [← Ny48.out] at ho;have HO53:=zA (ho);replace HO_43:=zA (Kd.R_after (ok:=(fun k_=>k_≠gp1_1)) (by refine zr ?_;exact Kd.R_mono HO_43.out (fun _ hk=>⟨hk.2,hk.1⟩)) hg hat);replace BK38:=zA (blk_grown (g:=gp1_0) (o:=.cells #[.slice A1_0 l1_0.length c1_0,.slice A1_1 l1_1.length c1_1] 29 (0,0)) (zk BK38) hg (Kd.R_ne HO_39.out BK38.out (by decide)));replace BK35:=zA (blk_grown (g:=gp1_1) (o:=.cells #[.int .i64 a1_2] 3 (0,0)) (zk BK35) hg (Kd.R_away HO_39.out (fun _ hk=>hk.2)));replace BK36:=zA (blk_grown (g:=gb36) (o:=.cells #[.slice none 0 0,.slice none 0 0] 29 (0,0)) (zk BK36) hg (Kd.R_ne HO_39.out BK36.out (by decide)));replace BK37:=zA (blk_grown (g:=gb37) (o:=.cells #[.slice Ao7 t44.length co7,u39] 29 (0,0)) (zk BK37) hg (Kd.R_ne HO_39.out BK37.out (by decide)));replace HB:=zA (hb);clear HO_39;clear ho hb hg hat;obtain ⟨Ao25,co25,eo25⟩:=Kd.R_slice HO53.out;subst eo25;have hcz26_0:=zc0 BK37;have hcz26_1:=zc1 BK37;have hfz26_0:=zf BK37))
     go_roundg k1
     case measure=>have:=HK1.out;omega
     case rel=>exact ⟨(wrap64 (x13_1+1)),(y48),(.slice Ao25 y48.length co25),zT,H',⟨by have:=HK1.out;omega⟩,⟨by refine zr ?_;exact Kd.R_mono (Kd.R_far (p:=⟨gb37,1,none⟩) (Kd.R_types HO_43.out BK37.out (by decide)) (fun _ hk=>hk.2) (.slice Ao25 y48.length co25)) (fun _ hk=>⟨hk.1.2,hk.1.1⟩)⟩,⟨by refine zr ?_;exact Kd.R_mono (Kd.R_far (p:=⟨gb37,1,none⟩) (Kd.R_types HO53.out BK37.out (by decide)) (fun _ hk=>hk.2) (.slice Ao25 y48.length co25)) (fun _ hk=>⟨hk.1.1,hk.1.2⟩)⟩,⟨by refine zj ?_;refine blk_far ?_ NB38_37.out _;refine zj ?_;exact BK38.out⟩,⟨by refine zj ?_;refine blk_far ?_ NB35_37.out _;refine zj ?_;exact BK35.out⟩,⟨by refine zj ?_;refine blk_far ?_ NB36_37.out _;refine zj ?_;exact BK36.out⟩,⟨by refine zj ?_;refine blk_put (cs:=#[.slice Ao7 t44.length co7,u39]) ?_ 1 _ rfl;refine zj ?_;exact BK37.out⟩,⟨zv2 HB GE36 GE37⟩⟩
    ·replace c18:=Bool.eq_false_iff.mpr c18;subst c18
     have H1:(table_over_table_vital_2.l0 k1 l0 ji4 (wrap64 (x13_1+1)) l1_0 l1_1 a1_2 t44 x39_1)=some (r1,r2):=by rw [if_neg (show ¬ (false=true) by decide)] at H;exact H
     clear H;have H:=H1;clear H1;have H':=zA H;clear H
     go_wp2
     go_roundg k1
     case measure=>have:=HK1.out;omega
     case rel=>exact ⟨(wrap64 (x13_1+1)),(x39_1),(u39),zT,H',⟨by have:=HK1.out;omega⟩,⟨by refine zr ?_;exact HO_43.out⟩,⟨by refine zr ?_;exact HO_39.out⟩,⟨by refine zj ?_;exact BK38.out⟩,⟨by refine zj ?_;exact BK35.out⟩,⟨by refine zj ?_;exact BK36.out⟩,⟨by refine zj ?_;exact BK37.out⟩,⟨zv2 HB GE36 GE37⟩⟩
   ·simp only [Option.some.injEq,Prod.mk.injEq] at H;obtain ⟨rfl,rfl⟩:=H;have hnb27:=NB37_38.out;have hnc27:=NB38_37.out;have hnb28:=NB37_35.out;have hnc28:=NB35_37.out;have hnb29:=NB37_36.out;have hnc29:=NB36_37.out;have hcz30_0:=zc0 BK37;have hcz30_1:=zc1 BK37;have hfz30_0:=zf BK37;have hnb31:=NB36_38.out;have hnc31:=NB38_36.out;have hnb32:=NB36_35.out;have hnc32:=NB35_36.out;have hcz33_0:=zc0 BK36;have hcz33_1:=zc1 BK36;have hfz33_0:=zf BK36;obtain ⟨Ao34,co34,eo34⟩:=Kd.R_slice HO_39.out;subst eo34
    go_wp2
    refine bodyPost_ret (results_cell_row rfl _ _ gb36 29 #[.slice Ao7 t44.length co7,.slice Ao34 x39_1.length co34] (0,0) _ rfl (by refine zj ?_;refine blk_put (cs:=#[.slice Ao7 t44.length co7,.slice none 0 0]) ?_ 1 _ rfl;refine zj ?_;refine blk_put (cs:=#[.slice none 0 0,.slice none 0 0]) ?_ 0 _ rfl;refine zj ?_;exact BK36.out) Try.underlying29 rfl zK) rfl ?_;exact ⟨_,_,by first|rfl|(simp [errW_none,errW_some] <;> rfl)|(simp only [← hji4];first|rfl|(simp [errW_none,errW_some] <;> rfl))|(simp [*,errW_none,errW_some] <;> rfl),by refine zr ?_;exact Kd.R_mono (Kd.R_far (p:=⟨gb36,1,none⟩) (Kd.R_far (p:=⟨gb36,0,none⟩) (Kd.R_types HO_43.out BK36.out (by decide)) (fun _ hk=>hk.2) (.slice Ao7 t44.length co7)) (fun _ hk=>hk.2) (.slice Ao34 x39_1.length co34)) (fun _ hk=>hk.1.1),by refine zr ?_;exact Kd.R_mono (Kd.R_far (p:=⟨gb36,1,none⟩) (Kd.R_far (p:=⟨gb36,0,none⟩) (Kd.R_types HO_39.out BK36.out (by decide)) (fun _ hk=>hk.2) (.slice Ao7 t44.length co7)) (fun _ hk=>hk.2) (.slice Ao34 x39_1.length co34)) (fun _ hk=>hk.1.1),zv2 HB GE36 GE37⟩
end Go.Proofs.Ytilljenmobgkaaa.A
