import Derived.Test.YthcfmdkhkikbcaaT0
import Derived.Test.YthcfmdkhkikbcaaT1
import Derived.Test.YthcfmdkhkikbcaaT18
namespace Go.Proofs.Ythcfmdkhkikbcaa.T
open Go.RowKit Go.Proofs.YthcfmdkhkikbcaaW.PrintWords Go.Proofs.YthcfmdkhkikbcaaW.PrintLast Go.Proofs.YthcfmdkhkikbcaaW.PrintMore
attribute [local go_sem] max2_int min2_int max_two min_two max_three min_three max_four min_four
set_option linter.unusedVariables false
set_option linter.unusedSimpArgs false
def table_over_table_combine_1_table_Minus_1.l0:Nat→List Int→Int→Int→List Int→List Int→List Int→List Int→List Int→List Int→Option (List Int×List Int)
 | 0,_,_,_,_,_,_,_,_,_=>none
 | k+1,x0,x12,x13,x664000,x664001,x665000,x665001,x670000,x670001=>if x13<x12 then ((table_assignment.f k x0 x13).bind fun t670=>((table_combine_1_table_Minus_1.f k t670 x664000 x664001 x665000 x665001).bind fun t671=>(if t671=true then (if x670001.length<17592186044416 then (table_over_table_combine_1_table_Minus_1.l0 k x0 x12 (wrap64 (x13+1)) x664000 x664001 x665000 x665001 x670000 (x670001++[x13])) else (none)) else (table_over_table_combine_1_table_Minus_1.l0 k x0 x12 (wrap64 (x13+1)) x664000 x664001 x665000 x665001 x670000 x670001)))) else (some (x670000,x670001))
def table_over_table_combine_1_table_Minus_1.f (k:Nat) (l0:List Int) (l1_0:List Int) (l1_1:List Int) (l1_2:List Int) (l1_3:List Int):Option (List Int×List Int):=(slices_Clone_int_int.f l0).bind fun t666=>(table_over_table_combine_1_table_Minus_1.l0 k l0 (shl .i64 1 (l0.length:Int)) 0 l1_0 l1_1 l1_2 l1_3 t666 ([]:List Int))
theorem table_over_table_combine_1_table_Minus_1.mono_l:∀ k,(∀ y0 y1 y2 y3 y4 y5 y6 y7 y8,LeO (table_over_table_combine_1_table_Minus_1.l0 k y0 y1 y2 y3 y4 y5 y6 y7 y8) (table_over_table_combine_1_table_Minus_1.l0 (k+1) y0 y1 y2 y3 y4 y5 y6 y7 y8))
 | 0=>fun _ _ _ _ _ _ _ _ _ r h=>by simp [table_over_table_combine_1_table_Minus_1.l0] at h
 | k+1=>by
  have ih0:=table_over_table_combine_1_table_Minus_1.mono_l k
  ·intro y0 y1 y2 y3 y4 y5 y6 y7 y8
   unfold table_over_table_combine_1_table_Minus_1.l0
   repeat' first
   | (with_reducible exact ih0 _ _ _ _ _ _ _ _ _)
   | (with_reducible exact table_assignment.mono _ _ _)
   | (with_reducible exact table_combine_1_table_Minus_1.mono _ _ _ _ _ _)
   | (with_reducible exact LeO.refl _)
   | (with_reducible exact LeO.none _)
   | (with_reducible refine LeO.ite ?_ ?_)
   | (with_reducible refine LeO.bind ?_ (fun _=>?_))
   | exact LeO.none _
   | refine LeO.ite ?_ ?_
   | refine LeO.bind ?_ (fun _=>?_)
theorem table_over_table_combine_1_table_Minus_1.mono:∀ a0 a1 a2 a3 a4 k,LeO (table_over_table_combine_1_table_Minus_1.f k a0 a1 a2 a3 a4) (table_over_table_combine_1_table_Minus_1.f (k+1) a0 a1 a2 a3 a4):=by
 intro a0 a1 a2 a3 a4 k
 have ih0:=table_over_table_combine_1_table_Minus_1.mono_l k
 unfold table_over_table_combine_1_table_Minus_1.f
 repeat' first
   | (with_reducible exact ih0 _ _ _ _ _ _ _ _ _)
   | (with_reducible exact table_assignment.mono _ _ _)
   | (with_reducible exact table_combine_1_table_Minus_1.mono _ _ _ _ _ _)
   | (with_reducible exact LeO.refl _)
   | (with_reducible exact LeO.none _)
   | (with_reducible refine LeO.ite ?_ ?_)
   | (with_reducible refine LeO.bind ?_ (fun _=>?_))
   | exact LeO.none _
   | refine LeO.ite ?_ ?_
   | refine LeO.bind ?_ (fun _=>?_)
set_option maxHeartbeats 8000000 in
set_option maxRecDepth 100000 in
theorem table_over_table_combine_1_table_Minus_1.calls (k:Nat) (A0:Option Addr) (c0:Nat) (l0:List Int) (gp1_0:Nat) (gp1_1:Nat) (gp1_2:Nat) (A1_0:Option Addr) (c1_0:Nat) (l1_0:List Int) (A1_1:Option Addr) (c1_1:Nat) (l1_1:List Int) (A1_2:Option Addr) (c1_2:Nat) (l1_2:List Int) (A1_3:Option Addr) (c1_3:Nat) (l1_3:List Int) (r1:List Int) (r2:List Int) (w:World) (hr0:Kd.C (Kd.int .i64) w A0 l0.length l0) (hc0:l0.length≤c0) (hr1_0:Kd.C (Kd.int .i64) w A1_0 l1_0.length l1_0) (hc1_0:l1_0.length≤c1_0) (hr1_1:Kd.C (Kd.int .i64) w A1_1 l1_1.length l1_1) (hc1_1:l1_1.length≤c1_1) (hr1_2:Kd.C (Kd.int .i64) w A1_2 l1_2.length l1_2) (hc1_2:l1_2.length≤c1_2) (hr1_3:Kd.C (Kd.int .i64) w A1_3 l1_3.length l1_3) (hc1_3:l1_3.length≤c1_3) (hb_gp1_0:w.heap[gp1_0]?=some (.cells #[.func (.func 55) #[] #[]] 60 (0,0))) (hb_gp1_1:w.heap[gp1_1]?=some (.cells #[.slice A1_0 l1_0.length c1_0,.slice A1_1 l1_1.length c1_1] 29 (0,0))) (hb_gp1_2:w.heap[gp1_2]?=some (.cells #[.slice A1_2 l1_2.length c1_2,.slice A1_3 l1_3.length c1_3] 29 (0,0))) (h:table_over_table_combine_1_table_Minus_1.f k l0 l1_0 l1_1 l1_2 l1_3=some (r1,r2)) :
  Calls Try.prog 59 #[.slice A0 l0.length c0,.func (.func 73) #[] #[.pointer (some ⟨gp1_0,0,none⟩),.pointer (some ⟨gp1_1,0,none⟩),.pointer (some ⟨gp1_2,0,none⟩)]] w fun e w'=>∃ v0_ v1_:Value,e=.returned (.agg #[v0_,v1_])∧Kd.R (Kd.int .i64) 3 w' w.heap.size (fun k_=>some k_≠(v1_:Value).ownBlock) v0_ r1∧Kd.R (Kd.int .i64) 3 w' w.heap.size (fun k_=>some k_≠(v0_:Value).ownBlock) v1_ r2∧Below w.heap.size w w':=by
 have hu29:=Try.underlying29
 have hu27:=Try.underlying27
 have HR0:=zA hr0
 have HC0:=zA hc0
 clear hr0 hc0
 have HR1_0:=zA hr1_0
 have HC1_0:=zA hc1_0
 clear hr1_0 hc1_0
 have HR1_1:=zA hr1_1
 have HC1_1:=zA hc1_1
 clear hr1_1 hc1_1
 have HR1_2:=zA hr1_2
 have HC1_2:=zA hc1_2
 clear hr1_2 hc1_2
 have HR1_3:=zA hr1_3
 have HC1_3:=zA hc1_3
 clear hr1_3 hc1_3
 have BK662:=zA hb_gp1_0
 clear hb_gp1_0
 have BK663:=zA hb_gp1_1
 clear hb_gp1_1
 have BK664:=zA hb_gp1_2
 clear hb_gp1_2
 have HB:=zA (Below.refl w.heap.size w)
 have H:((slices_Clone_int_int.f l0).bind fun t666=>(table_over_table_combine_1_table_Minus_1.l0 k l0 (shl .i64 1 (l0.length:Int)) 0 l1_0 l1_1 l1_2 l1_3 t666 ([]:List Int)))=some (r1,r2):=h
 clear h
 replace H:=Option.bind_eq_some_iff.mp H
 obtain ⟨t666,A30,H⟩:=H
 replace H:(table_over_table_combine_1_table_Minus_1.l0 k l0 (shl .i64 1 (l0.length:Int)) 0 l1_0 l1_1 l1_2 l1_3 t666 ([]:List Int))=some (r1,r2):=H
 have A3:=zA A30
 clear A30
 obtain ⟨ji4,hji4⟩:∃ j_:Int,(shl .i64 1 (l0.length:Int))=j_:=⟨_,rfl⟩
 replace H:(table_over_table_combine_1_table_Minus_1.l0 k l0 ji4 0 l1_0 l1_1 l1_2 l1_3 t666 ([]:List Int))=some (r1,r2):=by first|(rw [hji4] at H;exact H)|(simp only [hji4] at H ⊢;exact H)
 (try rw [hji4] at A3)
 have hji4_:(IntKind.i64.wrap (1 * 2 ^ min (l0.length:Int).toNat 64))=ji4:=hji4
 have hji4z:(l0.length:Int)≤64→(IntKind.i64.wrap (1 * 2 ^ (l0.length:Int).toNat))=ji4:=shl_small hji4
 have hji4p:(IntKind.i64.wrap (1 * 2 ^ min l0.length 64))=ji4:=hji4_
 have hji4q:(l0.length:Int)≤64→(IntKind.i64.wrap (1 * 2 ^ l0.length))=ji4:=hji4z
 have hji4r:(IntKind.i64.wrap (2 ^ min l0.length 64))=ji4:=by have h_:=hji4p;rw [Int.one_mul] at h_;exact h_
 have hji4s:(l0.length:Int)≤64→(IntKind.i64.wrap (2 ^ l0.length))=ji4:=fun hle_=>by have h_:=hji4q hle_;rw [Int.one_mul] at h_;exact h_
 have hji4u:(IntKind.i64.wrap (2 ^ min (l0.length:Int).toNat 64))=ji4:=by have h_:=hji4_;rw [Int.one_mul] at h_;exact h_
 have hji4v:(l0.length:Int)≤64→(IntKind.i64.wrap (2 ^ (l0.length:Int).toNat))=ji4:=fun hle_=>by have h_:=hji4z hle_;rw [Int.one_mul] at h_;exact h_
 have hji4y:(wrap64 (1 * 2 ^ min (l0.length:Int).toNat 64))=ji4:=(i64_w _).symm.trans hji4_
 have hji4x:(l0.length:Int)≤64→(wrap64 (1 * 2 ^ (l0.length:Int).toNat))=ji4:=fun h_=>(i64_w _).symm.trans (hji4z h_)
 have H':=zA H
 clear H
 go_enter Try.func59,Try.ntmps59
 go_wp2_with (first|((with_reducible refine gate_dst (N:=4) rfl ?_);refine box_event ?hg (N:=4) ?hd (cs:=#[.slice none 0 0,.slice none 0 0]) (t:=29) ?hr ?_;(case hd=>rfl);(case hg=>rfl);(case hr=>first|(go_simp;done)|(go_simp;rfl));intro gb665 hg w5 hbox hb;have BK665:=zA (hbox);have GW665:=zA (zG hg (below_size zB):w.heap.size≤gb665);have GE665:=GW665;have NB662_665:=zA ((zl hg (zk BK662):gp1_0≠gb665));have NB665_662:=zA ((zg hg (zk BK662):gb665≠gp1_0));have NB663_665:=zA ((zl hg (zk BK663):gp1_1≠gb665));have NB665_663:=zA ((zg hg (zk BK663):gb665≠gp1_1));have NB664_665:=zA ((zl hg (zk BK664):gp1_2≠gb665));have NB665_664:=zA ((zg hg (zk BK664):gb665≠gp1_2));replace BK662:=zA (zb BK662 hb);replace BK663:=zA (zb BK663 hb);replace BK664:=zA (zb BK664 hb);replace HB:=zA (below_step zB hb);clear hb hbox hg)|((with_reducible refine gate_callee (f:=42) rfl ?_);refine goesL_ (some 8) rfl rfl Try.func42 zK rfl #[.slice A0 l0.length c0] rfl zM ?_;(with_reducible refine (slices_Clone_int_int.calls _ _ l0 t666 _ ?side1 ?side2 A3.out).mono ?_);(case side1=>exact zC (Kd.C_below HR0.out HB.out));(case side2=>exact HC0.out);rintro e w6 ⟨v667,rfl,ho0,hb⟩;refine ⟨_,rfl,?_⟩;have HO668:=zA (Kd.R_lower ho0 (below_size zB));replace BK662:=zA (zb BK662 hb);replace BK663:=zA (zb BK663 hb);replace BK664:=zA (zb BK664 hb);replace BK665:=zA (zb BK665 hb);replace HB:=zA (below_step zB hb);(try clear hb);(try clear hb2);(try clear hk);(try clear hi);(try clear ho0);obtain ⟨Ao7,co7,eo7⟩:=Kd.R_slice HO668.out;subst eo7)|((with_reducible refine gate_dst (N:=5) rfl ?_);refine box_event ?hg (N:=5) ?hd (cs:=#[.slice none 0 0,.slice none 0 0]) (t:=29) ?hr ?_;(case hd=>rfl);(case hg=>rfl);(case hr=>first|(go_simp;done)|(go_simp;rfl));intro gb669 hg w8 hbox hb;have BK669:=zA (hbox);have GW669:=zA (zG hg (below_size zB):w.heap.size≤gb669);have GE669:=GW669;have NB662_669:=zA ((zl hg (zk BK662):gp1_0≠gb669));have NB669_662:=zA ((zg hg (zk BK662):gb669≠gp1_0));have NB663_669:=zA ((zl hg (zk BK663):gp1_1≠gb669));have NB669_663:=zA ((zg hg (zk BK663):gb669≠gp1_1));have NB664_669:=zA ((zl hg (zk BK664):gp1_2≠gb669));have NB669_664:=zA ((zg hg (zk BK664):gb669≠gp1_2));have NB665_669:=zA ((zl hg (zk BK665):gb665≠gb669));have NB669_665:=zA ((zg hg (zk BK665):gb669≠gb665));replace HO668:=zA (Kd.R_below (zR HO668) hb);replace BK662:=zA (zb BK662 hb);replace BK663:=zA (zb BK663 hb);replace BK664:=zA (zb BK664 hb);replace BK665:=zA (zb BK665 hb);replace HB:=zA (below_step zB hb);clear hb hbox hg;have hnb9:=NB669_662.out;have hnc9:=NB662_669.out;have hnb10:=NB669_663.out;have hnc10:=NB663_669.out;have hnb11:=NB669_664.out;have hnc11:=NB664_669.out;have hnb12:=NB669_665.out;have hnc12:=NB665_669.out;have hcz13_0:w8.cell? ⟨gb669,0,none⟩=some (.slice none 0 0):=(blk_cell BK669.out 0).trans rfl;have hcz13_1:w8.cell? ⟨gb669,1,none⟩=some (.slice none 0 0):=(blk_cell BK669.out 1).trans rfl;have hfz13_0:=blk_frozen BK669.out 0;have hfz13_1:=blk_frozen BK669.out 1))
 go_loopg [13] k (fun kq v13 w'=>∃ (x13_1:Int) (x670001_1:List Int) (u670001:Value),v13=.int .i64 x13_1∧Aside0 (table_over_table_combine_1_table_Minus_1.l0 kq l0 ji4 x13_1 l1_0 l1_1 l1_2 l1_3 t666 x670001_1=some (r1,r2))∧Aside0 (kq≤k)∧Aside0 (Kd.R (Kd.int .i64) 3 w' w.heap.size (fun k_=>some k_≠(u670001:Value).ownBlock) (.slice Ao7 t666.length co7) t666)∧Aside0 (Kd.R (Kd.int .i64) 3 w' w.heap.size (fun k_=>some k_≠((.slice Ao7 t666.length co7):Value).ownBlock) u670001 x670001_1)∧Aside0 (w'.heap[gp1_0]?=some (.cells #[.func (.func 55) #[] #[]] 60 (0,0)))∧Aside0 (w'.heap[gp1_1]?=some (.cells #[(.slice A1_0 l1_0.length c1_0),(.slice A1_1 l1_1.length c1_1)] 29 (0,0)))∧Aside0 (w'.heap[gp1_2]?=some (.cells #[(.slice A1_2 l1_2.length c1_2),(.slice A1_3 l1_3.length c1_3)] 29 (0,0)))∧Aside0 (w'.heap[gb665]?=some (.cells #[(.slice none 0 0),(.slice none 0 0)] 29 (0,0)))∧Aside0 (w'.heap[gb669]?=some (.cells #[(.slice Ao7 t666.length co7),u670001] 29 (0,0)))∧Aside0 (Below w.heap.size w w'))
 case atStart=>exact ⟨(0),(([]:List Int)),(.slice none 0 0),zT,H',⟨Nat.le_refl _⟩,⟨by refine zr ?_;exact Kd.R_mono (Kd.R_far (p:=⟨gb669,1,none⟩) (Kd.R_far (p:=⟨gb669,0,none⟩) (Kd.R_types HO668.out BK669.out (by decide)) (fun _ hk=>hk.2) (.slice Ao7 t666.length co7)) (fun _ hk=>hk.2) (.slice none 0 0)) (fun _ hk=>(by simp [Value.ownBlock]))⟩,⟨by first|exact Kd.R_nil _ _ _ _ _|exact Kd.N_nil _ _ _ _ _|exact Kd.V_nil _ _ _ _ _|exact Kd.Q_nil _ _ _ _ _|exact Kd.S_nil _ _ _ _ _⟩,⟨by refine zj ?_;refine blk_far ?_ NB662_669.out _;refine zj ?_;refine blk_far ?_ NB662_669.out _;refine zj ?_;exact BK662.out⟩,⟨by refine zj ?_;refine blk_far ?_ NB663_669.out _;refine zj ?_;refine blk_far ?_ NB663_669.out _;refine zj ?_;exact BK663.out⟩,⟨by refine zj ?_;refine blk_far ?_ NB664_669.out _;refine zj ?_;refine blk_far ?_ NB664_669.out _;refine zj ?_;exact BK664.out⟩,⟨by refine zj ?_;refine blk_far ?_ NB665_669.out _;refine zj ?_;refine blk_far ?_ NB665_669.out _;refine zj ?_;exact BK665.out⟩,⟨by refine zj ?_;refine blk_put (cs:=#[.slice Ao7 t666.length co7,.slice none 0 0]) ?_ 1 _ rfl;refine zj ?_;refine blk_put (cs:=#[.slice none 0 0,.slice none 0 0]) ?_ 0 _ rfl;refine zj ?_;exact BK669.out⟩,⟨by repeat (first|(with_reducible first|exact HB.out|apply below_alloc|apply pw_below_drewN|apply below_drew1|refine below_set ?_ GE662.out|refine below_set ?_ GE663.out|refine below_set ?_ GE664.out|refine below_set ?_ GE665.out|refine below_set ?_ GE669.out)|exact HB.out)⟩⟩
 case round=>
  clear H'
  try clear hcz13_0
  try clear hcz13_1
  try clear hfz13_0
  try clear hfz13_1
  obtain ⟨x13_1,x670001_1,u670001,rfl,HA,HK1,HO_670000,HO_670001,BK662,BK663,BK664,BK665,BK669,HB⟩:=hrel
  cases gk with
  | zero=>exact absurd HA.out (by simp [table_over_table_combine_1_table_Minus_1.l0])
  | succ k1=>
   have H:=HA.out
   clear HA
   simp only [table_over_table_combine_1_table_Minus_1.l0] at H
   by_cases c14:x13_1<ji4
   ·rw [if_pos c14] at H
    have c14b0:decide (x13_1<ji4)=true:=decide_eq_true c14
    clear c14
    replace H:=Option.bind_eq_some_iff.mp H
    obtain ⟨t670,A150,H⟩:=H
    replace H:((table_combine_1_table_Minus_1.f k1 t670 l1_0 l1_1 l1_2 l1_3).bind fun t671=>(if t671=true then (if x670001_1.length<17592186044416 then (table_over_table_combine_1_table_Minus_1.l0 k1 l0 ji4 (wrap64 (x13_1+1)) l1_0 l1_1 l1_2 l1_3 t666 (x670001_1++[x13_1])) else (none)) else (table_over_table_combine_1_table_Minus_1.l0 k1 l0 ji4 (wrap64 (x13_1+1)) l1_0 l1_1 l1_2 l1_3 t666 x670001_1)))=some (r1,r2):=H
    have A15:=zA A150
    clear A150
    replace H:=Option.bind_eq_some_iff.mp H
    obtain ⟨t671,A160,H⟩:=H
    replace H:(if t671=true then (if x670001_1.length<17592186044416 then (table_over_table_combine_1_table_Minus_1.l0 k1 l0 ji4 (wrap64 (x13_1+1)) l1_0 l1_1 l1_2 l1_3 t666 (x670001_1++[x13_1])) else (none)) else (table_over_table_combine_1_table_Minus_1.l0 k1 l0 ji4 (wrap64 (x13_1+1)) l1_0 l1_1 l1_2 l1_3 t666 x670001_1))=some (r1,r2):=H
    have A16:=zA A160
    clear A160
    have HC17:=zA H
    clear H
    go_upto_if 20 with (first|((with_reducible refine gate_callee (f:=69) rfl ?_);refine goesL_ (some 19) rfl rfl Try.func69 zK rfl #[.slice A0 l0.length c0,.int .i64 x13_1] rfl zM ?_;(with_reducible refine (table_assignment.calls k1 _ _ l0 x13_1 t670 _ ?side1 ?side2 A15.out).mono ?_);(case side1=>exact zC (Kd.C_below HR0.out HB.out));(case side2=>exact HC0.out);rintro e w' ⟨rfl,⟨nd,rfl⟩⟩;refine ⟨_,rfl,?_⟩)|(go_at_call 73;(with_reducible refine (table_combine_1_table_Minus_1.calls k1 t670 gp1_0 gp1_1 A1_0 c1_0 l1_0 A1_1 c1_1 l1_1 gp1_2 A1_2 c1_2 l1_2 A1_3 c1_3 l1_3 t671 _ ?side1 ?side2 ?side3 ?side4 ?side5 ?side6 ?side7 ?side8 ?side9 ?side10 ?side11 A16.out).mono ?_);(case side1=>refine zj ?_;exact BK662.out);(case side2=>repeat (first|exact (Kd.C_below HR1_0.out zB)|(with_reducible refine Kd.C_alloc ?_ _)|(with_reducible refine Kd.C_drewN ?_ _)|(with_reducible refine Kd.C_drew ?_)));(case side3=>exact HC1_0.out);(case side4=>repeat (first|exact (Kd.C_below HR1_1.out zB)|(with_reducible refine Kd.C_alloc ?_ _)|(with_reducible refine Kd.C_drewN ?_ _)|(with_reducible refine Kd.C_drew ?_)));(case side5=>exact HC1_1.out);(case side6=>refine zj ?_;exact BK663.out);(case side7=>repeat (first|exact (Kd.C_below HR1_2.out zB)|(with_reducible refine Kd.C_alloc ?_ _)|(with_reducible refine Kd.C_drewN ?_ _)|(with_reducible refine Kd.C_drew ?_)));(case side8=>exact HC1_2.out);(case side9=>repeat (first|exact (Kd.C_below HR1_3.out zB)|(with_reducible refine Kd.C_alloc ?_ _)|(with_reducible refine Kd.C_drewN ?_ _)|(with_reducible refine Kd.C_drew ?_)));(case side10=>exact HC1_3.out);(case side11=>refine zj ?_;exact BK664.out);rintro e w18 ⟨rfl,hb⟩;replace HO_670000:=zA (Kd.R_below (zR HO_670000) hb);replace HO_670001:=zA (Kd.R_below (zR HO_670001) hb);replace BK662:=zA (zb BK662 hb);replace BK663:=zA (zb BK663 hb);replace BK664:=zA (zb BK664 hb);replace BK665:=zA (zb BK665 hb);replace BK669:=zA (zb BK669 hb);replace HB:=zA (below_step zB hb);(try clear hb);(try clear hb2);(try clear hk);(try clear hi)))
    (try simp only [Act.put,zi,zs,zt])
    have H:=HC17.out
    clear HC17
    by_cases c19:t671=true
    ·subst c19
     have H1:(if x670001_1.length<17592186044416 then (table_over_table_combine_1_table_Minus_1.l0 k1 l0 ji4 (wrap64 (x13_1+1)) l1_0 l1_1 l1_2 l1_3 t666 (x670001_1++[x13_1])) else (none))=some (r1,r2):=by rw [if_pos rfl] at H;exact H
     clear H
     have H:=H1
     clear H1
     by_cases c20:x670001_1.length<17592186044416
     ·rw [if_pos c20] at H
      have LMc20:=zA c20
      clear c20
      obtain ⟨y672,hy672⟩:∃ y_:List Int,y_=(x670001_1++[x13_1]):=⟨_,rfl⟩
      replace H:(table_over_table_combine_1_table_Minus_1.l0 k1 l0 ji4 (wrap64 (x13_1+1)) l1_0 l1_1 l1_2 l1_3 t666 y672)=some (r1,r2):=by first|(rw [hy672];with_reducible exact H)|(have H2_:=(Option.bind_some _ _).symm.trans H;rw [hy672];with_reducible exact H2_)|(have H2_:=(Option.bind_some _ _).symm.trans H;with_reducible exact H2_)|with_reducible exact H|(rw [hy672];exact H)|exact H
      have Ny672:=zA hy672
      clear hy672
      have H':=zA H
      clear H
      have hnb21:=NB669_662.out
      have hnc21:=NB662_669.out
      have hnb22:=NB669_663.out
      have hnc22:=NB663_669.out
      have hnb23:=NB669_664.out
      have hnc23:=NB664_669.out
      have hnb24:=NB669_665.out
      have hnc24:=NB665_669.out
      have hcz25_0:w18.cell? ⟨gb669,0,none⟩=some (.slice Ao7 t666.length co7):=(blk_cell BK669.out 0).trans rfl
      have hcz25_1:w18.cell? ⟨gb669,1,none⟩=some (u670001):=(blk_cell BK669.out 1).trans rfl
      have hfz25_0:=blk_frozen BK669.out 0
      have hfz25_1:=blk_frozen BK669.out 1
      go_wp2_with (first|((with_reducible refine gate_builtin (b:=.append) (xs:=#[.tmp 22,.tmp 24]) rfl ?_);at_builtin;refine Kd.R_append (Kd.int .i64) (w0:=w) w.heap.size rfl (.tmp 22) (.tmp 24) 27 3 (.int .i64 0) 8 rfl Try.underlying27 info3 rfl (by decide) (by omega) u670001 x670001_1 x13_1 [.int .i64 x13_1] (fun k_=>some k_≠(.slice Ao7 t666.length co7:Value).ownBlock) (fun _=>False) rfl rfl ?aP (fun _ hk=>hk.elim) ?aF ?aO ?aB ?aS ?aL ?_;(case aP=>exact rfl);(case aB=>exact zB);(case aF=>exact (fun k_ hk=>Kd.fresh' (Kd.R_lt (zR HO_670000)) k_ hk));(case aO=>exact (zR HO_670001));(case aS=>exact (below_size zB));(case aL=>have:=LMc20.out;omega);intro v673 w26 ho hb hg hat;rw [← Ny672.out] at ho;have HO674:=zA (ho);replace HO_670000:=zA (Kd.R_after (ok:=(fun _=>True)) (by refine zr ?_;exact Kd.R_mono HO_670000.out (fun _ hk=>⟨trivial,hk⟩)) hg hat);replace BK662:=zA (blk_grown (g:=gp1_0) (o:=.cells #[.func (.func 55) #[] #[]] 60 (0,0)) (zk BK662) hg (Kd.R_ne HO_670001.out BK662.out (by decide)));replace BK663:=zA (blk_grown (g:=gp1_1) (o:=.cells #[.slice A1_0 l1_0.length c1_0,.slice A1_1 l1_1.length c1_1] 29 (0,0)) (zk BK663) hg (Kd.R_ne HO_670001.out BK663.out (by decide)));replace BK664:=zA (blk_grown (g:=gp1_2) (o:=.cells #[.slice A1_2 l1_2.length c1_2,.slice A1_3 l1_3.length c1_3] 29 (0,0)) (zk BK664) hg (Kd.R_ne HO_670001.out BK664.out (by decide)));replace BK665:=zA (blk_grown (g:=gb665) (o:=.cells #[.slice none 0 0,.slice none 0 0] 29 (0,0)) (zk BK665) hg (Kd.R_ne HO_670001.out BK665.out (by decide)));replace BK669:=zA (blk_grown (g:=gb669) (o:=.cells #[.slice Ao7 t666.length co7,u670001] 29 (0,0)) (zk BK669) hg (Kd.R_ne HO_670001.out BK669.out (by decide)));replace HB:=zA (hb);clear HO_670001;clear ho hb hg hat;obtain ⟨Ao27,co27,eo27⟩:=Kd.R_slice HO674.out;subst eo27;have hcz28_0:w26.cell? ⟨gb669,0,none⟩=some (.slice Ao7 t666.length co7):=(blk_cell BK669.out 0).trans rfl;have hcz28_1:w26.cell? ⟨gb669,1,none⟩=some (u670001):=(blk_cell BK669.out 1).trans rfl;have hfz28_0:=blk_frozen BK669.out 0;have hfz28_1:=blk_frozen BK669.out 1))
      go_roundg k1
      case measure=>have:=HK1.out;omega
      case rel=>exact ⟨(wrap64 (x13_1+1)),(y672),(.slice Ao27 y672.length co27),zT,H',⟨by have:=HK1.out;omega⟩,⟨by refine zr ?_;exact Kd.R_mono (Kd.R_far (p:=⟨gb669,1,none⟩) (Kd.R_types HO_670000.out BK669.out (by decide)) (fun _ hk=>hk.2) (.slice Ao27 y672.length co27)) (fun _ hk=>hk.1.2)⟩,⟨by refine zr ?_;exact Kd.R_mono (Kd.R_far (p:=⟨gb669,1,none⟩) (Kd.R_types HO674.out BK669.out (by decide)) (fun _ hk=>hk.2) (.slice Ao27 y672.length co27)) (fun _ hk=>hk.1)⟩,⟨by refine zj ?_;refine blk_far ?_ NB662_669.out _;refine zj ?_;exact BK662.out⟩,⟨by refine zj ?_;refine blk_far ?_ NB663_669.out _;refine zj ?_;exact BK663.out⟩,⟨by refine zj ?_;refine blk_far ?_ NB664_669.out _;refine zj ?_;exact BK664.out⟩,⟨by refine zj ?_;refine blk_far ?_ NB665_669.out _;refine zj ?_;exact BK665.out⟩,⟨by refine zj ?_;refine blk_put (cs:=#[.slice Ao7 t666.length co7,u670001]) ?_ 1 _ rfl;refine zj ?_;exact BK669.out⟩,⟨by repeat (first|(with_reducible first|exact HB.out|apply below_alloc|apply pw_below_drewN|apply below_drew1|refine below_set ?_ GE662.out|refine below_set ?_ GE663.out|refine below_set ?_ GE664.out|refine below_set ?_ GE665.out|refine below_set ?_ GE669.out)|exact HB.out)⟩⟩
     ·rw [if_neg c20] at H
      exact absurd H (by simp)
    ·replace c19:=Bool.eq_false_iff.mpr c19
     subst c19
     have H1:(table_over_table_combine_1_table_Minus_1.l0 k1 l0 ji4 (wrap64 (x13_1+1)) l1_0 l1_1 l1_2 l1_3 t666 x670001_1)=some (r1,r2):=by rw [if_neg (show ¬ (false=true) by decide)] at H;exact H
     clear H
     have H:=H1
     clear H1
     have H':=zA H
     clear H
     go_wp2
     go_roundg k1
     case measure=>have:=HK1.out;omega
     case rel=>exact ⟨(wrap64 (x13_1+1)),(x670001_1),(u670001),zT,H',⟨by have:=HK1.out;omega⟩,⟨by refine zr ?_;exact HO_670000.out⟩,⟨by refine zr ?_;exact HO_670001.out⟩,⟨by refine zj ?_;exact BK662.out⟩,⟨by refine zj ?_;exact BK663.out⟩,⟨by refine zj ?_;exact BK664.out⟩,⟨by refine zj ?_;exact BK665.out⟩,⟨by refine zj ?_;exact BK669.out⟩,⟨by repeat (first|(with_reducible first|exact HB.out|apply below_alloc|apply pw_below_drewN|apply below_drew1|refine below_set ?_ GE662.out|refine below_set ?_ GE663.out|refine below_set ?_ GE664.out|refine below_set ?_ GE665.out|refine below_set ?_ GE669.out)|exact HB.out)⟩⟩
   ·rw [if_neg c14] at H
    have c14b0:decide (x13_1<ji4)=false:=decide_eq_false c14
    clear c14
    simp only [Option.some.injEq,Prod.mk.injEq] at H
    obtain ⟨rfl,rfl⟩:=H
    have hnb29:=NB669_662.out
    have hnc29:=NB662_669.out
    have hnb30:=NB669_663.out
    have hnc30:=NB663_669.out
    have hnb31:=NB669_664.out
    have hnc31:=NB664_669.out
    have hnb32:=NB669_665.out
    have hnc32:=NB665_669.out
    have hcz33_0:wr.cell? ⟨gb669,0,none⟩=some (.slice Ao7 t666.length co7):=(blk_cell BK669.out 0).trans rfl
    have hcz33_1:wr.cell? ⟨gb669,1,none⟩=some (u670001):=(blk_cell BK669.out 1).trans rfl
    have hfz33_0:=blk_frozen BK669.out 0
    have hfz33_1:=blk_frozen BK669.out 1
    have hnb34:=NB665_662.out
    have hnc34:=NB662_665.out
    have hnb35:=NB665_663.out
    have hnc35:=NB663_665.out
    have hnb36:=NB665_664.out
    have hnc36:=NB664_665.out
    have hcz37_0:wr.cell? ⟨gb665,0,none⟩=some (.slice none 0 0):=(blk_cell BK665.out 0).trans rfl
    have hcz37_1:wr.cell? ⟨gb665,1,none⟩=some (.slice none 0 0):=(blk_cell BK665.out 1).trans rfl
    have hfz37_0:=blk_frozen BK665.out 0
    have hfz37_1:=blk_frozen BK665.out 1
    obtain ⟨Ao38,co38,eo38⟩:=Kd.R_slice HO_670001.out
    subst eo38
    go_wp2
    refine bodyPost_ret (results_cell_row rfl _ _ gb665 29 #[.slice Ao7 t666.length co7,.slice Ao38 x670001_1.length co38] (0,0) _ rfl (by refine zj ?_;refine blk_put (cs:=#[.slice Ao7 t666.length co7,.slice none 0 0]) ?_ 1 _ rfl;refine zj ?_;refine blk_put (cs:=#[.slice none 0 0,.slice none 0 0]) ?_ 0 _ rfl;refine zj ?_;exact BK665.out) Try.underlying29 rfl zK) rfl ?_
    exact ⟨_,_,by first|rfl|(simp [errW_none,errW_some] <;> rfl)|(simp only [← hji4];first|rfl|(simp [errW_none,errW_some] <;> rfl))|(simp [*,errW_none,errW_some] <;> rfl),by refine zr ?_;exact Kd.R_mono (Kd.R_far (p:=⟨gb665,1,none⟩) (Kd.R_far (p:=⟨gb665,0,none⟩) (Kd.R_types HO_670000.out BK665.out (by decide)) (fun _ hk=>hk.2) (.slice Ao7 t666.length co7)) (fun _ hk=>hk.2) (.slice Ao38 x670001_1.length co38)) (fun _ hk=>hk.1),by refine zr ?_;exact Kd.R_mono (Kd.R_far (p:=⟨gb665,1,none⟩) (Kd.R_far (p:=⟨gb665,0,none⟩) (Kd.R_types HO_670001.out BK665.out (by decide)) (fun _ hk=>hk.2) (.slice Ao7 t666.length co7)) (fun _ hk=>hk.2) (.slice Ao38 x670001_1.length co38)) (fun _ hk=>hk.1),by repeat (first|(with_reducible first|exact HB.out|apply below_alloc|apply pw_below_drewN|apply below_drew1|refine below_set ?_ GE662.out|refine below_set ?_ GE663.out|refine below_set ?_ GE664.out|refine below_set ?_ GE665.out|refine below_set ?_ GE669.out)|exact HB.out)⟩
def table_combine_table_Minus_1.f (k:Nat) (l0_0:List Int) (l0_1:List Int) (l1_0:List Int) (l1_1:List Int) :Option (List Int×List Int×Int):=(table_Valid.f k l0_0 l0_1).bind fun t679=>(if t679=0 then ((table_Valid.f k l1_0 l1_1).bind fun t680=>(if t680=0 then ((table_all.f k l0_0 l1_0).bind fun t681=>(if (t681.length:Int)>10 then (some (([]:List Int),([]:List Int),3)) else ((table_over_table_combine_1_table_Minus_1.f k t681 l0_0 l0_1 l1_0 l1_1).bind fun bt684=>(some (bt684.1,bt684.2,0))))) else (some (([]:List Int),([]:List Int),t680)))) else (some (([]:List Int),([]:List Int),t679)))
theorem table_combine_table_Minus_1.mono:∀ a0 a1 a2 a3 k,LeO (table_combine_table_Minus_1.f k a0 a1 a2 a3) (table_combine_table_Minus_1.f (k+1) a0 a1 a2 a3):=by
 intro a0 a1 a2 a3 k
 unfold table_combine_table_Minus_1.f
 repeat' first
   | (with_reducible exact table_Valid.mono _ _ _)
   | (with_reducible exact table_all.mono _ _ _)
   | (with_reducible exact table_over_table_combine_1_table_Minus_1.mono _ _ _ _ _ _)
   | (with_reducible exact LeO.refl _)
   | (with_reducible exact LeO.none _)
   | (with_reducible refine LeO.ite ?_ ?_)
   | (with_reducible refine LeO.bind ?_ (fun _=>?_))
   | exact LeO.none _
   | refine LeO.ite ?_ ?_
   | refine LeO.bind ?_ (fun _=>?_)
set_option maxHeartbeats 8000000 in
set_option maxRecDepth 100000 in
theorem table_combine_table_Minus_1.calls (k:Nat) (A0_0:Option Addr) (c0_0:Nat) (l0_0:List Int) (A0_1:Option Addr) (c0_1:Nat) (l0_1:List Int) (A1_0:Option Addr) (c1_0:Nat) (l1_0:List Int) (A1_1:Option Addr) (c1_1:Nat) (l1_1:List Int)  (r1:List Int) (r2:List Int) (r3:Int) (w:World) (hr0_0:Kd.C (Kd.int .i64) w A0_0 l0_0.length l0_0) (hc0_0:l0_0.length≤c0_0) (hr0_1:Kd.C (Kd.int .i64) w A0_1 l0_1.length l0_1) (hc0_1:l0_1.length≤c0_1) (hr1_0:Kd.C (Kd.int .i64) w A1_0 l1_0.length l1_0) (hc1_0:l1_0.length≤c1_0) (hr1_1:Kd.C (Kd.int .i64) w A1_1 l1_1.length l1_1) (hc1_1:l1_1.length≤c1_1) (h:table_combine_table_Minus_1.f k l0_0 l0_1 l1_0 l1_1=some (r1,r2,r3)) :
  Calls Try.prog 46 #[.agg #[.slice A0_0 l0_0.length c0_0,.slice A0_1 l0_1.length c0_1],.agg #[.slice A1_0 l1_0.length c1_0,.slice A1_1 l1_1.length c1_1],.func (.func 55) #[] #[]] w fun e w'=>∃ v0_ v1_:Value,e=.returned (.tuple #[.agg #[v0_,v1_],.int .i64 r3])∧Kd.R (Kd.int .i64) 3 w' w.heap.size (fun k_=>some k_≠(v1_:Value).ownBlock) v0_ r1∧Kd.R (Kd.int .i64) 3 w' w.heap.size (fun k_=>some k_≠(v0_:Value).ownBlock) v1_ r2∧Below w.heap.size w w':=by
 have hu29:=Try.underlying29
 have hu60:=Try.underlying60
 have hu27:=Try.underlying27
 have HR0_0:=zA hr0_0
 have HC0_0:=zA hc0_0
 clear hr0_0 hc0_0
 have HR0_1:=zA hr0_1
 have HC0_1:=zA hc0_1
 clear hr0_1 hc0_1
 have HR1_0:=zA hr1_0
 have HC1_0:=zA hc1_0
 clear hr1_0 hc1_0
 have HR1_1:=zA hr1_1
 have HC1_1:=zA hc1_1
 clear hr1_1 hc1_1
 have HB:=zA (Below.refl w.heap.size w)
 have H:((table_Valid.f k l0_0 l0_1).bind fun t679=>(if t679=0 then ((table_Valid.f k l1_0 l1_1).bind fun t680=>(if t680=0 then ((table_all.f k l0_0 l1_0).bind fun t681=>(if (t681.length:Int)>10 then (some (([]:List Int),([]:List Int),3)) else ((table_over_table_combine_1_table_Minus_1.f k t681 l0_0 l0_1 l1_0 l1_1).bind fun bt684=>(some (bt684.1,bt684.2,0))))) else (some (([]:List Int),([]:List Int),t680)))) else (some (([]:List Int),([]:List Int),t679))))=some (r1,r2,r3):=h
 clear h
 replace H:=Option.bind_eq_some_iff.mp H
 obtain ⟨t679,A40,H⟩:=H
 replace H:(if t679=0 then ((table_Valid.f k l1_0 l1_1).bind fun t680=>(if t680=0 then ((table_all.f k l0_0 l1_0).bind fun t681=>(if (t681.length:Int)>10 then (some (([]:List Int),([]:List Int),3)) else ((table_over_table_combine_1_table_Minus_1.f k t681 l0_0 l0_1 l1_0 l1_1).bind fun bt684=>(some (bt684.1,bt684.2,0))))) else (some (([]:List Int),([]:List Int),t680)))) else (some (([]:List Int),([]:List Int),t679)))=some (r1,r2,r3):=H
 have A4:=zA A40
 clear A40
 have HC5:=zA H
 clear H
 go_enter Try.func46,Try.ntmps46
 go_upto_if 14 with (first|((with_reducible refine gate_dst (N:=3) rfl ?_);refine box_event ?hg (N:=3) ?hd (cs:=#[.slice A0_0 l0_0.length c0_0,.slice A0_1 l0_1.length c0_1]) (t:=29) ?hr ?_;(case hd=>rfl);(case hg=>rfl);(case hr=>first|(go_simp;done)|(go_simp;rfl));intro gb675 hg w6 hbox hb;have BK675:=zA (hbox);have GW675:=zA (zG hg (below_size zB):w.heap.size≤gb675);have GE675:=GW675;replace HB:=zA (below_step zB hb);clear hb hbox hg)|((with_reducible refine gate_dst (N:=4) rfl ?_);refine box_event ?hg (N:=4) ?hd (cs:=#[.slice A1_0 l1_0.length c1_0,.slice A1_1 l1_1.length c1_1]) (t:=29) ?hr ?_;(case hd=>rfl);(case hg=>rfl);(case hr=>first|(go_simp;done)|(go_simp;rfl));intro gb676 hg w7 hbox hb;have BK676:=zA (hbox);have GW676:=zA (zG hg (below_size zB):w.heap.size≤gb676);have GE676:=GW676;have NB675_676:=zA ((zl hg (zk BK675):gb675≠gb676));have NB676_675:=zA ((zg hg (zk BK675):gb676≠gb675));replace BK675:=zA (zb BK675 hb);replace HB:=zA (below_step zB hb);clear hb hbox hg)|((with_reducible refine gate_dst (N:=5) rfl ?_);refine box_event ?hg (N:=5) ?hd (cs:=#[.func (.func 55) #[] #[]]) (t:=60) ?hr ?_;(case hd=>rfl);(case hg=>rfl);(case hr=>first|(go_simp;done)|(go_simp;rfl));intro gb677 hg w8 hbox hb;have BK677:=zA (hbox);have GW677:=zA (zG hg (below_size zB):w.heap.size≤gb677);have GE677:=GW677;have NB675_677:=zA ((zl hg (zk BK675):gb675≠gb677));have NB677_675:=zA ((zg hg (zk BK675):gb677≠gb675));have NB676_677:=zA ((zl hg (zk BK676):gb676≠gb677));have NB677_676:=zA ((zg hg (zk BK676):gb677≠gb676));replace BK675:=zA (zb BK675 hb);replace BK676:=zA (zb BK676 hb);replace HB:=zA (below_step zB hb);clear hb hbox hg)|((with_reducible refine gate_dst (N:=6) rfl ?_);refine box_event ?hg (N:=6) ?hd (cs:=#[.slice none 0 0,.slice none 0 0]) (t:=29) ?hr ?_;(case hd=>rfl);(case hg=>rfl);(case hr=>first|(go_simp;done)|(go_simp;rfl));intro gb678 hg w9 hbox hb;have BK678:=zA (hbox);have GW678:=zA (zG hg (below_size zB):w.heap.size≤gb678);have GE678:=GW678;have NB675_678:=zA ((zl hg (zk BK675):gb675≠gb678));have NB678_675:=zA ((zg hg (zk BK675):gb678≠gb675));have NB676_678:=zA ((zl hg (zk BK676):gb676≠gb678));have NB678_676:=zA ((zg hg (zk BK676):gb678≠gb676));have NB677_678:=zA ((zl hg (zk BK677):gb677≠gb678));have NB678_677:=zA ((zg hg (zk BK677):gb678≠gb677));replace BK675:=zA (zb BK675 hb);replace BK676:=zA (zb BK676 hb);replace BK677:=zA (zb BK677 hb);replace HB:=zA (below_step zB hb);clear hb hbox hg;have hnb10:=NB675_676.out;have hnc10:=NB676_675.out;have hnb11:=NB675_677.out;have hnc11:=NB677_675.out;have hnb12:=NB675_678.out;have hnc12:=NB678_675.out;have hcz13_0:w9.cell? ⟨gb675,0,none⟩=some (.slice A0_0 l0_0.length c0_0):=(blk_cell BK675.out 0).trans rfl;have hcz13_1:w9.cell? ⟨gb675,1,none⟩=some (.slice A0_1 l0_1.length c0_1):=(blk_cell BK675.out 1).trans rfl;have hfz13_0:=blk_frozen BK675.out 0;have hfz13_1:=blk_frozen BK675.out 1)|((with_reducible refine gate_callee (f:=25) rfl ?_);refine goesL_ (some 12) rfl rfl Try.func25 zK rfl #[.agg #[.slice A0_0 l0_0.length c0_0,.slice A0_1 l0_1.length c0_1]] rfl zM ?_;(with_reducible refine (table_Valid.calls k _ _ l0_0 _ _ l0_1 t679 _ ?side1 ?side2 ?side3 ?side4 A4.out).mono ?_);(case side1=>exact zC (Kd.C_below HR0_0.out HB.out));(case side2=>exact HC0_0.out);(case side3=>exact zC (Kd.C_below HR0_1.out HB.out));(case side4=>exact HC0_1.out);rintro e w14 ⟨rfl,hb⟩;refine ⟨_,rfl,?_⟩;replace BK675:=zA (zb BK675 hb);replace BK676:=zA (zb BK676 hb);replace BK677:=zA (zb BK677 hb);replace BK678:=zA (zb BK678 hb);replace HB:=zA (below_step zB hb);(try clear hb);(try clear hb2);(try clear hk);(try clear hi)))
 (try simp only [Act.put,zi,zs,zt])
 have H:=HC5.out
 clear HC5
 by_cases c15:t679=0
 ·rw [if_pos c15] at H
  have c15b0:(t679 == 0)=true:=beq_iff_eq.mpr c15
  have c15b1:(t679 != 0)=false:=bne_eq_false_iff_eq.mpr c15
  clear c15
  (first|rw [c15b0]|(simp only [i64_w,i32_w];rw [c15b0])|skip)
  (try rw [c15b1])
  replace H:=Option.bind_eq_some_iff.mp H
  obtain ⟨t680,A160,H⟩:=H
  replace H:(if t680=0 then ((table_all.f k l0_0 l1_0).bind fun t681=>(if (t681.length:Int)>10 then (some (([]:List Int),([]:List Int),3)) else ((table_over_table_combine_1_table_Minus_1.f k t681 l0_0 l0_1 l1_0 l1_1).bind fun bt684=>(some (bt684.1,bt684.2,0))))) else (some (([]:List Int),([]:List Int),t680)))=some (r1,r2,r3):=H
  have A16:=zA A160
  clear A160
  have HC17:=zA H
  clear H
  have hnb18:=NB676_675.out
  have hnc18:=NB675_676.out
  have hnb19:=NB676_677.out
  have hnc19:=NB677_676.out
  have hnb20:=NB676_678.out
  have hnc20:=NB678_676.out
  have hcz21_0:w14.cell? ⟨gb676,0,none⟩=some (.slice A1_0 l1_0.length c1_0):=(blk_cell BK676.out 0).trans rfl
  have hcz21_1:w14.cell? ⟨gb676,1,none⟩=some (.slice A1_1 l1_1.length c1_1):=(blk_cell BK676.out 1).trans rfl
  have hfz21_0:=blk_frozen BK676.out 0
  have hfz21_1:=blk_frozen BK676.out 1
  go_upto_if 20 with (first|((with_reducible refine gate_callee (f:=25) rfl ?_);refine goesL_ (some 18) rfl rfl Try.func25 zK rfl #[.agg #[.slice A1_0 l1_0.length c1_0,.slice A1_1 l1_1.length c1_1]] rfl zM ?_;(with_reducible refine (table_Valid.calls k _ _ l1_0 _ _ l1_1 t680 _ ?side1 ?side2 ?side3 ?side4 A16.out).mono ?_);(case side1=>exact zC (Kd.C_below HR1_0.out HB.out));(case side2=>exact HC1_0.out);(case side3=>exact zC (Kd.C_below HR1_1.out HB.out));(case side4=>exact HC1_1.out);rintro e w22 ⟨rfl,hb⟩;refine ⟨_,rfl,?_⟩;replace BK675:=zA (zb BK675 hb);replace BK676:=zA (zb BK676 hb);replace BK677:=zA (zb BK677 hb);replace BK678:=zA (zb BK678 hb);replace HB:=zA (below_step zB hb);(try clear hb);(try clear hb2);(try clear hk);(try clear hi)))
  (try simp only [Act.put,zi,zs,zt])
  have H:=HC17.out
  clear HC17
  by_cases c23:t680=0
  ·rw [if_pos c23] at H
   have c23b0:(t680 == 0)=true:=beq_iff_eq.mpr c23
   have c23b1:(t680 != 0)=false:=bne_eq_false_iff_eq.mpr c23
   clear c23
   (first|rw [c23b0]|(simp only [i64_w,i32_w];rw [c23b0])|skip)
   (try rw [c23b1])
   replace H:=Option.bind_eq_some_iff.mp H
   obtain ⟨t681,A240,H⟩:=H
   replace H:(if (t681.length:Int)>10 then (some (([]:List Int),([]:List Int),3)) else ((table_over_table_combine_1_table_Minus_1.f k t681 l0_0 l0_1 l1_0 l1_1).bind fun bt684=>(some (bt684.1,bt684.2,0))))=some (r1,r2,r3):=H
   have A24:=zA A240
   clear A240
   have HC25:=zA H
   clear H
   have hnb26:=NB675_676.out
   have hnc26:=NB676_675.out
   have hnb27:=NB675_677.out
   have hnc27:=NB677_675.out
   have hnb28:=NB675_678.out
   have hnc28:=NB678_675.out
   have hcz29_0:w22.cell? ⟨gb675,0,none⟩=some (.slice A0_0 l0_0.length c0_0):=(blk_cell BK675.out 0).trans rfl
   have hcz29_1:w22.cell? ⟨gb675,1,none⟩=some (.slice A0_1 l0_1.length c0_1):=(blk_cell BK675.out 1).trans rfl
   have hfz29_0:=blk_frozen BK675.out 0
   have hfz29_1:=blk_frozen BK675.out 1
   have hnb30:=NB676_677.out
   have hnc30:=NB677_676.out
   have hnb31:=NB676_678.out
   have hnc31:=NB678_676.out
   have hcz32_0:w22.cell? ⟨gb676,0,none⟩=some (.slice A1_0 l1_0.length c1_0):=(blk_cell BK676.out 0).trans rfl
   have hcz32_1:w22.cell? ⟨gb676,1,none⟩=some (.slice A1_1 l1_1.length c1_1):=(blk_cell BK676.out 1).trans rfl
   have hfz32_0:=blk_frozen BK676.out 0
   have hfz32_1:=blk_frozen BK676.out 1
   go_upto_if 30 with (first|((with_reducible refine gate_callee (f:=64) rfl ?_);refine goesL_ (some 27) rfl rfl Try.func64 zK rfl #[.slice A0_0 l0_0.length c0_0,.slice A1_0 l1_0.length c1_0] rfl zM ?_;(with_reducible refine (table_all.calls k (fun k_=>k_<w.heap.size) _ _ l0_0 (fun k_=>k_<w.heap.size) _ _ l1_0 t681 _ ?side1 ?side2 A24.out).mono ?_);(case side1=>exact Kd.V_mk HC0_0.out (Kd.F_below (Kd.C_F (Kd.heap_int .i64) HR0_0.out) zB));(case side2=>exact Kd.V_mk HC1_0.out (Kd.F_below (Kd.C_F (Kd.heap_int .i64) HR1_0.out) zB));rintro e w33 ⟨v682,rfl,ho0,hb⟩;refine ⟨_,rfl,?_⟩;have HO683:=zA (Kd.R_lower (Kd.R_mono (ok':=fun k_=>True) ho0 (fun _ hk_=>trivial)) (below_size zB));replace BK675:=zA (zb BK675 hb);replace BK676:=zA (zb BK676 hb);replace BK677:=zA (zb BK677 hb);replace BK678:=zA (zb BK678 hb);replace HB:=zA (below_step zB hb);(try clear hb);(try clear hb2);(try clear hk);(try clear hi);(try clear ho0);obtain ⟨Ao34,co34,eo34⟩:=Kd.R_slice HO683.out;subst eo34))
   (try simp only [Act.put,zi,zs,zt])
   have H:=HC25.out
   clear HC25
   by_cases c35:(t681.length:Int)>10
   ·rw [if_pos c35] at H
    have c35b0:decide (10<(t681.length:Int))=true:=decide_eq_true c35
    have c35b1:decide (10<t681.length)=true:=decide_eq_true (by omega)
    clear c35
    (first|rw [c35b0]|(simp only [i64_w,i32_w];rw [c35b0])|skip)
    (try rw [c35b1])
    simp only [Option.some.injEq,Prod.mk.injEq] at H
    obtain ⟨rfl,rfl,rfl⟩:=H
    have hnb36:=NB678_675.out
    have hnc36:=NB675_678.out
    have hnb37:=NB678_676.out
    have hnc37:=NB676_678.out
    have hnb38:=NB678_677.out
    have hnc38:=NB677_678.out
    have hcz39_0:w33.cell? ⟨gb678,0,none⟩=some (.slice none 0 0):=(blk_cell BK678.out 0).trans rfl
    have hcz39_1:w33.cell? ⟨gb678,1,none⟩=some (.slice none 0 0):=(blk_cell BK678.out 1).trans rfl
    have hfz39_0:=blk_frozen BK678.out 0
    have hfz39_1:=blk_frozen BK678.out 1
    go_wp2
    refine bodyPost_ret (results_ct rfl _ _ gb678 29 #[.slice none 0 0,.slice none 0 0] (0,0) _ rfl (by refine zj ?_;refine blk_put (cs:=#[.slice none 0 0,.slice none 0 0]) ?_ 1 _ rfl;refine zj ?_;refine blk_put (cs:=#[.slice none 0 0,.slice none 0 0]) ?_ 0 _ rfl;refine zj ?_;exact BK678.out) Try.underlying29 rfl zK) rfl ?_
    exact ⟨_,_,ze,by first|exact Kd.R_nil _ _ _ _ _|exact Kd.N_nil _ _ _ _ _|exact Kd.V_nil _ _ _ _ _|exact Kd.Q_nil _ _ _ _ _|exact Kd.S_nil _ _ _ _ _,by first|exact Kd.R_nil _ _ _ _ _|exact Kd.N_nil _ _ _ _ _|exact Kd.V_nil _ _ _ _ _|exact Kd.Q_nil _ _ _ _ _|exact Kd.S_nil _ _ _ _ _,by repeat (first|(with_reducible first|exact HB.out|apply below_alloc|apply pw_below_drewN|apply below_drew1|refine below_set ?_ GE675.out|refine below_set ?_ GE676.out|refine below_set ?_ GE677.out|refine below_set ?_ GE678.out)|exact HB.out)⟩
   ·rw [if_neg c35] at H
    have c35b0:decide (10<(t681.length:Int))=false:=decide_eq_false c35
    have c35b1:decide (10<t681.length)=false:=decide_eq_false (by omega)
    clear c35
    (first|rw [c35b0]|(simp only [i64_w,i32_w];rw [c35b0])|skip)
    (try rw [c35b1])
    replace H:=Option.bind_eq_some_iff.mp H
    obtain ⟨⟨t684,t687⟩,A400,H⟩:=H
    replace H:(some (t684,t687,0))=some (r1,r2,r3):=H
    have A40:=zA A400
    clear A400
    simp only [Option.some.injEq,Prod.mk.injEq] at H
    obtain ⟨rfl,rfl,rfl⟩:=H
    go_wp2_with (first|((with_reducible refine gate_callee (f:=59) rfl ?_);refine goesL_ (some 34) rfl rfl Try.func59 zK rfl #[.slice Ao34 t681.length co34,.func (.func 73) #[] #[.pointer (some ⟨gb677,0,none⟩),.pointer (some ⟨gb675,0,none⟩),.pointer (some ⟨gb676,0,none⟩)]] rfl zM ?_;(with_reducible refine (table_over_table_combine_1_table_Minus_1.calls k _ _ t681 gb677 gb675 gb676 A0_0 c0_0 l0_0 A0_1 c0_1 l0_1 A1_0 c1_0 l1_0 A1_1 c1_1 l1_1 t684 t687 _ ?side1 ?side2 ?side3 ?side4 ?side5 ?side6 ?side7 ?side8 ?side9 ?side10 ?side11 ?side12 ?side13 A40.out).mono ?_);(case side1=>exact zC (Kd.R_reads' HO683.out).2.2);(case side2=>exact (Kd.R_reads' HO683.out).2.1);(case side3=>exact zC (Kd.C_below HR0_0.out HB.out));(case side4=>exact HC0_0.out);(case side5=>exact zC (Kd.C_below HR0_1.out HB.out));(case side6=>exact HC0_1.out);(case side7=>exact zC (Kd.C_below HR1_0.out HB.out));(case side8=>exact HC1_0.out);(case side9=>exact zC (Kd.C_below HR1_1.out HB.out));(case side10=>exact HC1_1.out);(case side11=>refine zj ?_;exact BK677.out);(case side12=>refine zj ?_;exact BK675.out);(case side13=>refine zj ?_;exact BK676.out);rintro e w41 ⟨v685,v688,rfl,ho0,ho1,hb⟩;refine ⟨_,rfl,?_⟩;have HO686:=zA (Kd.R_lower (Kd.R_new' ho0 (Kd.R_lt (zR HO683))) (below_size zB));have HO689:=zA (Kd.R_lower (Kd.R_new' ho1 (Kd.R_lt (zR HO683))) (below_size zB));replace HO683:=zA (Kd.R_mono (Kd.R_told (Kd.R_told (Kd.R_old (zR HO683) hb) (Kd.R_base ho0)) (Kd.R_base ho1)) (fun _ h_=>h_.1));replace BK675:=zA (zb BK675 hb);replace BK676:=zA (zb BK676 hb);replace BK677:=zA (zb BK677 hb);replace BK678:=zA (zb BK678 hb);replace HB:=zA (below_step zB hb);(try clear hb);(try clear hb2);(try clear hk);(try clear hi);(try clear ho0);(try clear ho1);obtain ⟨Ao42,co42,eo42⟩:=Kd.R_slice HO686.out;subst eo42;have hnb43:=NB678_675.out;have hnc43:=NB675_678.out;have hnb44:=NB678_676.out;have hnc44:=NB676_678.out;have hnb45:=NB678_677.out;have hnc45:=NB677_678.out;have hcz46_0:w41.cell? ⟨gb678,0,none⟩=some (.slice none 0 0):=(blk_cell BK678.out 0).trans rfl;have hcz46_1:w41.cell? ⟨gb678,1,none⟩=some (.slice none 0 0):=(blk_cell BK678.out 1).trans rfl;have hfz46_0:=blk_frozen BK678.out 0;have hfz46_1:=blk_frozen BK678.out 1;obtain ⟨Ao47,co47,eo47⟩:=Kd.R_slice HO689.out;subst eo47))
    refine bodyPost_ret (results_ct rfl _ _ gb678 29 #[.slice Ao42 t684.length co42,.slice Ao47 t687.length co47] (0,0) _ rfl (by refine zj ?_;refine blk_put (cs:=#[.slice Ao42 t684.length co42,.slice none 0 0]) ?_ 1 _ rfl;refine zj ?_;refine blk_put (cs:=#[.slice none 0 0,.slice none 0 0]) ?_ 0 _ rfl;refine zj ?_;exact BK678.out) Try.underlying29 rfl zK) rfl ?_
    exact ⟨_,_,ze,by refine zr ?_;exact Kd.R_mono (Kd.R_far (p:=⟨gb678,1,none⟩) (Kd.R_far (p:=⟨gb678,0,none⟩) (Kd.R_types HO686.out BK678.out (by decide)) (fun _ hk=>hk.2) (.slice Ao42 t684.length co42)) (fun _ hk=>hk.2) (.slice Ao47 t687.length co47)) (fun _ hk=>hk.1.1),by refine zr ?_;exact Kd.R_mono (Kd.R_far (p:=⟨gb678,1,none⟩) (Kd.R_far (p:=⟨gb678,0,none⟩) (Kd.R_types HO689.out BK678.out (by decide)) (fun _ hk=>hk.2) (.slice Ao42 t684.length co42)) (fun _ hk=>hk.2) (.slice Ao47 t687.length co47)) (fun _ hk=>hk.1.1),by repeat (first|(with_reducible first|exact HB.out|apply below_alloc|apply pw_below_drewN|apply below_drew1|refine below_set ?_ GE675.out|refine below_set ?_ GE676.out|refine below_set ?_ GE677.out|refine below_set ?_ GE678.out)|exact HB.out)⟩
  ·rw [if_neg c23] at H
   have c23b0:(t680 == 0)=false:=beq_eq_false_iff_ne.mpr c23
   have c23b1:(t680 != 0)=true:=bne_iff_ne.mpr c23
   (first|rw [c23b0]|(simp only [i64_w,i32_w];rw [c23b0])|skip)
   (try rw [c23b1])
   simp only [Option.some.injEq,Prod.mk.injEq] at H
   obtain ⟨rfl,rfl,rfl⟩:=H
   have hnb48:=NB678_675.out
   have hnc48:=NB675_678.out
   have hnb49:=NB678_676.out
   have hnc49:=NB676_678.out
   have hnb50:=NB678_677.out
   have hnc50:=NB677_678.out
   have hcz51_0:w22.cell? ⟨gb678,0,none⟩=some (.slice none 0 0):=(blk_cell BK678.out 0).trans rfl
   have hcz51_1:w22.cell? ⟨gb678,1,none⟩=some (.slice none 0 0):=(blk_cell BK678.out 1).trans rfl
   have hfz51_0:=blk_frozen BK678.out 0
   have hfz51_1:=blk_frozen BK678.out 1
   go_wp2
   refine bodyPost_ret (results_ct rfl _ _ gb678 29 #[.slice none 0 0,.slice none 0 0] (0,0) _ rfl (by refine zj ?_;refine blk_put (cs:=#[.slice none 0 0,.slice none 0 0]) ?_ 1 _ rfl;refine zj ?_;refine blk_put (cs:=#[.slice none 0 0,.slice none 0 0]) ?_ 0 _ rfl;refine zj ?_;exact BK678.out) Try.underlying29 rfl zK) rfl ?_
   exact ⟨_,_,ze,by first|exact Kd.R_nil _ _ _ _ _|exact Kd.N_nil _ _ _ _ _|exact Kd.V_nil _ _ _ _ _|exact Kd.Q_nil _ _ _ _ _|exact Kd.S_nil _ _ _ _ _,by first|exact Kd.R_nil _ _ _ _ _|exact Kd.N_nil _ _ _ _ _|exact Kd.V_nil _ _ _ _ _|exact Kd.Q_nil _ _ _ _ _|exact Kd.S_nil _ _ _ _ _,by repeat (first|(with_reducible first|exact HB.out|apply below_alloc|apply pw_below_drewN|apply below_drew1|refine below_set ?_ GE675.out|refine below_set ?_ GE676.out|refine below_set ?_ GE677.out|refine below_set ?_ GE678.out)|exact HB.out)⟩
 ·rw [if_neg c15] at H
  have c15b0:(t679 == 0)=false:=beq_eq_false_iff_ne.mpr c15
  have c15b1:(t679 != 0)=true:=bne_iff_ne.mpr c15
  (first|rw [c15b0]|(simp only [i64_w,i32_w];rw [c15b0])|skip)
  (try rw [c15b1])
  simp only [Option.some.injEq,Prod.mk.injEq] at H
  obtain ⟨rfl,rfl,rfl⟩:=H
  have hnb52:=NB678_675.out
  have hnc52:=NB675_678.out
  have hnb53:=NB678_676.out
  have hnc53:=NB676_678.out
  have hnb54:=NB678_677.out
  have hnc54:=NB677_678.out
  have hcz55_0:w14.cell? ⟨gb678,0,none⟩=some (.slice none 0 0):=(blk_cell BK678.out 0).trans rfl
  have hcz55_1:w14.cell? ⟨gb678,1,none⟩=some (.slice none 0 0):=(blk_cell BK678.out 1).trans rfl
  have hfz55_0:=blk_frozen BK678.out 0
  have hfz55_1:=blk_frozen BK678.out 1
  go_wp2
  refine bodyPost_ret (results_ct rfl _ _ gb678 29 #[.slice none 0 0,.slice none 0 0] (0,0) _ rfl (by refine zj ?_;refine blk_put (cs:=#[.slice none 0 0,.slice none 0 0]) ?_ 1 _ rfl;refine zj ?_;refine blk_put (cs:=#[.slice none 0 0,.slice none 0 0]) ?_ 0 _ rfl;refine zj ?_;exact BK678.out) Try.underlying29 rfl zK) rfl ?_
  exact ⟨_,_,ze,by first|exact Kd.R_nil _ _ _ _ _|exact Kd.N_nil _ _ _ _ _|exact Kd.V_nil _ _ _ _ _|exact Kd.Q_nil _ _ _ _ _|exact Kd.S_nil _ _ _ _ _,by first|exact Kd.R_nil _ _ _ _ _|exact Kd.N_nil _ _ _ _ _|exact Kd.V_nil _ _ _ _ _|exact Kd.Q_nil _ _ _ _ _|exact Kd.S_nil _ _ _ _ _,by repeat (first|(with_reducible first|exact HB.out|apply below_alloc|apply pw_below_drewN|apply below_drew1|refine below_set ?_ GE675.out|refine below_set ?_ GE676.out|refine below_set ?_ GE677.out|refine below_set ?_ GE678.out)|exact HB.out)⟩
def table_Minus.f (k:Nat) (l0_0:List Int) (l0_1:List Int) (l1_0:List Int) (l1_1:List Int):Option (List Int×List Int×Int):=(table_combine_table_Minus_1.f k l0_0 l0_1 l1_0 l1_1).bind fun bt693=>(some (bt693.1,bt693.2.1,bt693.2.2))
theorem table_Minus.mono:∀ a0 a1 a2 a3 k,LeO (table_Minus.f k a0 a1 a2 a3) (table_Minus.f (k+1) a0 a1 a2 a3):=by
 intro a0 a1 a2 a3 k
 unfold table_Minus.f
 repeat' first
   | (with_reducible exact table_combine_table_Minus_1.mono _ _ _ _ _)
   | (with_reducible exact LeO.refl _)
   | (with_reducible exact LeO.none _)
   | (with_reducible refine LeO.ite ?_ ?_)
   | (with_reducible refine LeO.bind ?_ (fun _=>?_))
   | exact LeO.none _
   | refine LeO.ite ?_ ?_
   | refine LeO.bind ?_ (fun _=>?_)
set_option maxHeartbeats 8000000 in
set_option maxRecDepth 100000 in
theorem table_Minus.calls (k:Nat) (A0_0:Option Addr) (c0_0:Nat) (l0_0:List Int) (A0_1:Option Addr) (c0_1:Nat) (l0_1:List Int) (A1_0:Option Addr) (c1_0:Nat) (l1_0:List Int) (A1_1:Option Addr) (c1_1:Nat) (l1_1:List Int) (r1:List Int) (r2:List Int) (r3:Int) (w:World) (hr0_0:Kd.C (Kd.int .i64) w A0_0 l0_0.length l0_0) (hc0_0:l0_0.length≤c0_0) (hr0_1:Kd.C (Kd.int .i64) w A0_1 l0_1.length l0_1) (hc0_1:l0_1.length≤c0_1) (hr1_0:Kd.C (Kd.int .i64) w A1_0 l1_0.length l1_0) (hc1_0:l1_0.length≤c1_0) (hr1_1:Kd.C (Kd.int .i64) w A1_1 l1_1.length l1_1) (hc1_1:l1_1.length≤c1_1) (h:table_Minus.f k l0_0 l0_1 l1_0 l1_1=some (r1,r2,r3)) :
  Calls Try.prog 27 #[.agg #[.slice A0_0 l0_0.length c0_0,.slice A0_1 l0_1.length c0_1],.agg #[.slice A1_0 l1_0.length c1_0,.slice A1_1 l1_1.length c1_1]] w fun e w'=>∃ v0_ v1_:Value,e=.returned (.tuple #[.agg #[v0_,v1_],.int .i64 r3])∧Kd.R (Kd.int .i64) 3 w' w.heap.size (fun k_=>some k_≠(v1_:Value).ownBlock) v0_ r1∧Kd.R (Kd.int .i64) 3 w' w.heap.size (fun k_=>some k_≠(v0_:Value).ownBlock) v1_ r2∧Below w.heap.size w w':=by
 have hu29:=Try.underlying29
 have HR0_0:=zA hr0_0
 have HC0_0:=zA hc0_0
 clear hr0_0 hc0_0
 have HR0_1:=zA hr0_1
 have HC0_1:=zA hc0_1
 clear hr0_1 hc0_1
 have HR1_0:=zA hr1_0
 have HC1_0:=zA hc1_0
 clear hr1_0 hc1_0
 have HR1_1:=zA hr1_1
 have HC1_1:=zA hc1_1
 clear hr1_1 hc1_1
 have HB:=zA (Below.refl w.heap.size w)
 have H:((table_combine_table_Minus_1.f k l0_0 l0_1 l1_0 l1_1).bind fun bt693=>(some (bt693.1,bt693.2.1,bt693.2.2)))=some (r1,r2,r3):=h
 clear h
 replace H:=Option.bind_eq_some_iff.mp H
 obtain ⟨⟨t693,t696,t699⟩,A30,H⟩:=H
 replace H:(some (t693,t696,t699))=some (r1,r2,r3):=H
 have A3:=zA A30
 clear A30
 simp only [Option.some.injEq,Prod.mk.injEq] at H
 obtain ⟨rfl,rfl,rfl⟩:=H
 go_enter Try.func27,Try.ntmps27
 go_wp2_with (first|((with_reducible refine gate_dst (N:=2) rfl ?_);refine box_event ?hg (N:=2) ?hd (cs:=#[.slice A0_0 l0_0.length c0_0,.slice A0_1 l0_1.length c0_1]) (t:=29) ?hr ?_;(case hd=>rfl);(case hg=>rfl);(case hr=>first|(go_simp;done)|(go_simp;rfl));intro gb690 hg w4 hbox hb;have BK690:=zA (hbox);have GW690:=zA (zG hg (below_size zB):w.heap.size≤gb690);have GE690:=GW690;replace HB:=zA (below_step zB hb);clear hb hbox hg)|((with_reducible refine gate_dst (N:=3) rfl ?_);refine box_event ?hg (N:=3) ?hd (cs:=#[.slice A1_0 l1_0.length c1_0,.slice A1_1 l1_1.length c1_1]) (t:=29) ?hr ?_;(case hd=>rfl);(case hg=>rfl);(case hr=>first|(go_simp;done)|(go_simp;rfl));intro gb691 hg w5 hbox hb;have BK691:=zA (hbox);have GW691:=zA (zG hg (below_size zB):w.heap.size≤gb691);have GE691:=GW691;have NB690_691:=zA ((zl hg (zk BK690):gb690≠gb691));have NB691_690:=zA ((zg hg (zk BK690):gb691≠gb690));replace BK690:=zA (zb BK690 hb);replace HB:=zA (below_step zB hb);clear hb hbox hg)|((with_reducible refine gate_dst (N:=4) rfl ?_);refine box_event ?hg (N:=4) ?hd (cs:=#[.slice none 0 0,.slice none 0 0]) (t:=29) ?hr ?_;(case hd=>rfl);(case hg=>rfl);(case hr=>first|(go_simp;done)|(go_simp;rfl));intro gb692 hg w6 hbox hb;have BK692:=zA (hbox);have GW692:=zA (zG hg (below_size zB):w.heap.size≤gb692);have GE692:=GW692;have NB690_692:=zA ((zl hg (zk BK690):gb690≠gb692));have NB692_690:=zA ((zg hg (zk BK690):gb692≠gb690));have NB691_692:=zA ((zl hg (zk BK691):gb691≠gb692));have NB692_691:=zA ((zg hg (zk BK691):gb692≠gb691));replace BK690:=zA (zb BK690 hb);replace BK691:=zA (zb BK691 hb);replace HB:=zA (below_step zB hb);clear hb hbox hg;have hnb7:=NB690_691.out;have hnc7:=NB691_690.out;have hnb8:=NB690_692.out;have hnc8:=NB692_690.out;have hcz9_0:w6.cell? ⟨gb690,0,none⟩=some (.slice A0_0 l0_0.length c0_0):=(blk_cell BK690.out 0).trans rfl;have hcz9_1:w6.cell? ⟨gb690,1,none⟩=some (.slice A0_1 l0_1.length c0_1):=(blk_cell BK690.out 1).trans rfl;have hfz9_0:=blk_frozen BK690.out 0;have hfz9_1:=blk_frozen BK690.out 1;have hnb10:=NB691_692.out;have hnc10:=NB692_691.out;have hcz11_0:w6.cell? ⟨gb691,0,none⟩=some (.slice A1_0 l1_0.length c1_0):=(blk_cell BK691.out 0).trans rfl;have hcz11_1:w6.cell? ⟨gb691,1,none⟩=some (.slice A1_1 l1_1.length c1_1):=(blk_cell BK691.out 1).trans rfl;have hfz11_0:=blk_frozen BK691.out 0;have hfz11_1:=blk_frozen BK691.out 1)|((with_reducible refine gate_callee (f:=46) rfl ?_);refine goesL_ (some 8) rfl rfl Try.func46 zK rfl #[.agg #[.slice A0_0 l0_0.length c0_0,.slice A0_1 l0_1.length c0_1],.agg #[.slice A1_0 l1_0.length c1_0,.slice A1_1 l1_1.length c1_1],.func (.func 55) #[] #[]] rfl zM ?_;(with_reducible refine (table_combine_table_Minus_1.calls k _ _ l0_0 _ _ l0_1 _ _ l1_0 _ _ l1_1  t693 t696 t699 _ ?side1 ?side2 ?side3 ?side4 ?side5 ?side6 ?side7 ?side8 A3.out).mono ?_);(case side1=>exact zC (Kd.C_below HR0_0.out HB.out));(case side2=>exact HC0_0.out);(case side3=>exact zC (Kd.C_below HR0_1.out HB.out));(case side4=>exact HC0_1.out);(case side5=>exact zC (Kd.C_below HR1_0.out HB.out));(case side6=>exact HC1_0.out);(case side7=>exact zC (Kd.C_below HR1_1.out HB.out));(case side8=>exact HC1_1.out);rintro e w12 ⟨v694,v697,rfl,ho0,ho1,hb⟩;refine ⟨_,rfl,?_⟩;have HO695:=zA (Kd.R_lower ho0 (below_size zB));have HO698:=zA (Kd.R_lower ho1 (below_size zB));replace BK690:=zA (zb BK690 hb);replace BK691:=zA (zb BK691 hb);replace BK692:=zA (zb BK692 hb);replace HB:=zA (below_step zB hb);(try clear hb);(try clear hb2);(try clear hk);(try clear hi);(try clear ho0);(try clear ho1);obtain ⟨Ao13,co13,eo13⟩:=Kd.R_slice HO695.out;subst eo13;have hcz14_0:w12.cell? ⟨gb692,0,none⟩=some (.slice none 0 0):=(blk_cell BK692.out 0).trans rfl;have hcz14_1:w12.cell? ⟨gb692,1,none⟩=some (.slice none 0 0):=(blk_cell BK692.out 1).trans rfl;have hfz14_0:=blk_frozen BK692.out 0;have hfz14_1:=blk_frozen BK692.out 1;obtain ⟨Ao15,co15,eo15⟩:=Kd.R_slice HO698.out;subst eo15))
 refine bodyPost_ret (results_ct rfl _ _ gb692 29 #[.slice Ao13 t693.length co13,.slice Ao15 t696.length co15] (0,0) _ rfl (by refine zj ?_;refine blk_put (cs:=#[.slice Ao13 t693.length co13,.slice none 0 0]) ?_ 1 _ rfl;refine zj ?_;refine blk_put (cs:=#[.slice none 0 0,.slice none 0 0]) ?_ 0 _ rfl;refine zj ?_;exact BK692.out) Try.underlying29 rfl zK) rfl ?_
 exact ⟨_,_,ze,by refine zr ?_;exact Kd.R_mono (Kd.R_far (p:=⟨gb692,1,none⟩) (Kd.R_far (p:=⟨gb692,0,none⟩) (Kd.R_types HO695.out BK692.out (by decide)) (fun _ hk=>hk.2) (.slice Ao13 t693.length co13)) (fun _ hk=>hk.2) (.slice Ao15 t696.length co15)) (fun _ hk=>hk.1),by refine zr ?_;exact Kd.R_mono (Kd.R_far (p:=⟨gb692,1,none⟩) (Kd.R_far (p:=⟨gb692,0,none⟩) (Kd.R_types HO698.out BK692.out (by decide)) (fun _ hk=>hk.2) (.slice Ao13 t693.length co13)) (fun _ hk=>hk.2) (.slice Ao15 t696.length co15)) (fun _ hk=>hk.1),by repeat (first|(with_reducible first|exact HB.out|apply below_alloc|apply pw_below_drewN|apply below_drew1|refine below_set ?_ GE690.out|refine below_set ?_ GE691.out|refine below_set ?_ GE692.out)|exact HB.out)⟩
end Go.Proofs.Ythcfmdkhkikbcaa.T
