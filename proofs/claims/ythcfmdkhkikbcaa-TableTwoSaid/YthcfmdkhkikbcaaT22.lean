import Derived.Test.YthcfmdkhkikbcaaT0
import Derived.Test.YthcfmdkhkikbcaaT9
import Derived.Test.YthcfmdkhkikbcaaT10
import Derived.Test.YthcfmdkhkikbcaaT21
namespace Go.Proofs.Ythcfmdkhkikbcaa.T
open Go.RowKit Go.Proofs.YthcfmdkhkikbcaaW.PrintWords Go.Proofs.YthcfmdkhkikbcaaW.PrintLast Go.Proofs.YthcfmdkhkikbcaaW.PrintMore
attribute [local go_sem] max2_int min2_int max_two min_two max_three min_three max_four min_four
set_option linter.unusedVariables false
set_option linter.unusedSimpArgs false
def ancepsref38_Union.l0:Nat→List Int→Int→List Int→List Int→List Int→List Int→List Int→List Int→Option (List Int×List Int×Int)
 | 0,_,_,_,_,_,_,_,_=>none
 | k+1,x6,x9,x730000,x730001,x731000,x731001,x737000,x737001=>if x9<(shl .i64 1 (x6.length:Int)) then ((ancepsref38_Assignment.f k x6 x9).bind fun t737=>((ancepsref38_Holds.f k x730000 x730001 t737).bind fun t738=>(if t738=true then (if x737001.length<17592186044416 then (ancepsref38_Union.l0 k x6 (wrap64 (x9+1)) x730000 x730001 x731000 x731001 x737000 (x737001++[x9])) else (none)) else ((ancepsref38_Holds.f k x731000 x731001 t737).bind fun t742=>(if t742=true then (if x737001.length<17592186044416 then (ancepsref38_Union.l0 k x6 (wrap64 (x9+1)) x730000 x730001 x731000 x731001 x737000 (x737001++[x9])) else (none)) else (ancepsref38_Union.l0 k x6 (wrap64 (x9+1)) x730000 x730001 x731000 x731001 x737000 x737001)))))) else (some (x737000,x737001,0))
def ancepsref38_Union.f (k:Nat) (l0_0:List Int) (l0_1:List Int) (l1_0:List Int) (l1_1:List Int):Option (List Int×List Int×Int):=(ancepsref38_two.f k l0_0 l0_1 l1_0 l1_1).bind fun bt732=>(if bt732.2=0 then (ancepsref38_Union.l0 k bt732.1 0 l0_0 l0_1 l1_0 l1_1 bt732.1 ([]:List Int)) else (some (([]:List Int),([]:List Int),bt732.2)))
theorem ancepsref38_Union.mono_l:∀ k,(∀ y0 y1 y2 y3 y4 y5 y6 y7,LeO (ancepsref38_Union.l0 k y0 y1 y2 y3 y4 y5 y6 y7) (ancepsref38_Union.l0 (k+1) y0 y1 y2 y3 y4 y5 y6 y7))
 | 0=>fun _ _ _ _ _ _ _ _ r h=>by simp [ancepsref38_Union.l0] at h
 | k+1=>by
  have ih0:=ancepsref38_Union.mono_l k
  ·intro y0 y1 y2 y3 y4 y5 y6 y7
   unfold ancepsref38_Union.l0
   repeat' first
   | (with_reducible exact ih0 _ _ _ _ _ _ _ _)
   | (with_reducible exact ancepsref38_Assignment.mono _ _ _)
   | (with_reducible exact ancepsref38_Holds.mono _ _ _ _)
   | (with_reducible exact ancepsref38_two.mono _ _ _ _ _)
   | (with_reducible exact LeO.refl _)
   | (with_reducible exact LeO.none _)
   | (with_reducible refine LeO.ite ?_ ?_)
   | (with_reducible refine LeO.bind ?_ (fun _=>?_))
   | exact LeO.none _
   | refine LeO.ite ?_ ?_
   | refine LeO.bind ?_ (fun _=>?_)
theorem ancepsref38_Union.mono:∀ a0 a1 a2 a3 k,LeO (ancepsref38_Union.f k a0 a1 a2 a3) (ancepsref38_Union.f (k+1) a0 a1 a2 a3):=by
 intro a0 a1 a2 a3 k
 have ih0:=ancepsref38_Union.mono_l k
 unfold ancepsref38_Union.f
 repeat' first
   | (with_reducible exact ih0 _ _ _ _ _ _ _ _)
   | (with_reducible exact ancepsref38_Assignment.mono _ _ _)
   | (with_reducible exact ancepsref38_Holds.mono _ _ _ _)
   | (with_reducible exact ancepsref38_two.mono _ _ _ _ _)
   | (with_reducible exact LeO.refl _)
   | (with_reducible exact LeO.none _)
   | (with_reducible refine LeO.ite ?_ ?_)
   | (with_reducible refine LeO.bind ?_ (fun _=>?_))
   | exact LeO.none _
   | refine LeO.ite ?_ ?_
   | refine LeO.bind ?_ (fun _=>?_)
set_option maxHeartbeats 8000000 in
set_option maxRecDepth 100000 in
theorem ancepsref38_Union.calls (k:Nat) (A0_0:Option Addr) (c0_0:Nat) (l0_0:List Int) (A0_1:Option Addr) (c0_1:Nat) (l0_1:List Int) (A1_0:Option Addr) (c1_0:Nat) (l1_0:List Int) (A1_1:Option Addr) (c1_1:Nat) (l1_1:List Int) (r1:List Int) (r2:List Int) (r3:Int) (w:World) (hr0_0:Kd.C (Kd.int .i64) w A0_0 l0_0.length l0_0) (hc0_0:l0_0.length≤c0_0) (hr0_1:Kd.C (Kd.int .i64) w A0_1 l0_1.length l0_1) (hc0_1:l0_1.length≤c0_1) (hr1_0:Kd.C (Kd.int .i64) w A1_0 l1_0.length l1_0) (hc1_0:l1_0.length≤c1_0) (hr1_1:Kd.C (Kd.int .i64) w A1_1 l1_1.length l1_1) (hc1_1:l1_1.length≤c1_1) (h:ancepsref38_Union.f k l0_0 l0_1 l1_0 l1_1=some (r1,r2,r3)) :
  Calls Try.prog 31 #[.agg #[.slice A0_0 l0_0.length c0_0,.slice A0_1 l0_1.length c0_1],.agg #[.slice A1_0 l1_0.length c1_0,.slice A1_1 l1_1.length c1_1]] w fun e w'=>∃ v0_ v1_:Value,e=.returned (.tuple #[.agg #[v0_,v1_],.int .i64 r3])∧Kd.R (Kd.int .i64) 3 w' w.heap.size (fun k_=>some k_≠(v1_:Value).ownBlock) v0_ r1∧Kd.R (Kd.int .i64) 3 w' w.heap.size (fun k_=>some k_≠(v0_:Value).ownBlock) v1_ r2∧Below w.heap.size w w':=by
 have hu29:=Try.underlying29
 have hu27:=Try.underlying27
 have HR0_0:=zA hr0_0
 have HC0_0:=zA hc0_0
 clear hr0_0 hc0_0
 have HR0_1:=zA hr0_1
 have HC0_1:=zA hc0_1
 clear hr0_1 hc0_1
 have HR1_0:=zA hr1_0
 have HC1_0:=zA hc1_0
 clear hr1_0 hc1_0
 have HR1_1:=zA hr1_1
 have HC1_1:=zA hc1_1
 clear hr1_1 hc1_1
 have HB:=zA (Below.refl w.heap.size w)
 have H:((ancepsref38_two.f k l0_0 l0_1 l1_0 l1_1).bind fun bt732=>(if bt732.2=0 then (ancepsref38_Union.l0 k bt732.1 0 l0_0 l0_1 l1_0 l1_1 bt732.1 ([]:List Int)) else (some (([]:List Int),([]:List Int),bt732.2))))=some (r1,r2,r3):=h
 clear h
 replace H:=Option.bind_eq_some_iff.mp H
 obtain ⟨⟨t732,t735⟩,A30,H⟩:=H
 replace H:(if t735=0 then (ancepsref38_Union.l0 k t732 0 l0_0 l0_1 l1_0 l1_1 t732 ([]:List Int)) else (some (([]:List Int),([]:List Int),t735)))=some (r1,r2,r3):=H
 have A3:=zA A30
 clear A30
 have HC4:=zA H
 clear H
 go_enter Try.func31,Try.ntmps31
 go_upto_if 18 with (first|((with_reducible refine gate_dst (N:=2) rfl ?_);refine box_event ?hg (N:=2) ?hd (cs:=#[.slice A0_0 l0_0.length c0_0,.slice A0_1 l0_1.length c0_1]) (t:=29) ?hr ?_;(case hd=>rfl);(case hg=>rfl);(case hr=>first|(go_simp;done)|(go_simp;rfl));intro gb729 hg w5 hbox hb;have BK729:=zA (hbox);have GW729:=zA (zG hg (below_size zB):w.heap.size≤gb729);have GE729:=GW729;replace HB:=zA (below_step zB hb);clear hb hbox hg)|((with_reducible refine gate_dst (N:=3) rfl ?_);refine box_event ?hg (N:=3) ?hd (cs:=#[.slice A1_0 l1_0.length c1_0,.slice A1_1 l1_1.length c1_1]) (t:=29) ?hr ?_;(case hd=>rfl);(case hg=>rfl);(case hr=>first|(go_simp;done)|(go_simp;rfl));intro gb730 hg w6 hbox hb;have BK730:=zA (hbox);have GW730:=zA (zG hg (below_size zB):w.heap.size≤gb730);have GE730:=GW730;have NB729_730:=zA ((zl hg (zk BK729):gb729≠gb730));have NB730_729:=zA ((zg hg (zk BK729):gb730≠gb729));replace BK729:=zA (zb BK729 hb);replace HB:=zA (below_step zB hb);clear hb hbox hg)|((with_reducible refine gate_dst (N:=4) rfl ?_);refine box_event ?hg (N:=4) ?hd (cs:=#[.slice none 0 0,.slice none 0 0]) (t:=29) ?hr ?_;(case hd=>rfl);(case hg=>rfl);(case hr=>first|(go_simp;done)|(go_simp;rfl));intro gb731 hg w7 hbox hb;have BK731:=zA (hbox);have GW731:=zA (zG hg (below_size zB):w.heap.size≤gb731);have GE731:=GW731;have NB729_731:=zA ((zl hg (zk BK729):gb729≠gb731));have NB731_729:=zA ((zg hg (zk BK729):gb731≠gb729));have NB730_731:=zA ((zl hg (zk BK730):gb730≠gb731));have NB731_730:=zA ((zg hg (zk BK730):gb731≠gb730));replace BK729:=zA (zb BK729 hb);replace BK730:=zA (zb BK730 hb);replace HB:=zA (below_step zB hb);clear hb hbox hg;have hnb8:=NB729_730.out;have hnc8:=NB730_729.out;have hnb9:=NB729_731.out;have hnc9:=NB731_729.out;have hcz10_0:w7.cell? ⟨gb729,0,none⟩=some (.slice A0_0 l0_0.length c0_0):=(blk_cell BK729.out 0).trans rfl;have hcz10_1:w7.cell? ⟨gb729,1,none⟩=some (.slice A0_1 l0_1.length c0_1):=(blk_cell BK729.out 1).trans rfl;have hfz10_0:=blk_frozen BK729.out 0;have hfz10_1:=blk_frozen BK729.out 1;have hnb11:=NB730_731.out;have hnc11:=NB731_730.out;have hcz12_0:w7.cell? ⟨gb730,0,none⟩=some (.slice A1_0 l1_0.length c1_0):=(blk_cell BK730.out 0).trans rfl;have hcz12_1:w7.cell? ⟨gb730,1,none⟩=some (.slice A1_1 l1_1.length c1_1):=(blk_cell BK730.out 1).trans rfl;have hfz12_0:=blk_frozen BK730.out 0;have hfz12_1:=blk_frozen BK730.out 1)|((with_reducible refine gate_callee (f:=57) rfl ?_);refine goesL_ (some 14) rfl rfl Try.func57 zK rfl #[.agg #[.slice A0_0 l0_0.length c0_0,.slice A0_1 l0_1.length c0_1],.agg #[.slice A1_0 l1_0.length c1_0,.slice A1_1 l1_1.length c1_1]] rfl zM ?_;(with_reducible refine (ancepsref38_two.calls k _ _ l0_0 _ _ l0_1 _ _ l1_0 _ _ l1_1 t732 t735 _ ?side1 ?side2 ?side3 ?side4 ?side5 ?side6 ?side7 ?side8 A3.out).mono ?_);(case side1=>exact zC (Kd.C_below HR0_0.out HB.out));(case side2=>exact HC0_0.out);(case side3=>exact zC (Kd.C_below HR0_1.out HB.out));(case side4=>exact HC0_1.out);(case side5=>exact zC (Kd.C_below HR1_0.out HB.out));(case side6=>exact HC1_0.out);(case side7=>exact zC (Kd.C_below HR1_1.out HB.out));(case side8=>exact HC1_1.out);rintro e w13 ⟨v733,rfl,ho0,hb⟩;refine ⟨_,rfl,?_⟩;have HO734:=zA (Kd.R_lower ho0 (below_size zB));replace BK729:=zA (zb BK729 hb);replace BK730:=zA (zb BK730 hb);replace BK731:=zA (zb BK731 hb);replace HB:=zA (below_step zB hb);(try clear hb);(try clear hb2);(try clear hk);(try clear hi);(try clear ho0)))
 (try simp only [Act.put,zi,zs,zt])
 have H:=HC4.out
 clear HC4
 by_cases c14:t735=0
 ·rw [if_pos c14] at H
  have c14b0:(t735 == 0)=true:=beq_iff_eq.mpr c14
  have c14b1:(t735 != 0)=false:=bne_eq_false_iff_eq.mpr c14
  clear c14
  (first|rw [c14b0]|(simp only [i64_w,i32_w];rw [c14b0])|skip)
  (try rw [c14b1])
  have H':=zA H
  clear H
  obtain ⟨Ao15,co15,eo15⟩:=Kd.R_slice HO734.out
  subst eo15
  go_wp2_with (first|((with_reducible refine gate_dst (N:=8) rfl ?_);refine box_event ?hg (N:=8) ?hd (cs:=#[.slice none 0 0,.slice none 0 0]) (t:=29) ?hr ?_;(case hd=>rfl);(case hg=>rfl);(case hr=>first|(go_simp;done)|(go_simp;rfl));intro gb736 hg w16 hbox hb;have BK736:=zA (hbox);have GW736:=zA (zG hg (below_size zB):w.heap.size≤gb736);have GE736:=GW736;have NB729_736:=zA ((zl hg (zk BK729):gb729≠gb736));have NB736_729:=zA ((zg hg (zk BK729):gb736≠gb729));have NB730_736:=zA ((zl hg (zk BK730):gb730≠gb736));have NB736_730:=zA ((zg hg (zk BK730):gb736≠gb730));have NB731_736:=zA ((zl hg (zk BK731):gb731≠gb736));have NB736_731:=zA ((zg hg (zk BK731):gb736≠gb731));replace HO734:=zA (Kd.R_below (zR HO734) hb);replace BK729:=zA (zb BK729 hb);replace BK730:=zA (zb BK730 hb);replace BK731:=zA (zb BK731 hb);replace HB:=zA (below_step zB hb);clear hb hbox hg;have hnb17:=NB736_729.out;have hnc17:=NB729_736.out;have hnb18:=NB736_730.out;have hnc18:=NB730_736.out;have hnb19:=NB736_731.out;have hnc19:=NB731_736.out;have hcz20_0:w16.cell? ⟨gb736,0,none⟩=some (.slice none 0 0):=(blk_cell BK736.out 0).trans rfl;have hcz20_1:w16.cell? ⟨gb736,1,none⟩=some (.slice none 0 0):=(blk_cell BK736.out 1).trans rfl;have hfz20_0:=blk_frozen BK736.out 0;have hfz20_1:=blk_frozen BK736.out 1))
  go_loopg [9] k (fun kq v9 w'=>∃ (x9_1:Int) (x737001_1:List Int) (u737001:Value),v9=.int .i64 x9_1∧Aside0 (ancepsref38_Union.l0 kq t732 x9_1 l0_0 l0_1 l1_0 l1_1 t732 x737001_1=some (r1,r2,r3))∧Aside0 (kq≤k)∧Aside0 (Kd.R (Kd.int .i64) 3 w' w.heap.size (fun k_=>some k_≠(u737001:Value).ownBlock) (.slice Ao15 t732.length co15) t732)∧Aside0 (Kd.R (Kd.int .i64) 3 w' w.heap.size (fun k_=>some k_≠(u737001:Value).ownBlock) (.slice Ao15 t732.length co15) t732)∧Aside0 (Kd.R (Kd.int .i64) 3 w' w.heap.size (fun k_=>some k_≠((.slice Ao15 t732.length co15):Value).ownBlock∧some k_≠((.slice Ao15 t732.length co15):Value).ownBlock) u737001 x737001_1)∧Aside0 (w'.heap[gb729]?=some (.cells #[(.slice A0_0 l0_0.length c0_0),(.slice A0_1 l0_1.length c0_1)] 29 (0,0)))∧Aside0 (w'.heap[gb730]?=some (.cells #[(.slice A1_0 l1_0.length c1_0),(.slice A1_1 l1_1.length c1_1)] 29 (0,0)))∧Aside0 (w'.heap[gb731]?=some (.cells #[(.slice none 0 0),(.slice none 0 0)] 29 (0,0)))∧Aside0 (w'.heap[gb736]?=some (.cells #[(.slice Ao15 t732.length co15),u737001] 29 (0,0)))∧Aside0 (Below w.heap.size w w'))
  case atStart=>exact ⟨(0),(([]:List Int)),(.slice none 0 0),zT,H',⟨Nat.le_refl _⟩,⟨by refine zr ?_;exact Kd.R_mono (Kd.R_far (p:=⟨gb736,1,none⟩) (Kd.R_far (p:=⟨gb736,0,none⟩) (Kd.R_types HO734.out BK736.out (by decide)) (fun _ hk=>hk.2) (.slice Ao15 t732.length co15)) (fun _ hk=>hk.2) (.slice none 0 0)) (fun _ hk=>(by simp [Value.ownBlock]))⟩,⟨by refine zr ?_;exact Kd.R_mono (Kd.R_far (p:=⟨gb736,1,none⟩) (Kd.R_far (p:=⟨gb736,0,none⟩) (Kd.R_types HO734.out BK736.out (by decide)) (fun _ hk=>hk.2) (.slice Ao15 t732.length co15)) (fun _ hk=>hk.2) (.slice none 0 0)) (fun _ hk=>(by simp [Value.ownBlock]))⟩,⟨by first|exact Kd.R_nil _ _ _ _ _|exact Kd.N_nil _ _ _ _ _|exact Kd.V_nil _ _ _ _ _|exact Kd.Q_nil _ _ _ _ _|exact Kd.S_nil _ _ _ _ _⟩,⟨by refine zj ?_;refine blk_far ?_ NB729_736.out _;refine zj ?_;refine blk_far ?_ NB729_736.out _;refine zj ?_;exact BK729.out⟩,⟨by refine zj ?_;refine blk_far ?_ NB730_736.out _;refine zj ?_;refine blk_far ?_ NB730_736.out _;refine zj ?_;exact BK730.out⟩,⟨by refine zj ?_;refine blk_far ?_ NB731_736.out _;refine zj ?_;refine blk_far ?_ NB731_736.out _;refine zj ?_;exact BK731.out⟩,⟨by refine zj ?_;refine blk_put (cs:=#[.slice Ao15 t732.length co15,.slice none 0 0]) ?_ 1 _ rfl;refine zj ?_;refine blk_put (cs:=#[.slice none 0 0,.slice none 0 0]) ?_ 0 _ rfl;refine zj ?_;exact BK736.out⟩,⟨by repeat (first|(with_reducible first|exact HB.out|apply below_alloc|apply pw_below_drewN|apply below_drew1|refine below_set ?_ GE729.out|refine below_set ?_ GE730.out|refine below_set ?_ GE731.out|refine below_set ?_ GE736.out)|exact HB.out)⟩⟩
  case round=>
   clear H'
   try clear c14
   try clear c14b0
   try clear c14b1
   try clear hcz10_0
   try clear hcz10_1
   try clear hcz12_0
   try clear hcz12_1
   try clear hcz20_0
   try clear hcz20_1
   try clear hfz10_0
   try clear hfz10_1
   try clear hfz12_0
   try clear hfz12_1
   try clear hfz20_0
   try clear hfz20_1
   obtain ⟨x9_1,x737001_1,u737001,rfl,HA,HK1,HO_6,HO_737000,HO_737001,BK729,BK730,BK731,BK736,HB⟩:=hrel
   cases gk with
   | zero=>exact absurd HA.out (by simp [ancepsref38_Union.l0])
   | succ k1=>
    have H:=HA.out
    clear HA
    simp only [ancepsref38_Union.l0] at H
    obtain ⟨ji21,hji21⟩:∃ j_:Int,(shl .i64 1 (t732.length:Int))=j_:=⟨_,rfl⟩
    replace H:(if x9_1<(ji21) then ((ancepsref38_Assignment.f k1 t732 x9_1).bind fun t737=>((ancepsref38_Holds.f k1 l0_0 l0_1 t737).bind fun t738=>(if t738=true then (if x737001_1.length<17592186044416 then (ancepsref38_Union.l0 k1 t732 (wrap64 (x9_1+1)) l0_0 l0_1 l1_0 l1_1 t732 (x737001_1++[x9_1])) else (none)) else ((ancepsref38_Holds.f k1 l1_0 l1_1 t737).bind fun t742=>(if t742=true then (if x737001_1.length<17592186044416 then (ancepsref38_Union.l0 k1 t732 (wrap64 (x9_1+1)) l0_0 l0_1 l1_0 l1_1 t732 (x737001_1++[x9_1])) else (none)) else (ancepsref38_Union.l0 k1 t732 (wrap64 (x9_1+1)) l0_0 l0_1 l1_0 l1_1 t732 x737001_1)))))) else (some (t732,x737001_1,0)))=some (r1,r2,r3):=by first|(rw [hji21] at H;exact H)|(simp only [hji21] at H ⊢;exact H)
    have hji21_:(IntKind.i64.wrap (1 * 2 ^ min (t732.length:Int).toNat 64))=ji21:=hji21
    have hji21z:(t732.length:Int)≤64→(IntKind.i64.wrap (1 * 2 ^ (t732.length:Int).toNat))=ji21:=shl_small hji21
    have hji21p:(IntKind.i64.wrap (1 * 2 ^ min t732.length 64))=ji21:=hji21_
    have hji21q:(t732.length:Int)≤64→(IntKind.i64.wrap (1 * 2 ^ t732.length))=ji21:=hji21z
    have hji21r:(IntKind.i64.wrap (2 ^ min t732.length 64))=ji21:=by have h_:=hji21p;rw [Int.one_mul] at h_;exact h_
    have hji21s:(t732.length:Int)≤64→(IntKind.i64.wrap (2 ^ t732.length))=ji21:=fun hle_=>by have h_:=hji21q hle_;rw [Int.one_mul] at h_;exact h_
    have hji21u:(IntKind.i64.wrap (2 ^ min (t732.length:Int).toNat 64))=ji21:=by have h_:=hji21_;rw [Int.one_mul] at h_;exact h_
    have hji21v:(t732.length:Int)≤64→(IntKind.i64.wrap (2 ^ (t732.length:Int).toNat))=ji21:=fun hle_=>by have h_:=hji21z hle_;rw [Int.one_mul] at h_;exact h_
    have hji21y:(wrap64 (1 * 2 ^ min (t732.length:Int).toNat 64))=ji21:=(i64_w _).symm.trans hji21_
    have hji21x:(t732.length:Int)≤64→(wrap64 (1 * 2 ^ (t732.length:Int).toNat))=ji21:=fun h_=>(i64_w _).symm.trans (hji21z h_)
    by_cases c22:x9_1<(ji21)
    ·rw [if_pos c22] at H
     have c22b0:decide (x9_1<(ji21))=true:=decide_eq_true c22
     clear c22
     replace H:=Option.bind_eq_some_iff.mp H
     obtain ⟨t737,A230,H⟩:=H
     replace H:((ancepsref38_Holds.f k1 l0_0 l0_1 t737).bind fun t738=>(if t738=true then (if x737001_1.length<17592186044416 then (ancepsref38_Union.l0 k1 t732 (wrap64 (x9_1+1)) l0_0 l0_1 l1_0 l1_1 t732 (x737001_1++[x9_1])) else (none)) else ((ancepsref38_Holds.f k1 l1_0 l1_1 t737).bind fun t742=>(if t742=true then (if x737001_1.length<17592186044416 then (ancepsref38_Union.l0 k1 t732 (wrap64 (x9_1+1)) l0_0 l0_1 l1_0 l1_1 t732 (x737001_1++[x9_1])) else (none)) else (ancepsref38_Union.l0 k1 t732 (wrap64 (x9_1+1)) l0_0 l0_1 l1_0 l1_1 t732 x737001_1)))))=some (r1,r2,r3):=H
     have A23:=zA A230
     clear A230
     have HC24:=zA H
     clear H
     go_upto_region 9 with (first|((with_reducible refine gate_callee (f:=39) rfl ?_);refine goesL_ (some 32) rfl rfl Try.func39 zK rfl #[.slice Ao15 t732.length co15,.int .i64 x9_1] rfl zM ?_;(with_reducible refine (ancepsref38_Assignment.calls k1 _ _ t732 x9_1 t737 _ ?side1 ?side2 A23.out).mono ?_);(case side1=>exact zC (Kd.R_reads' HO_6.out).2.2);(case side2=>exact (Kd.R_reads' HO_6.out).2.1);rintro e w' ⟨rfl,⟨nd,rfl⟩⟩;refine ⟨_,rfl,?_⟩))
     (try simp only [Act.put,zi,zs,zt])
     have H:=HC24.out
     clear HC24
     replace H:=Option.bind_eq_some_iff.mp H
     obtain ⟨t738,A250,H⟩:=H
     replace H:(if t738=true then (if x737001_1.length<17592186044416 then (ancepsref38_Union.l0 k1 t732 (wrap64 (x9_1+1)) l0_0 l0_1 l1_0 l1_1 t732 (x737001_1++[x9_1])) else (none)) else ((ancepsref38_Holds.f k1 l1_0 l1_1 t737).bind fun t742=>(if t742=true then (if x737001_1.length<17592186044416 then (ancepsref38_Union.l0 k1 t732 (wrap64 (x9_1+1)) l0_0 l0_1 l1_0 l1_1 t732 (x737001_1++[x9_1])) else (none)) else (ancepsref38_Union.l0 k1 t732 (wrap64 (x9_1+1)) l0_0 l0_1 l1_0 l1_1 t732 x737001_1))))=some (r1,r2,r3):=H
     have A25:=zA A250
     clear A250
     by_cases c26:t738=true
     ·subst c26
      have H1:(if x737001_1.length<17592186044416 then (ancepsref38_Union.l0 k1 t732 (wrap64 (x9_1+1)) l0_0 l0_1 l1_0 l1_1 t732 (x737001_1++[x9_1])) else (none))=some (r1,r2,r3):=by rw [if_pos rfl] at H;exact H
      clear H
      have H:=H1
      clear H1
      by_cases c27:x737001_1.length<17592186044416
      ·rw [if_pos c27] at H
       have LMc27:=zA c27
       clear c27
       obtain ⟨y739,hy739⟩:∃ y_:List Int,y_=(x737001_1++[x9_1]):=⟨_,rfl⟩
       replace H:(ancepsref38_Union.l0 k1 t732 (wrap64 (x9_1+1)) l0_0 l0_1 l1_0 l1_1 t732 y739)=some (r1,r2,r3):=by first|(rw [hy739];with_reducible exact H)|(have H2_:=(Option.bind_some _ _).symm.trans H;rw [hy739];with_reducible exact H2_)|(have H2_:=(Option.bind_some _ _).symm.trans H;with_reducible exact H2_)|with_reducible exact H|(rw [hy739];exact H)|exact H
       have Ny739:=zA hy739
       clear hy739
       have H':=zA H
       clear H
       have hnb28:=NB729_730.out
       have hnc28:=NB730_729.out
       have hnb29:=NB729_731.out
       have hnc29:=NB731_729.out
       have hnb30:=NB729_736.out
       have hnc30:=NB736_729.out
       have hcz31_0:wr.cell? ⟨gb729,0,none⟩=some (.slice A0_0 l0_0.length c0_0):=(blk_cell BK729.out 0).trans rfl
       have hcz31_1:wr.cell? ⟨gb729,1,none⟩=some (.slice A0_1 l0_1.length c0_1):=(blk_cell BK729.out 1).trans rfl
       have hfz31_0:=blk_frozen BK729.out 0
       have hfz31_1:=blk_frozen BK729.out 1
       go_wp2_with (first|((with_reducible refine gate_callee (f:=29) rfl ?_);refine goesL_ (some 35) rfl rfl Try.func29 zK rfl #[.agg #[.slice A0_0 l0_0.length c0_0,.slice A0_1 l0_1.length c0_1],.int .i64 t737] rfl zM ?_;(with_reducible refine (ancepsref38_Holds.calls k1 _ _ l0_0 _ _ l0_1 t737 true _ ?side1 ?side2 ?side3 ?side4 A25.out).mono ?_);(case side1=>exact zC (Kd.C_below HR0_0.out HB.out));(case side2=>exact HC0_0.out);(case side3=>exact zC (Kd.C_below HR0_1.out HB.out));(case side4=>exact HC0_1.out);rintro e w32 ⟨rfl,hb⟩;refine ⟨_,rfl,?_⟩;replace HO_6:=zA (Kd.R_below (zR HO_6) hb);replace HO_737000:=zA (Kd.R_below (zR HO_737000) hb);replace HO_737001:=zA (Kd.R_below (zR HO_737001) hb);replace BK729:=zA (zb BK729 hb);replace BK730:=zA (zb BK730 hb);replace BK731:=zA (zb BK731 hb);replace BK736:=zA (zb BK736 hb);replace HB:=zA (below_step zB hb);(try clear hb);(try clear hb2);(try clear hk);(try clear hi);have hnb33:=NB736_730.out;have hnc33:=NB730_736.out;have hnb34:=NB736_731.out;have hnc34:=NB731_736.out;have hcz35_0:w32.cell? ⟨gb736,0,none⟩=some (.slice Ao15 t732.length co15):=(blk_cell BK736.out 0).trans rfl;have hcz35_1:w32.cell? ⟨gb736,1,none⟩=some (u737001):=(blk_cell BK736.out 1).trans rfl;have hfz35_0:=blk_frozen BK736.out 0;have hfz35_1:=blk_frozen BK736.out 1)|((with_reducible refine gate_builtin (b:=.append) (xs:=#[.tmp 42,.tmp 44]) rfl ?_);at_builtin;refine Kd.R_append (Kd.int .i64) (w0:=w) w.heap.size rfl (.tmp 42) (.tmp 44) 27 3 (.int .i64 0) 8 rfl Try.underlying27 info3 rfl (by decide) (by omega) u737001 x737001_1 x9_1 [.int .i64 x9_1] (fun k_=>some k_≠(.slice Ao15 t732.length co15:Value).ownBlock∧some k_≠(.slice Ao15 t732.length co15:Value).ownBlock) (fun _=>False) rfl rfl ?aP (fun _ hk=>hk.elim) ?aF ?aO ?aB ?aS ?aL ?_;(case aP=>exact rfl);(case aB=>exact zB);(case aF=>exact (fun k_ hk=>⟨Kd.fresh' (Kd.R_lt (zR HO_6)) k_ hk,Kd.fresh' (Kd.R_lt (zR HO_737000)) k_ hk⟩));(case aO=>exact (zR HO_737001));(case aS=>exact (below_size zB));(case aL=>have:=LMc27.out;omega);intro v740 w36 ho hb hg hat;rw [← Ny739.out] at ho;have HO741:=zA (ho);replace HO_6:=zA (Kd.R_after (ok:=(fun _=>True)) (by refine zr ?_;exact Kd.R_mono HO_6.out (fun _ hk=>⟨trivial,hk⟩)) hg hat);replace HO_737000:=zA (Kd.R_after (ok:=(fun _=>True)) (by refine zr ?_;exact Kd.R_mono HO_737000.out (fun _ hk=>⟨trivial,hk⟩)) hg hat);replace BK729:=zA (blk_grown (g:=gb729) (o:=.cells #[.slice A0_0 l0_0.length c0_0,.slice A0_1 l0_1.length c0_1] 29 (0,0)) (zk BK729) hg (Kd.R_ne HO_737001.out BK729.out (by decide)));replace BK730:=zA (blk_grown (g:=gb730) (o:=.cells #[.slice A1_0 l1_0.length c1_0,.slice A1_1 l1_1.length c1_1] 29 (0,0)) (zk BK730) hg (Kd.R_ne HO_737001.out BK730.out (by decide)));replace BK731:=zA (blk_grown (g:=gb731) (o:=.cells #[.slice none 0 0,.slice none 0 0] 29 (0,0)) (zk BK731) hg (Kd.R_ne HO_737001.out BK731.out (by decide)));replace BK736:=zA (blk_grown (g:=gb736) (o:=.cells #[.slice Ao15 t732.length co15,u737001] 29 (0,0)) (zk BK736) hg (Kd.R_ne HO_737001.out BK736.out (by decide)));replace HB:=zA (hb);clear HO_737001;clear ho hb hg hat;obtain ⟨Ao37,co37,eo37⟩:=Kd.R_slice HO741.out;subst eo37;have hcz38_0:w36.cell? ⟨gb736,0,none⟩=some (.slice Ao15 t732.length co15):=(blk_cell BK736.out 0).trans rfl;have hcz38_1:w36.cell? ⟨gb736,1,none⟩=some (u737001):=(blk_cell BK736.out 1).trans rfl;have hfz38_0:=blk_frozen BK736.out 0;have hfz38_1:=blk_frozen BK736.out 1))
       go_roundg k1
       case measure=>have:=HK1.out;omega
       case rel=>exact ⟨(wrap64 (x9_1+1)),(y739),(.slice Ao37 y739.length co37),zT,H',⟨by have:=HK1.out;omega⟩,⟨by refine zr ?_;exact Kd.R_mono (Kd.R_far (p:=⟨gb736,1,none⟩) (Kd.R_types HO_6.out BK736.out (by decide)) (fun _ hk=>hk.2) (.slice Ao37 y739.length co37)) (fun _ hk=>hk.1.2)⟩,⟨by refine zr ?_;exact Kd.R_mono (Kd.R_far (p:=⟨gb736,1,none⟩) (Kd.R_types HO_737000.out BK736.out (by decide)) (fun _ hk=>hk.2) (.slice Ao37 y739.length co37)) (fun _ hk=>hk.1.2)⟩,⟨by refine zr ?_;exact Kd.R_mono (Kd.R_far (p:=⟨gb736,1,none⟩) (Kd.R_types HO741.out BK736.out (by decide)) (fun _ hk=>hk.2) (.slice Ao37 y739.length co37)) (fun _ hk=>⟨hk.1.1,hk.1.2⟩)⟩,⟨by refine zj ?_;refine blk_far ?_ NB729_736.out _;refine zj ?_;exact BK729.out⟩,⟨by refine zj ?_;refine blk_far ?_ NB730_736.out _;refine zj ?_;exact BK730.out⟩,⟨by refine zj ?_;refine blk_far ?_ NB731_736.out _;refine zj ?_;exact BK731.out⟩,⟨by refine zj ?_;refine blk_put (cs:=#[.slice Ao15 t732.length co15,u737001]) ?_ 1 _ rfl;refine zj ?_;exact BK736.out⟩,⟨by repeat (first|(with_reducible first|exact HB.out|apply below_alloc|apply pw_below_drewN|apply below_drew1|refine below_set ?_ GE729.out|refine below_set ?_ GE730.out|refine below_set ?_ GE731.out|refine below_set ?_ GE736.out)|exact HB.out)⟩⟩
      ·rw [if_neg c27] at H
       exact absurd H (by simp)
     ·replace c26:=Bool.eq_false_iff.mpr c26
      subst c26
      have H1:((ancepsref38_Holds.f k1 l1_0 l1_1 t737).bind fun t742=>(if t742=true then (if x737001_1.length<17592186044416 then (ancepsref38_Union.l0 k1 t732 (wrap64 (x9_1+1)) l0_0 l0_1 l1_0 l1_1 t732 (x737001_1++[x9_1])) else (none)) else (ancepsref38_Union.l0 k1 t732 (wrap64 (x9_1+1)) l0_0 l0_1 l1_0 l1_1 t732 x737001_1)))=some (r1,r2,r3):=by rw [if_neg (show ¬ (false=true) by decide)] at H;exact H
      clear H
      have H:=H1
      clear H1
      replace H:=Option.bind_eq_some_iff.mp H
      obtain ⟨t742,A390,H⟩:=H
      replace H:(if t742=true then (if x737001_1.length<17592186044416 then (ancepsref38_Union.l0 k1 t732 (wrap64 (x9_1+1)) l0_0 l0_1 l1_0 l1_1 t732 (x737001_1++[x9_1])) else (none)) else (ancepsref38_Union.l0 k1 t732 (wrap64 (x9_1+1)) l0_0 l0_1 l1_0 l1_1 t732 x737001_1))=some (r1,r2,r3):=H
      have A39:=zA A390
      clear A390
      have HC40:=zA H
      clear H
      have hnb41:=NB729_730.out
      have hnc41:=NB730_729.out
      have hnb42:=NB729_731.out
      have hnc42:=NB731_729.out
      have hnb43:=NB729_736.out
      have hnc43:=NB736_729.out
      have hcz44_0:wr.cell? ⟨gb729,0,none⟩=some (.slice A0_0 l0_0.length c0_0):=(blk_cell BK729.out 0).trans rfl
      have hcz44_1:wr.cell? ⟨gb729,1,none⟩=some (.slice A0_1 l0_1.length c0_1):=(blk_cell BK729.out 1).trans rfl
      have hfz44_0:=blk_frozen BK729.out 0
      have hfz44_1:=blk_frozen BK729.out 1
      go_upto_if 40 with (first|((with_reducible refine gate_callee (f:=29) rfl ?_);refine goesL_ (some 35) rfl rfl Try.func29 zK rfl #[.agg #[.slice A0_0 l0_0.length c0_0,.slice A0_1 l0_1.length c0_1],.int .i64 t737] rfl zM ?_;(with_reducible refine (ancepsref38_Holds.calls k1 _ _ l0_0 _ _ l0_1 t737 false _ ?side1 ?side2 ?side3 ?side4 A25.out).mono ?_);(case side1=>exact zC (Kd.C_below HR0_0.out HB.out));(case side2=>exact HC0_0.out);(case side3=>exact zC (Kd.C_below HR0_1.out HB.out));(case side4=>exact HC0_1.out);rintro e w45 ⟨rfl,hb⟩;refine ⟨_,rfl,?_⟩;replace HO_6:=zA (Kd.R_below (zR HO_6) hb);replace HO_737000:=zA (Kd.R_below (zR HO_737000) hb);replace HO_737001:=zA (Kd.R_below (zR HO_737001) hb);replace BK729:=zA (zb BK729 hb);replace BK730:=zA (zb BK730 hb);replace BK731:=zA (zb BK731 hb);replace BK736:=zA (zb BK736 hb);replace HB:=zA (below_step zB hb);(try clear hb);(try clear hb2);(try clear hk);(try clear hi);have hnb46:=NB730_731.out;have hnc46:=NB731_730.out;have hnb47:=NB730_736.out;have hnc47:=NB736_730.out;have hcz48_0:w45.cell? ⟨gb730,0,none⟩=some (.slice A1_0 l1_0.length c1_0):=(blk_cell BK730.out 0).trans rfl;have hcz48_1:w45.cell? ⟨gb730,1,none⟩=some (.slice A1_1 l1_1.length c1_1):=(blk_cell BK730.out 1).trans rfl;have hfz48_0:=blk_frozen BK730.out 0;have hfz48_1:=blk_frozen BK730.out 1)|(go_at_call 29;(with_reducible refine (ancepsref38_Holds.calls k1 _ _ l1_0 _ _ l1_1 t737 t742 _ ?side1 ?side2 ?side3 ?side4 A39.out).mono ?_);(case side1=>exact zC (Kd.C_below HR1_0.out HB.out));(case side2=>exact HC1_0.out);(case side3=>exact zC (Kd.C_below HR1_1.out HB.out));(case side4=>exact HC1_1.out);rintro e w49 ⟨rfl,hb⟩;replace HO_6:=zA (Kd.R_below (zR HO_6) hb);replace HO_737000:=zA (Kd.R_below (zR HO_737000) hb);replace HO_737001:=zA (Kd.R_below (zR HO_737001) hb);replace BK729:=zA (zb BK729 hb);replace BK730:=zA (zb BK730 hb);replace BK731:=zA (zb BK731 hb);replace BK736:=zA (zb BK736 hb);replace HB:=zA (below_step zB hb);(try clear hb);(try clear hb2);(try clear hk);(try clear hi)))
      (try simp only [Act.put,zi,zs,zt])
      have H:=HC40.out
      clear HC40
      by_cases c50:t742=true
      ·subst c50
       have H1:(if x737001_1.length<17592186044416 then (ancepsref38_Union.l0 k1 t732 (wrap64 (x9_1+1)) l0_0 l0_1 l1_0 l1_1 t732 (x737001_1++[x9_1])) else (none))=some (r1,r2,r3):=by rw [if_pos rfl] at H;exact H
       clear H
       have H:=H1
       clear H1
       by_cases c51:x737001_1.length<17592186044416
       ·rw [if_pos c51] at H
        have LMc51:=zA c51
        clear c51
        obtain ⟨y743,hy743⟩:∃ y_:List Int,y_=(x737001_1++[x9_1]):=⟨_,rfl⟩
        replace H:(ancepsref38_Union.l0 k1 t732 (wrap64 (x9_1+1)) l0_0 l0_1 l1_0 l1_1 t732 y743)=some (r1,r2,r3):=by first|(rw [hy743];with_reducible exact H)|(have H2_:=(Option.bind_some _ _).symm.trans H;rw [hy743];with_reducible exact H2_)|(have H2_:=(Option.bind_some _ _).symm.trans H;with_reducible exact H2_)|with_reducible exact H|(rw [hy743];exact H)|exact H
        have Ny743:=zA hy743
        clear hy743
        have H':=zA H
        clear H
        have hnb52:=NB736_729.out
        have hnc52:=NB729_736.out
        have hnb53:=NB736_730.out
        have hnc53:=NB730_736.out
        have hnb54:=NB736_731.out
        have hnc54:=NB731_736.out
        have hcz55_0:w49.cell? ⟨gb736,0,none⟩=some (.slice Ao15 t732.length co15):=(blk_cell BK736.out 0).trans rfl
        have hcz55_1:w49.cell? ⟨gb736,1,none⟩=some (u737001):=(blk_cell BK736.out 1).trans rfl
        have hfz55_0:=blk_frozen BK736.out 0
        have hfz55_1:=blk_frozen BK736.out 1
        go_wp2_with (first|((with_reducible refine gate_builtin (b:=.append) (xs:=#[.tmp 42,.tmp 44]) rfl ?_);at_builtin;refine Kd.R_append (Kd.int .i64) (w0:=w) w.heap.size rfl (.tmp 42) (.tmp 44) 27 3 (.int .i64 0) 8 rfl Try.underlying27 info3 rfl (by decide) (by omega) u737001 x737001_1 x9_1 [.int .i64 x9_1] (fun k_=>some k_≠(.slice Ao15 t732.length co15:Value).ownBlock∧some k_≠(.slice Ao15 t732.length co15:Value).ownBlock) (fun _=>False) rfl rfl ?aP (fun _ hk=>hk.elim) ?aF ?aO ?aB ?aS ?aL ?_;(case aP=>exact rfl);(case aB=>exact zB);(case aF=>exact (fun k_ hk=>⟨Kd.fresh' (Kd.R_lt (zR HO_6)) k_ hk,Kd.fresh' (Kd.R_lt (zR HO_737000)) k_ hk⟩));(case aO=>exact (zR HO_737001));(case aS=>exact (below_size zB));(case aL=>have:=LMc51.out;omega);intro v744 w56 ho hb hg hat;rw [← Ny743.out] at ho;have HO745:=zA (ho);replace HO_6:=zA (Kd.R_after (ok:=(fun _=>True)) (by refine zr ?_;exact Kd.R_mono HO_6.out (fun _ hk=>⟨trivial,hk⟩)) hg hat);replace HO_737000:=zA (Kd.R_after (ok:=(fun _=>True)) (by refine zr ?_;exact Kd.R_mono HO_737000.out (fun _ hk=>⟨trivial,hk⟩)) hg hat);replace BK729:=zA (blk_grown (g:=gb729) (o:=.cells #[.slice A0_0 l0_0.length c0_0,.slice A0_1 l0_1.length c0_1] 29 (0,0)) (zk BK729) hg (Kd.R_ne HO_737001.out BK729.out (by decide)));replace BK730:=zA (blk_grown (g:=gb730) (o:=.cells #[.slice A1_0 l1_0.length c1_0,.slice A1_1 l1_1.length c1_1] 29 (0,0)) (zk BK730) hg (Kd.R_ne HO_737001.out BK730.out (by decide)));replace BK731:=zA (blk_grown (g:=gb731) (o:=.cells #[.slice none 0 0,.slice none 0 0] 29 (0,0)) (zk BK731) hg (Kd.R_ne HO_737001.out BK731.out (by decide)));replace BK736:=zA (blk_grown (g:=gb736) (o:=.cells #[.slice Ao15 t732.length co15,u737001] 29 (0,0)) (zk BK736) hg (Kd.R_ne HO_737001.out BK736.out (by decide)));replace HB:=zA (hb);clear HO_737001;clear ho hb hg hat;obtain ⟨Ao57,co57,eo57⟩:=Kd.R_slice HO745.out;subst eo57;have hcz58_0:w56.cell? ⟨gb736,0,none⟩=some (.slice Ao15 t732.length co15):=(blk_cell BK736.out 0).trans rfl;have hcz58_1:w56.cell? ⟨gb736,1,none⟩=some (u737001):=(blk_cell BK736.out 1).trans rfl;have hfz58_0:=blk_frozen BK736.out 0;have hfz58_1:=blk_frozen BK736.out 1))
        go_roundg k1
        case measure=>have:=HK1.out;omega
        case rel=>exact ⟨(wrap64 (x9_1+1)),(y743),(.slice Ao57 y743.length co57),zT,H',⟨by have:=HK1.out;omega⟩,⟨by refine zr ?_;exact Kd.R_mono (Kd.R_far (p:=⟨gb736,1,none⟩) (Kd.R_types HO_6.out BK736.out (by decide)) (fun _ hk=>hk.2) (.slice Ao57 y743.length co57)) (fun _ hk=>hk.1.2)⟩,⟨by refine zr ?_;exact Kd.R_mono (Kd.R_far (p:=⟨gb736,1,none⟩) (Kd.R_types HO_737000.out BK736.out (by decide)) (fun _ hk=>hk.2) (.slice Ao57 y743.length co57)) (fun _ hk=>hk.1.2)⟩,⟨by refine zr ?_;exact Kd.R_mono (Kd.R_far (p:=⟨gb736,1,none⟩) (Kd.R_types HO745.out BK736.out (by decide)) (fun _ hk=>hk.2) (.slice Ao57 y743.length co57)) (fun _ hk=>⟨hk.1.1,hk.1.2⟩)⟩,⟨by refine zj ?_;refine blk_far ?_ NB729_736.out _;refine zj ?_;exact BK729.out⟩,⟨by refine zj ?_;refine blk_far ?_ NB730_736.out _;refine zj ?_;exact BK730.out⟩,⟨by refine zj ?_;refine blk_far ?_ NB731_736.out _;refine zj ?_;exact BK731.out⟩,⟨by refine zj ?_;refine blk_put (cs:=#[.slice Ao15 t732.length co15,u737001]) ?_ 1 _ rfl;refine zj ?_;exact BK736.out⟩,⟨by repeat (first|(with_reducible first|exact HB.out|apply below_alloc|apply pw_below_drewN|apply below_drew1|refine below_set ?_ GE729.out|refine below_set ?_ GE730.out|refine below_set ?_ GE731.out|refine below_set ?_ GE736.out)|exact HB.out)⟩⟩
       ·rw [if_neg c51] at H
        exact absurd H (by simp)
      ·replace c50:=Bool.eq_false_iff.mpr c50
       subst c50
       have H1:(ancepsref38_Union.l0 k1 t732 (wrap64 (x9_1+1)) l0_0 l0_1 l1_0 l1_1 t732 x737001_1)=some (r1,r2,r3):=by rw [if_neg (show ¬ (false=true) by decide)] at H;exact H
       clear H
       have H:=H1
       clear H1
       have H':=zA H
       clear H
       go_wp2
       go_roundg k1
       case measure=>have:=HK1.out;omega
       case rel=>exact ⟨(wrap64 (x9_1+1)),(x737001_1),(u737001),zT,H',⟨by have:=HK1.out;omega⟩,⟨by refine zr ?_;exact HO_6.out⟩,⟨by refine zr ?_;exact HO_737000.out⟩,⟨by refine zr ?_;exact HO_737001.out⟩,⟨by refine zj ?_;exact BK729.out⟩,⟨by refine zj ?_;exact BK730.out⟩,⟨by refine zj ?_;exact BK731.out⟩,⟨by refine zj ?_;exact BK736.out⟩,⟨by repeat (first|(with_reducible first|exact HB.out|apply below_alloc|apply pw_below_drewN|apply below_drew1|refine below_set ?_ GE729.out|refine below_set ?_ GE730.out|refine below_set ?_ GE731.out|refine below_set ?_ GE736.out)|exact HB.out)⟩⟩
    ·rw [if_neg c22] at H
     have c22b0:decide (x9_1<(ji21))=false:=decide_eq_false c22
     clear c22
     simp only [Option.some.injEq,Prod.mk.injEq] at H
     obtain ⟨rfl,rfl,rfl⟩:=H
     have hnb59:=NB736_729.out
     have hnc59:=NB729_736.out
     have hnb60:=NB736_730.out
     have hnc60:=NB730_736.out
     have hnb61:=NB736_731.out
     have hnc61:=NB731_736.out
     have hcz62_0:wr.cell? ⟨gb736,0,none⟩=some (.slice Ao15 t732.length co15):=(blk_cell BK736.out 0).trans rfl
     have hcz62_1:wr.cell? ⟨gb736,1,none⟩=some (u737001):=(blk_cell BK736.out 1).trans rfl
     have hfz62_0:=blk_frozen BK736.out 0
     have hfz62_1:=blk_frozen BK736.out 1
     have hnb63:=NB731_729.out
     have hnc63:=NB729_731.out
     have hnb64:=NB731_730.out
     have hnc64:=NB730_731.out
     have hcz65_0:wr.cell? ⟨gb731,0,none⟩=some (.slice none 0 0):=(blk_cell BK731.out 0).trans rfl
     have hcz65_1:wr.cell? ⟨gb731,1,none⟩=some (.slice none 0 0):=(blk_cell BK731.out 1).trans rfl
     have hfz65_0:=blk_frozen BK731.out 0
     have hfz65_1:=blk_frozen BK731.out 1
     obtain ⟨Ao66,co66,eo66⟩:=Kd.R_slice HO_737001.out
     subst eo66
     go_wp2
     refine bodyPost_ret (results_ct rfl _ _ gb731 29 #[.slice Ao15 t732.length co15,.slice Ao66 x737001_1.length co66] (0,0) _ rfl (by refine zj ?_;refine blk_put (cs:=#[.slice Ao15 t732.length co15,.slice none 0 0]) ?_ 1 _ rfl;refine zj ?_;refine blk_put (cs:=#[.slice none 0 0,.slice none 0 0]) ?_ 0 _ rfl;refine zj ?_;exact BK731.out) Try.underlying29 rfl zK) rfl ?_
     exact ⟨_,_,by first|rfl|(simp [errW_none,errW_some] <;> rfl)|(simp only [← hji21];first|rfl|(simp [errW_none,errW_some] <;> rfl))|(simp [*,errW_none,errW_some] <;> rfl),by refine zr ?_;exact Kd.R_mono (Kd.R_far (p:=⟨gb731,1,none⟩) (Kd.R_far (p:=⟨gb731,0,none⟩) (Kd.R_types HO_737000.out BK731.out (by decide)) (fun _ hk=>hk.2) (.slice Ao15 t732.length co15)) (fun _ hk=>hk.2) (.slice Ao66 x737001_1.length co66)) (fun _ hk=>hk.1),by refine zr ?_;exact Kd.R_mono (Kd.R_far (p:=⟨gb731,1,none⟩) (Kd.R_far (p:=⟨gb731,0,none⟩) (Kd.R_types HO_737001.out BK731.out (by decide)) (fun _ hk=>hk.2) (.slice Ao15 t732.length co15)) (fun _ hk=>hk.2) (.slice Ao66 x737001_1.length co66)) (fun _ hk=>hk.1.2),by repeat (first|(with_reducible first|exact HB.out|apply below_alloc|apply pw_below_drewN|apply below_drew1|refine below_set ?_ GE729.out|refine below_set ?_ GE730.out|refine below_set ?_ GE731.out|refine below_set ?_ GE736.out)|exact HB.out)⟩
 ·rw [if_neg c14] at H
  have c14b0:(t735 == 0)=false:=beq_eq_false_iff_ne.mpr c14
  have c14b1:(t735 != 0)=true:=bne_iff_ne.mpr c14
  (first|rw [c14b0]|(simp only [i64_w,i32_w];rw [c14b0])|skip)
  (try rw [c14b1])
  simp only [Option.some.injEq,Prod.mk.injEq] at H
  obtain ⟨rfl,rfl,rfl⟩:=H
  have hnb67:=NB731_729.out
  have hnc67:=NB729_731.out
  have hnb68:=NB731_730.out
  have hnc68:=NB730_731.out
  have hcz69_0:w13.cell? ⟨gb731,0,none⟩=some (.slice none 0 0):=(blk_cell BK731.out 0).trans rfl
  have hcz69_1:w13.cell? ⟨gb731,1,none⟩=some (.slice none 0 0):=(blk_cell BK731.out 1).trans rfl
  have hfz69_0:=blk_frozen BK731.out 0
  have hfz69_1:=blk_frozen BK731.out 1
  go_wp2
  refine bodyPost_ret (results_ct rfl _ _ gb731 29 #[.slice none 0 0,.slice none 0 0] (0,0) _ rfl (by refine zj ?_;refine blk_put (cs:=#[.slice none 0 0,.slice none 0 0]) ?_ 1 _ rfl;refine zj ?_;refine blk_put (cs:=#[.slice none 0 0,.slice none 0 0]) ?_ 0 _ rfl;refine zj ?_;exact BK731.out) Try.underlying29 rfl zK) rfl ?_
  exact ⟨_,_,ze,by first|exact Kd.R_nil _ _ _ _ _|exact Kd.N_nil _ _ _ _ _|exact Kd.V_nil _ _ _ _ _|exact Kd.Q_nil _ _ _ _ _|exact Kd.S_nil _ _ _ _ _,by first|exact Kd.R_nil _ _ _ _ _|exact Kd.N_nil _ _ _ _ _|exact Kd.V_nil _ _ _ _ _|exact Kd.Q_nil _ _ _ _ _|exact Kd.S_nil _ _ _ _ _,by repeat (first|(with_reducible first|exact HB.out|apply below_alloc|apply pw_below_drewN|apply below_drew1|refine below_set ?_ GE729.out|refine below_set ?_ GE730.out|refine below_set ?_ GE731.out)|exact HB.out)⟩
def ancepsref38_Minus.l0:Nat→List Int→Int→List Int→List Int→List Int→List Int→List Int→List Int→Option (List Int×List Int×Int)
 | 0,_,_,_,_,_,_,_,_=>none
 | k+1,x6,x9,x747000,x747001,x748000,x748001,x754000,x754001=>if x9<(shl .i64 1 (x6.length:Int)) then ((ancepsref38_Assignment.f k x6 x9).bind fun t754=>((ancepsref38_Holds.f k x747000 x747001 t754).bind fun t755=>(if t755=true then ((ancepsref38_Holds.f k x748000 x748001 t754).bind fun t756=>(if t756=true then (ancepsref38_Minus.l0 k x6 (wrap64 (x9+1)) x747000 x747001 x748000 x748001 x754000 x754001) else (if x754001.length<17592186044416 then (ancepsref38_Minus.l0 k x6 (wrap64 (x9+1)) x747000 x747001 x748000 x748001 x754000 (x754001++[x9])) else (none)))) else (ancepsref38_Minus.l0 k x6 (wrap64 (x9+1)) x747000 x747001 x748000 x748001 x754000 x754001)))) else (some (x754000,x754001,0))
def ancepsref38_Minus.f (k:Nat) (l0_0:List Int) (l0_1:List Int) (l1_0:List Int) (l1_1:List Int):Option (List Int×List Int×Int):=(ancepsref38_two.f k l0_0 l0_1 l1_0 l1_1).bind fun bt749=>(if bt749.2=0 then (ancepsref38_Minus.l0 k bt749.1 0 l0_0 l0_1 l1_0 l1_1 bt749.1 ([]:List Int)) else (some (([]:List Int),([]:List Int),bt749.2)))
theorem ancepsref38_Minus.mono_l:∀ k,(∀ y0 y1 y2 y3 y4 y5 y6 y7,LeO (ancepsref38_Minus.l0 k y0 y1 y2 y3 y4 y5 y6 y7) (ancepsref38_Minus.l0 (k+1) y0 y1 y2 y3 y4 y5 y6 y7))
 | 0=>fun _ _ _ _ _ _ _ _ r h=>by simp [ancepsref38_Minus.l0] at h
 | k+1=>by
  have ih0:=ancepsref38_Minus.mono_l k
  ·intro y0 y1 y2 y3 y4 y5 y6 y7
   unfold ancepsref38_Minus.l0
   repeat' first
   | (with_reducible exact ih0 _ _ _ _ _ _ _ _)
   | (with_reducible exact ancepsref38_Assignment.mono _ _ _)
   | (with_reducible exact ancepsref38_Holds.mono _ _ _ _)
   | (with_reducible exact ancepsref38_two.mono _ _ _ _ _)
   | (with_reducible exact LeO.refl _)
   | (with_reducible exact LeO.none _)
   | (with_reducible refine LeO.ite ?_ ?_)
   | (with_reducible refine LeO.bind ?_ (fun _=>?_))
   | exact LeO.none _
   | refine LeO.ite ?_ ?_
   | refine LeO.bind ?_ (fun _=>?_)
theorem ancepsref38_Minus.mono:∀ a0 a1 a2 a3 k,LeO (ancepsref38_Minus.f k a0 a1 a2 a3) (ancepsref38_Minus.f (k+1) a0 a1 a2 a3):=by
 intro a0 a1 a2 a3 k
 have ih0:=ancepsref38_Minus.mono_l k
 unfold ancepsref38_Minus.f
 repeat' first
   | (with_reducible exact ih0 _ _ _ _ _ _ _ _)
   | (with_reducible exact ancepsref38_Assignment.mono _ _ _)
   | (with_reducible exact ancepsref38_Holds.mono _ _ _ _)
   | (with_reducible exact ancepsref38_two.mono _ _ _ _ _)
   | (with_reducible exact LeO.refl _)
   | (with_reducible exact LeO.none _)
   | (with_reducible refine LeO.ite ?_ ?_)
   | (with_reducible refine LeO.bind ?_ (fun _=>?_))
   | exact LeO.none _
   | refine LeO.ite ?_ ?_
   | refine LeO.bind ?_ (fun _=>?_)
set_option maxHeartbeats 8000000 in
set_option maxRecDepth 100000 in
theorem ancepsref38_Minus.calls (k:Nat) (A0_0:Option Addr) (c0_0:Nat) (l0_0:List Int) (A0_1:Option Addr) (c0_1:Nat) (l0_1:List Int) (A1_0:Option Addr) (c1_0:Nat) (l1_0:List Int) (A1_1:Option Addr) (c1_1:Nat) (l1_1:List Int) (r1:List Int) (r2:List Int) (r3:Int) (w:World) (hr0_0:Kd.C (Kd.int .i64) w A0_0 l0_0.length l0_0) (hc0_0:l0_0.length≤c0_0) (hr0_1:Kd.C (Kd.int .i64) w A0_1 l0_1.length l0_1) (hc0_1:l0_1.length≤c0_1) (hr1_0:Kd.C (Kd.int .i64) w A1_0 l1_0.length l1_0) (hc1_0:l1_0.length≤c1_0) (hr1_1:Kd.C (Kd.int .i64) w A1_1 l1_1.length l1_1) (hc1_1:l1_1.length≤c1_1) (h:ancepsref38_Minus.f k l0_0 l0_1 l1_0 l1_1=some (r1,r2,r3)) :
  Calls Try.prog 32 #[.agg #[.slice A0_0 l0_0.length c0_0,.slice A0_1 l0_1.length c0_1],.agg #[.slice A1_0 l1_0.length c1_0,.slice A1_1 l1_1.length c1_1]] w fun e w'=>∃ v0_ v1_:Value,e=.returned (.tuple #[.agg #[v0_,v1_],.int .i64 r3])∧Kd.R (Kd.int .i64) 3 w' w.heap.size (fun k_=>some k_≠(v1_:Value).ownBlock) v0_ r1∧Kd.R (Kd.int .i64) 3 w' w.heap.size (fun k_=>some k_≠(v0_:Value).ownBlock) v1_ r2∧Below w.heap.size w w':=by
 have hu29:=Try.underlying29
 have hu27:=Try.underlying27
 have HR0_0:=zA hr0_0
 have HC0_0:=zA hc0_0
 clear hr0_0 hc0_0
 have HR0_1:=zA hr0_1
 have HC0_1:=zA hc0_1
 clear hr0_1 hc0_1
 have HR1_0:=zA hr1_0
 have HC1_0:=zA hc1_0
 clear hr1_0 hc1_0
 have HR1_1:=zA hr1_1
 have HC1_1:=zA hc1_1
 clear hr1_1 hc1_1
 have HB:=zA (Below.refl w.heap.size w)
 have H:((ancepsref38_two.f k l0_0 l0_1 l1_0 l1_1).bind fun bt749=>(if bt749.2=0 then (ancepsref38_Minus.l0 k bt749.1 0 l0_0 l0_1 l1_0 l1_1 bt749.1 ([]:List Int)) else (some (([]:List Int),([]:List Int),bt749.2))))=some (r1,r2,r3):=h
 clear h
 replace H:=Option.bind_eq_some_iff.mp H
 obtain ⟨⟨t749,t752⟩,A30,H⟩:=H
 replace H:(if t752=0 then (ancepsref38_Minus.l0 k t749 0 l0_0 l0_1 l1_0 l1_1 t749 ([]:List Int)) else (some (([]:List Int),([]:List Int),t752)))=some (r1,r2,r3):=H
 have A3:=zA A30
 clear A30
 have HC4:=zA H
 clear H
 go_enter Try.func32,Try.ntmps32
 go_upto_if 18 with (first|((with_reducible refine gate_dst (N:=2) rfl ?_);refine box_event ?hg (N:=2) ?hd (cs:=#[.slice A0_0 l0_0.length c0_0,.slice A0_1 l0_1.length c0_1]) (t:=29) ?hr ?_;(case hd=>rfl);(case hg=>rfl);(case hr=>first|(go_simp;done)|(go_simp;rfl));intro gb746 hg w5 hbox hb;have BK746:=zA (hbox);have GW746:=zA (zG hg (below_size zB):w.heap.size≤gb746);have GE746:=GW746;replace HB:=zA (below_step zB hb);clear hb hbox hg)|((with_reducible refine gate_dst (N:=3) rfl ?_);refine box_event ?hg (N:=3) ?hd (cs:=#[.slice A1_0 l1_0.length c1_0,.slice A1_1 l1_1.length c1_1]) (t:=29) ?hr ?_;(case hd=>rfl);(case hg=>rfl);(case hr=>first|(go_simp;done)|(go_simp;rfl));intro gb747 hg w6 hbox hb;have BK747:=zA (hbox);have GW747:=zA (zG hg (below_size zB):w.heap.size≤gb747);have GE747:=GW747;have NB746_747:=zA ((zl hg (zk BK746):gb746≠gb747));have NB747_746:=zA ((zg hg (zk BK746):gb747≠gb746));replace BK746:=zA (zb BK746 hb);replace HB:=zA (below_step zB hb);clear hb hbox hg)|((with_reducible refine gate_dst (N:=4) rfl ?_);refine box_event ?hg (N:=4) ?hd (cs:=#[.slice none 0 0,.slice none 0 0]) (t:=29) ?hr ?_;(case hd=>rfl);(case hg=>rfl);(case hr=>first|(go_simp;done)|(go_simp;rfl));intro gb748 hg w7 hbox hb;have BK748:=zA (hbox);have GW748:=zA (zG hg (below_size zB):w.heap.size≤gb748);have GE748:=GW748;have NB746_748:=zA ((zl hg (zk BK746):gb746≠gb748));have NB748_746:=zA ((zg hg (zk BK746):gb748≠gb746));have NB747_748:=zA ((zl hg (zk BK747):gb747≠gb748));have NB748_747:=zA ((zg hg (zk BK747):gb748≠gb747));replace BK746:=zA (zb BK746 hb);replace BK747:=zA (zb BK747 hb);replace HB:=zA (below_step zB hb);clear hb hbox hg;have hnb8:=NB746_747.out;have hnc8:=NB747_746.out;have hnb9:=NB746_748.out;have hnc9:=NB748_746.out;have hcz10_0:w7.cell? ⟨gb746,0,none⟩=some (.slice A0_0 l0_0.length c0_0):=(blk_cell BK746.out 0).trans rfl;have hcz10_1:w7.cell? ⟨gb746,1,none⟩=some (.slice A0_1 l0_1.length c0_1):=(blk_cell BK746.out 1).trans rfl;have hfz10_0:=blk_frozen BK746.out 0;have hfz10_1:=blk_frozen BK746.out 1;have hnb11:=NB747_748.out;have hnc11:=NB748_747.out;have hcz12_0:w7.cell? ⟨gb747,0,none⟩=some (.slice A1_0 l1_0.length c1_0):=(blk_cell BK747.out 0).trans rfl;have hcz12_1:w7.cell? ⟨gb747,1,none⟩=some (.slice A1_1 l1_1.length c1_1):=(blk_cell BK747.out 1).trans rfl;have hfz12_0:=blk_frozen BK747.out 0;have hfz12_1:=blk_frozen BK747.out 1)|((with_reducible refine gate_callee (f:=57) rfl ?_);refine goesL_ (some 14) rfl rfl Try.func57 zK rfl #[.agg #[.slice A0_0 l0_0.length c0_0,.slice A0_1 l0_1.length c0_1],.agg #[.slice A1_0 l1_0.length c1_0,.slice A1_1 l1_1.length c1_1]] rfl zM ?_;(with_reducible refine (ancepsref38_two.calls k _ _ l0_0 _ _ l0_1 _ _ l1_0 _ _ l1_1 t749 t752 _ ?side1 ?side2 ?side3 ?side4 ?side5 ?side6 ?side7 ?side8 A3.out).mono ?_);(case side1=>exact zC (Kd.C_below HR0_0.out HB.out));(case side2=>exact HC0_0.out);(case side3=>exact zC (Kd.C_below HR0_1.out HB.out));(case side4=>exact HC0_1.out);(case side5=>exact zC (Kd.C_below HR1_0.out HB.out));(case side6=>exact HC1_0.out);(case side7=>exact zC (Kd.C_below HR1_1.out HB.out));(case side8=>exact HC1_1.out);rintro e w13 ⟨v750,rfl,ho0,hb⟩;refine ⟨_,rfl,?_⟩;have HO751:=zA (Kd.R_lower ho0 (below_size zB));replace BK746:=zA (zb BK746 hb);replace BK747:=zA (zb BK747 hb);replace BK748:=zA (zb BK748 hb);replace HB:=zA (below_step zB hb);(try clear hb);(try clear hb2);(try clear hk);(try clear hi);(try clear ho0)))
 (try simp only [Act.put,zi,zs,zt])
 have H:=HC4.out
 clear HC4
 by_cases c14:t752=0
 ·rw [if_pos c14] at H
  have c14b0:(t752 == 0)=true:=beq_iff_eq.mpr c14
  have c14b1:(t752 != 0)=false:=bne_eq_false_iff_eq.mpr c14
  clear c14
  (first|rw [c14b0]|(simp only [i64_w,i32_w];rw [c14b0])|skip)
  (try rw [c14b1])
  have H':=zA H
  clear H
  obtain ⟨Ao15,co15,eo15⟩:=Kd.R_slice HO751.out
  subst eo15
  go_wp2_with (first|((with_reducible refine gate_dst (N:=8) rfl ?_);refine box_event ?hg (N:=8) ?hd (cs:=#[.slice none 0 0,.slice none 0 0]) (t:=29) ?hr ?_;(case hd=>rfl);(case hg=>rfl);(case hr=>first|(go_simp;done)|(go_simp;rfl));intro gb753 hg w16 hbox hb;have BK753:=zA (hbox);have GW753:=zA (zG hg (below_size zB):w.heap.size≤gb753);have GE753:=GW753;have NB746_753:=zA ((zl hg (zk BK746):gb746≠gb753));have NB753_746:=zA ((zg hg (zk BK746):gb753≠gb746));have NB747_753:=zA ((zl hg (zk BK747):gb747≠gb753));have NB753_747:=zA ((zg hg (zk BK747):gb753≠gb747));have NB748_753:=zA ((zl hg (zk BK748):gb748≠gb753));have NB753_748:=zA ((zg hg (zk BK748):gb753≠gb748));replace HO751:=zA (Kd.R_below (zR HO751) hb);replace BK746:=zA (zb BK746 hb);replace BK747:=zA (zb BK747 hb);replace BK748:=zA (zb BK748 hb);replace HB:=zA (below_step zB hb);clear hb hbox hg;have hnb17:=NB753_746.out;have hnc17:=NB746_753.out;have hnb18:=NB753_747.out;have hnc18:=NB747_753.out;have hnb19:=NB753_748.out;have hnc19:=NB748_753.out;have hcz20_0:w16.cell? ⟨gb753,0,none⟩=some (.slice none 0 0):=(blk_cell BK753.out 0).trans rfl;have hcz20_1:w16.cell? ⟨gb753,1,none⟩=some (.slice none 0 0):=(blk_cell BK753.out 1).trans rfl;have hfz20_0:=blk_frozen BK753.out 0;have hfz20_1:=blk_frozen BK753.out 1))
  go_loopg [9] k (fun kq v9 w'=>∃ (x9_1:Int) (x754001_1:List Int) (u754001:Value),v9=.int .i64 x9_1∧Aside0 (ancepsref38_Minus.l0 kq t749 x9_1 l0_0 l0_1 l1_0 l1_1 t749 x754001_1=some (r1,r2,r3))∧Aside0 (kq≤k)∧Aside0 (Kd.R (Kd.int .i64) 3 w' w.heap.size (fun k_=>some k_≠(u754001:Value).ownBlock) (.slice Ao15 t749.length co15) t749)∧Aside0 (Kd.R (Kd.int .i64) 3 w' w.heap.size (fun k_=>some k_≠(u754001:Value).ownBlock) (.slice Ao15 t749.length co15) t749)∧Aside0 (Kd.R (Kd.int .i64) 3 w' w.heap.size (fun k_=>some k_≠((.slice Ao15 t749.length co15):Value).ownBlock∧some k_≠((.slice Ao15 t749.length co15):Value).ownBlock) u754001 x754001_1)∧Aside0 (w'.heap[gb746]?=some (.cells #[(.slice A0_0 l0_0.length c0_0),(.slice A0_1 l0_1.length c0_1)] 29 (0,0)))∧Aside0 (w'.heap[gb747]?=some (.cells #[(.slice A1_0 l1_0.length c1_0),(.slice A1_1 l1_1.length c1_1)] 29 (0,0)))∧Aside0 (w'.heap[gb748]?=some (.cells #[(.slice none 0 0),(.slice none 0 0)] 29 (0,0)))∧Aside0 (w'.heap[gb753]?=some (.cells #[(.slice Ao15 t749.length co15),u754001] 29 (0,0)))∧Aside0 (Below w.heap.size w w'))
  case atStart=>exact ⟨(0),(([]:List Int)),(.slice none 0 0),zT,H',⟨Nat.le_refl _⟩,⟨by refine zr ?_;exact Kd.R_mono (Kd.R_far (p:=⟨gb753,1,none⟩) (Kd.R_far (p:=⟨gb753,0,none⟩) (Kd.R_types HO751.out BK753.out (by decide)) (fun _ hk=>hk.2) (.slice Ao15 t749.length co15)) (fun _ hk=>hk.2) (.slice none 0 0)) (fun _ hk=>(by simp [Value.ownBlock]))⟩,⟨by refine zr ?_;exact Kd.R_mono (Kd.R_far (p:=⟨gb753,1,none⟩) (Kd.R_far (p:=⟨gb753,0,none⟩) (Kd.R_types HO751.out BK753.out (by decide)) (fun _ hk=>hk.2) (.slice Ao15 t749.length co15)) (fun _ hk=>hk.2) (.slice none 0 0)) (fun _ hk=>(by simp [Value.ownBlock]))⟩,⟨by first|exact Kd.R_nil _ _ _ _ _|exact Kd.N_nil _ _ _ _ _|exact Kd.V_nil _ _ _ _ _|exact Kd.Q_nil _ _ _ _ _|exact Kd.S_nil _ _ _ _ _⟩,⟨by refine zj ?_;refine blk_far ?_ NB746_753.out _;refine zj ?_;refine blk_far ?_ NB746_753.out _;refine zj ?_;exact BK746.out⟩,⟨by refine zj ?_;refine blk_far ?_ NB747_753.out _;refine zj ?_;refine blk_far ?_ NB747_753.out _;refine zj ?_;exact BK747.out⟩,⟨by refine zj ?_;refine blk_far ?_ NB748_753.out _;refine zj ?_;refine blk_far ?_ NB748_753.out _;refine zj ?_;exact BK748.out⟩,⟨by refine zj ?_;refine blk_put (cs:=#[.slice Ao15 t749.length co15,.slice none 0 0]) ?_ 1 _ rfl;refine zj ?_;refine blk_put (cs:=#[.slice none 0 0,.slice none 0 0]) ?_ 0 _ rfl;refine zj ?_;exact BK753.out⟩,⟨by repeat (first|(with_reducible first|exact HB.out|apply below_alloc|apply pw_below_drewN|apply below_drew1|refine below_set ?_ GE746.out|refine below_set ?_ GE747.out|refine below_set ?_ GE748.out|refine below_set ?_ GE753.out)|exact HB.out)⟩⟩
  case round=>
   clear H'
   try clear c14
   try clear c14b0
   try clear c14b1
   try clear hcz10_0
   try clear hcz10_1
   try clear hcz12_0
   try clear hcz12_1
   try clear hcz20_0
   try clear hcz20_1
   try clear hfz10_0
   try clear hfz10_1
   try clear hfz12_0
   try clear hfz12_1
   try clear hfz20_0
   try clear hfz20_1
   obtain ⟨x9_1,x754001_1,u754001,rfl,HA,HK1,HO_6,HO_754000,HO_754001,BK746,BK747,BK748,BK753,HB⟩:=hrel
   cases gk with
   | zero=>exact absurd HA.out (by simp [ancepsref38_Minus.l0])
   | succ k1=>
    have H:=HA.out
    clear HA
    simp only [ancepsref38_Minus.l0] at H
    obtain ⟨ji21,hji21⟩:∃ j_:Int,(shl .i64 1 (t749.length:Int))=j_:=⟨_,rfl⟩
    replace H:(if x9_1<(ji21) then ((ancepsref38_Assignment.f k1 t749 x9_1).bind fun t754=>((ancepsref38_Holds.f k1 l0_0 l0_1 t754).bind fun t755=>(if t755=true then ((ancepsref38_Holds.f k1 l1_0 l1_1 t754).bind fun t756=>(if t756=true then (ancepsref38_Minus.l0 k1 t749 (wrap64 (x9_1+1)) l0_0 l0_1 l1_0 l1_1 t749 x754001_1) else (if x754001_1.length<17592186044416 then (ancepsref38_Minus.l0 k1 t749 (wrap64 (x9_1+1)) l0_0 l0_1 l1_0 l1_1 t749 (x754001_1++[x9_1])) else (none)))) else (ancepsref38_Minus.l0 k1 t749 (wrap64 (x9_1+1)) l0_0 l0_1 l1_0 l1_1 t749 x754001_1)))) else (some (t749,x754001_1,0)))=some (r1,r2,r3):=by first|(rw [hji21] at H;exact H)|(simp only [hji21] at H ⊢;exact H)
    have hji21_:(IntKind.i64.wrap (1 * 2 ^ min (t749.length:Int).toNat 64))=ji21:=hji21
    have hji21z:(t749.length:Int)≤64→(IntKind.i64.wrap (1 * 2 ^ (t749.length:Int).toNat))=ji21:=shl_small hji21
    have hji21p:(IntKind.i64.wrap (1 * 2 ^ min t749.length 64))=ji21:=hji21_
    have hji21q:(t749.length:Int)≤64→(IntKind.i64.wrap (1 * 2 ^ t749.length))=ji21:=hji21z
    have hji21r:(IntKind.i64.wrap (2 ^ min t749.length 64))=ji21:=by have h_:=hji21p;rw [Int.one_mul] at h_;exact h_
    have hji21s:(t749.length:Int)≤64→(IntKind.i64.wrap (2 ^ t749.length))=ji21:=fun hle_=>by have h_:=hji21q hle_;rw [Int.one_mul] at h_;exact h_
    have hji21u:(IntKind.i64.wrap (2 ^ min (t749.length:Int).toNat 64))=ji21:=by have h_:=hji21_;rw [Int.one_mul] at h_;exact h_
    have hji21v:(t749.length:Int)≤64→(IntKind.i64.wrap (2 ^ (t749.length:Int).toNat))=ji21:=fun hle_=>by have h_:=hji21z hle_;rw [Int.one_mul] at h_;exact h_
    have hji21y:(wrap64 (1 * 2 ^ min (t749.length:Int).toNat 64))=ji21:=(i64_w _).symm.trans hji21_
    have hji21x:(t749.length:Int)≤64→(wrap64 (1 * 2 ^ (t749.length:Int).toNat))=ji21:=fun h_=>(i64_w _).symm.trans (hji21z h_)
    by_cases c22:x9_1<(ji21)
    ·rw [if_pos c22] at H
     have c22b0:decide (x9_1<(ji21))=true:=decide_eq_true c22
     clear c22
     replace H:=Option.bind_eq_some_iff.mp H
     obtain ⟨t754,A230,H⟩:=H
     replace H:((ancepsref38_Holds.f k1 l0_0 l0_1 t754).bind fun t755=>(if t755=true then ((ancepsref38_Holds.f k1 l1_0 l1_1 t754).bind fun t756=>(if t756=true then (ancepsref38_Minus.l0 k1 t749 (wrap64 (x9_1+1)) l0_0 l0_1 l1_0 l1_1 t749 x754001_1) else (if x754001_1.length<17592186044416 then (ancepsref38_Minus.l0 k1 t749 (wrap64 (x9_1+1)) l0_0 l0_1 l1_0 l1_1 t749 (x754001_1++[x9_1])) else (none)))) else (ancepsref38_Minus.l0 k1 t749 (wrap64 (x9_1+1)) l0_0 l0_1 l1_0 l1_1 t749 x754001_1)))=some (r1,r2,r3):=H
     have A23:=zA A230
     clear A230
     have HC24:=zA H
     clear H
     go_upto_region 9 with (first|((with_reducible refine gate_callee (f:=39) rfl ?_);refine goesL_ (some 32) rfl rfl Try.func39 zK rfl #[.slice Ao15 t749.length co15,.int .i64 x9_1] rfl zM ?_;(with_reducible refine (ancepsref38_Assignment.calls k1 _ _ t749 x9_1 t754 _ ?side1 ?side2 A23.out).mono ?_);(case side1=>exact zC (Kd.R_reads' HO_6.out).2.2);(case side2=>exact (Kd.R_reads' HO_6.out).2.1);rintro e w' ⟨rfl,⟨nd,rfl⟩⟩;refine ⟨_,rfl,?_⟩))
     (try simp only [Act.put,zi,zs,zt])
     have H:=HC24.out
     clear HC24
     replace H:=Option.bind_eq_some_iff.mp H
     obtain ⟨t755,A250,H⟩:=H
     replace H:(if t755=true then ((ancepsref38_Holds.f k1 l1_0 l1_1 t754).bind fun t756=>(if t756=true then (ancepsref38_Minus.l0 k1 t749 (wrap64 (x9_1+1)) l0_0 l0_1 l1_0 l1_1 t749 x754001_1) else (if x754001_1.length<17592186044416 then (ancepsref38_Minus.l0 k1 t749 (wrap64 (x9_1+1)) l0_0 l0_1 l1_0 l1_1 t749 (x754001_1++[x9_1])) else (none)))) else (ancepsref38_Minus.l0 k1 t749 (wrap64 (x9_1+1)) l0_0 l0_1 l1_0 l1_1 t749 x754001_1))=some (r1,r2,r3):=H
     have A25:=zA A250
     clear A250
     by_cases c26:t755=true
     ·subst c26
      have H1:((ancepsref38_Holds.f k1 l1_0 l1_1 t754).bind fun t756=>(if t756=true then (ancepsref38_Minus.l0 k1 t749 (wrap64 (x9_1+1)) l0_0 l0_1 l1_0 l1_1 t749 x754001_1) else (if x754001_1.length<17592186044416 then (ancepsref38_Minus.l0 k1 t749 (wrap64 (x9_1+1)) l0_0 l0_1 l1_0 l1_1 t749 (x754001_1++[x9_1])) else (none))))=some (r1,r2,r3):=by rw [if_pos rfl] at H;exact H
      clear H
      have H:=H1
      clear H1
      replace H:=Option.bind_eq_some_iff.mp H
      obtain ⟨t756,A270,H⟩:=H
      replace H:(if t756=true then (ancepsref38_Minus.l0 k1 t749 (wrap64 (x9_1+1)) l0_0 l0_1 l1_0 l1_1 t749 x754001_1) else (if x754001_1.length<17592186044416 then (ancepsref38_Minus.l0 k1 t749 (wrap64 (x9_1+1)) l0_0 l0_1 l1_0 l1_1 t749 (x754001_1++[x9_1])) else (none)))=some (r1,r2,r3):=H
      have A27:=zA A270
      clear A270
      have HC28:=zA H
      clear H
      have hnb29:=NB746_747.out
      have hnc29:=NB747_746.out
      have hnb30:=NB746_748.out
      have hnc30:=NB748_746.out
      have hnb31:=NB746_753.out
      have hnc31:=NB753_746.out
      have hcz32_0:wr.cell? ⟨gb746,0,none⟩=some (.slice A0_0 l0_0.length c0_0):=(blk_cell BK746.out 0).trans rfl
      have hcz32_1:wr.cell? ⟨gb746,1,none⟩=some (.slice A0_1 l0_1.length c0_1):=(blk_cell BK746.out 1).trans rfl
      have hfz32_0:=blk_frozen BK746.out 0
      have hfz32_1:=blk_frozen BK746.out 1
      go_upto_if 41 with (first|((with_reducible refine gate_callee (f:=29) rfl ?_);refine goesL_ (some 35) rfl rfl Try.func29 zK rfl #[.agg #[.slice A0_0 l0_0.length c0_0,.slice A0_1 l0_1.length c0_1],.int .i64 t754] rfl zM ?_;(with_reducible refine (ancepsref38_Holds.calls k1 _ _ l0_0 _ _ l0_1 t754 true _ ?side1 ?side2 ?side3 ?side4 A25.out).mono ?_);(case side1=>exact zC (Kd.C_below HR0_0.out HB.out));(case side2=>exact HC0_0.out);(case side3=>exact zC (Kd.C_below HR0_1.out HB.out));(case side4=>exact HC0_1.out);rintro e w33 ⟨rfl,hb⟩;refine ⟨_,rfl,?_⟩;replace HO_6:=zA (Kd.R_below (zR HO_6) hb);replace HO_754000:=zA (Kd.R_below (zR HO_754000) hb);replace HO_754001:=zA (Kd.R_below (zR HO_754001) hb);replace BK746:=zA (zb BK746 hb);replace BK747:=zA (zb BK747 hb);replace BK748:=zA (zb BK748 hb);replace BK753:=zA (zb BK753 hb);replace HB:=zA (below_step zB hb);(try clear hb);(try clear hb2);(try clear hk);(try clear hi);have hnb34:=NB747_748.out;have hnc34:=NB748_747.out;have hnb35:=NB747_753.out;have hnc35:=NB753_747.out;have hcz36_0:w33.cell? ⟨gb747,0,none⟩=some (.slice A1_0 l1_0.length c1_0):=(blk_cell BK747.out 0).trans rfl;have hcz36_1:w33.cell? ⟨gb747,1,none⟩=some (.slice A1_1 l1_1.length c1_1):=(blk_cell BK747.out 1).trans rfl;have hfz36_0:=blk_frozen BK747.out 0;have hfz36_1:=blk_frozen BK747.out 1)|(go_at_call 29;(with_reducible refine (ancepsref38_Holds.calls k1 _ _ l1_0 _ _ l1_1 t754 t756 _ ?side1 ?side2 ?side3 ?side4 A27.out).mono ?_);(case side1=>exact zC (Kd.C_below HR1_0.out HB.out));(case side2=>exact HC1_0.out);(case side3=>exact zC (Kd.C_below HR1_1.out HB.out));(case side4=>exact HC1_1.out);rintro e w37 ⟨rfl,hb⟩;replace HO_6:=zA (Kd.R_below (zR HO_6) hb);replace HO_754000:=zA (Kd.R_below (zR HO_754000) hb);replace HO_754001:=zA (Kd.R_below (zR HO_754001) hb);replace BK746:=zA (zb BK746 hb);replace BK747:=zA (zb BK747 hb);replace BK748:=zA (zb BK748 hb);replace BK753:=zA (zb BK753 hb);replace HB:=zA (below_step zB hb);(try clear hb);(try clear hb2);(try clear hk);(try clear hi)))
      (try simp only [Act.put,zi,zs,zt])
      have H:=HC28.out
      clear HC28
      by_cases c38:t756=true
      ·subst c38
       have H1:(ancepsref38_Minus.l0 k1 t749 (wrap64 (x9_1+1)) l0_0 l0_1 l1_0 l1_1 t749 x754001_1)=some (r1,r2,r3):=by rw [if_pos rfl] at H;exact H
       clear H
       have H:=H1
       clear H1
       have H':=zA H
       clear H
       go_wp2
       go_roundg k1
       case measure=>have:=HK1.out;omega
       case rel=>exact ⟨(wrap64 (x9_1+1)),(x754001_1),(u754001),zT,H',⟨by have:=HK1.out;omega⟩,⟨by refine zr ?_;exact HO_6.out⟩,⟨by refine zr ?_;exact HO_754000.out⟩,⟨by refine zr ?_;exact HO_754001.out⟩,⟨by refine zj ?_;exact BK746.out⟩,⟨by refine zj ?_;exact BK747.out⟩,⟨by refine zj ?_;exact BK748.out⟩,⟨by refine zj ?_;exact BK753.out⟩,⟨by repeat (first|(with_reducible first|exact HB.out|apply below_alloc|apply pw_below_drewN|apply below_drew1|refine below_set ?_ GE746.out|refine below_set ?_ GE747.out|refine below_set ?_ GE748.out|refine below_set ?_ GE753.out)|exact HB.out)⟩⟩
      ·replace c38:=Bool.eq_false_iff.mpr c38
       subst c38
       have H1:(if x754001_1.length<17592186044416 then (ancepsref38_Minus.l0 k1 t749 (wrap64 (x9_1+1)) l0_0 l0_1 l1_0 l1_1 t749 (x754001_1++[x9_1])) else (none))=some (r1,r2,r3):=by rw [if_neg (show ¬ (false=true) by decide)] at H;exact H
       clear H
       have H:=H1
       clear H1
       by_cases c39:x754001_1.length<17592186044416
       ·rw [if_pos c39] at H
        have LMc39:=zA c39
        clear c39
        obtain ⟨y757,hy757⟩:∃ y_:List Int,y_=(x754001_1++[x9_1]):=⟨_,rfl⟩
        replace H:(ancepsref38_Minus.l0 k1 t749 (wrap64 (x9_1+1)) l0_0 l0_1 l1_0 l1_1 t749 y757)=some (r1,r2,r3):=by first|(rw [hy757];with_reducible exact H)|(have H2_:=(Option.bind_some _ _).symm.trans H;rw [hy757];with_reducible exact H2_)|(have H2_:=(Option.bind_some _ _).symm.trans H;with_reducible exact H2_)|with_reducible exact H|(rw [hy757];exact H)|exact H
        have Ny757:=zA hy757
        clear hy757
        have H':=zA H
        clear H
        have hnb40:=NB753_746.out
        have hnc40:=NB746_753.out
        have hnb41:=NB753_747.out
        have hnc41:=NB747_753.out
        have hnb42:=NB753_748.out
        have hnc42:=NB748_753.out
        have hcz43_0:w37.cell? ⟨gb753,0,none⟩=some (.slice Ao15 t749.length co15):=(blk_cell BK753.out 0).trans rfl
        have hcz43_1:w37.cell? ⟨gb753,1,none⟩=some (u754001):=(blk_cell BK753.out 1).trans rfl
        have hfz43_0:=blk_frozen BK753.out 0
        have hfz43_1:=blk_frozen BK753.out 1
        go_wp2_with (first|((with_reducible refine gate_builtin (b:=.append) (xs:=#[.tmp 43,.tmp 45]) rfl ?_);at_builtin;refine Kd.R_append (Kd.int .i64) (w0:=w) w.heap.size rfl (.tmp 43) (.tmp 45) 27 3 (.int .i64 0) 8 rfl Try.underlying27 info3 rfl (by decide) (by omega) u754001 x754001_1 x9_1 [.int .i64 x9_1] (fun k_=>some k_≠(.slice Ao15 t749.length co15:Value).ownBlock∧some k_≠(.slice Ao15 t749.length co15:Value).ownBlock) (fun _=>False) rfl rfl ?aP (fun _ hk=>hk.elim) ?aF ?aO ?aB ?aS ?aL ?_;(case aP=>exact rfl);(case aB=>exact zB);(case aF=>exact (fun k_ hk=>⟨Kd.fresh' (Kd.R_lt (zR HO_6)) k_ hk,Kd.fresh' (Kd.R_lt (zR HO_754000)) k_ hk⟩));(case aO=>exact (zR HO_754001));(case aS=>exact (below_size zB));(case aL=>have:=LMc39.out;omega);intro v758 w44 ho hb hg hat;rw [← Ny757.out] at ho;have HO759:=zA (ho);replace HO_6:=zA (Kd.R_after (ok:=(fun _=>True)) (by refine zr ?_;exact Kd.R_mono HO_6.out (fun _ hk=>⟨trivial,hk⟩)) hg hat);replace HO_754000:=zA (Kd.R_after (ok:=(fun _=>True)) (by refine zr ?_;exact Kd.R_mono HO_754000.out (fun _ hk=>⟨trivial,hk⟩)) hg hat);replace BK746:=zA (blk_grown (g:=gb746) (o:=.cells #[.slice A0_0 l0_0.length c0_0,.slice A0_1 l0_1.length c0_1] 29 (0,0)) (zk BK746) hg (Kd.R_ne HO_754001.out BK746.out (by decide)));replace BK747:=zA (blk_grown (g:=gb747) (o:=.cells #[.slice A1_0 l1_0.length c1_0,.slice A1_1 l1_1.length c1_1] 29 (0,0)) (zk BK747) hg (Kd.R_ne HO_754001.out BK747.out (by decide)));replace BK748:=zA (blk_grown (g:=gb748) (o:=.cells #[.slice none 0 0,.slice none 0 0] 29 (0,0)) (zk BK748) hg (Kd.R_ne HO_754001.out BK748.out (by decide)));replace BK753:=zA (blk_grown (g:=gb753) (o:=.cells #[.slice Ao15 t749.length co15,u754001] 29 (0,0)) (zk BK753) hg (Kd.R_ne HO_754001.out BK753.out (by decide)));replace HB:=zA (hb);clear HO_754001;clear ho hb hg hat;obtain ⟨Ao45,co45,eo45⟩:=Kd.R_slice HO759.out;subst eo45;have hcz46_0:w44.cell? ⟨gb753,0,none⟩=some (.slice Ao15 t749.length co15):=(blk_cell BK753.out 0).trans rfl;have hcz46_1:w44.cell? ⟨gb753,1,none⟩=some (u754001):=(blk_cell BK753.out 1).trans rfl;have hfz46_0:=blk_frozen BK753.out 0;have hfz46_1:=blk_frozen BK753.out 1))
        go_roundg k1
        case measure=>have:=HK1.out;omega
        case rel=>exact ⟨(wrap64 (x9_1+1)),(y757),(.slice Ao45 y757.length co45),zT,H',⟨by have:=HK1.out;omega⟩,⟨by refine zr ?_;exact Kd.R_mono (Kd.R_far (p:=⟨gb753,1,none⟩) (Kd.R_types HO_6.out BK753.out (by decide)) (fun _ hk=>hk.2) (.slice Ao45 y757.length co45)) (fun _ hk=>hk.1.2)⟩,⟨by refine zr ?_;exact Kd.R_mono (Kd.R_far (p:=⟨gb753,1,none⟩) (Kd.R_types HO_754000.out BK753.out (by decide)) (fun _ hk=>hk.2) (.slice Ao45 y757.length co45)) (fun _ hk=>hk.1.2)⟩,⟨by refine zr ?_;exact Kd.R_mono (Kd.R_far (p:=⟨gb753,1,none⟩) (Kd.R_types HO759.out BK753.out (by decide)) (fun _ hk=>hk.2) (.slice Ao45 y757.length co45)) (fun _ hk=>⟨hk.1.1,hk.1.2⟩)⟩,⟨by refine zj ?_;refine blk_far ?_ NB746_753.out _;refine zj ?_;exact BK746.out⟩,⟨by refine zj ?_;refine blk_far ?_ NB747_753.out _;refine zj ?_;exact BK747.out⟩,⟨by refine zj ?_;refine blk_far ?_ NB748_753.out _;refine zj ?_;exact BK748.out⟩,⟨by refine zj ?_;refine blk_put (cs:=#[.slice Ao15 t749.length co15,u754001]) ?_ 1 _ rfl;refine zj ?_;exact BK753.out⟩,⟨by repeat (first|(with_reducible first|exact HB.out|apply below_alloc|apply pw_below_drewN|apply below_drew1|refine below_set ?_ GE746.out|refine below_set ?_ GE747.out|refine below_set ?_ GE748.out|refine below_set ?_ GE753.out)|exact HB.out)⟩⟩
       ·rw [if_neg c39] at H
        exact absurd H (by simp)
     ·replace c26:=Bool.eq_false_iff.mpr c26
      subst c26
      have H1:(ancepsref38_Minus.l0 k1 t749 (wrap64 (x9_1+1)) l0_0 l0_1 l1_0 l1_1 t749 x754001_1)=some (r1,r2,r3):=by rw [if_neg (show ¬ (false=true) by decide)] at H;exact H
      clear H
      have H:=H1
      clear H1
      have H':=zA H
      clear H
      have hnb47:=NB746_747.out
      have hnc47:=NB747_746.out
      have hnb48:=NB746_748.out
      have hnc48:=NB748_746.out
      have hnb49:=NB746_753.out
      have hnc49:=NB753_746.out
      have hcz50_0:wr.cell? ⟨gb746,0,none⟩=some (.slice A0_0 l0_0.length c0_0):=(blk_cell BK746.out 0).trans rfl
      have hcz50_1:wr.cell? ⟨gb746,1,none⟩=some (.slice A0_1 l0_1.length c0_1):=(blk_cell BK746.out 1).trans rfl
      have hfz50_0:=blk_frozen BK746.out 0
      have hfz50_1:=blk_frozen BK746.out 1
      go_wp2_with (first|((with_reducible refine gate_callee (f:=29) rfl ?_);refine goesL_ (some 35) rfl rfl Try.func29 zK rfl #[.agg #[.slice A0_0 l0_0.length c0_0,.slice A0_1 l0_1.length c0_1],.int .i64 t754] rfl zM ?_;(with_reducible refine (ancepsref38_Holds.calls k1 _ _ l0_0 _ _ l0_1 t754 false _ ?side1 ?side2 ?side3 ?side4 A25.out).mono ?_);(case side1=>exact zC (Kd.C_below HR0_0.out HB.out));(case side2=>exact HC0_0.out);(case side3=>exact zC (Kd.C_below HR0_1.out HB.out));(case side4=>exact HC0_1.out);rintro e w51 ⟨rfl,hb⟩;refine ⟨_,rfl,?_⟩;replace HO_6:=zA (Kd.R_below (zR HO_6) hb);replace HO_754000:=zA (Kd.R_below (zR HO_754000) hb);replace HO_754001:=zA (Kd.R_below (zR HO_754001) hb);replace BK746:=zA (zb BK746 hb);replace BK747:=zA (zb BK747 hb);replace BK748:=zA (zb BK748 hb);replace BK753:=zA (zb BK753 hb);replace HB:=zA (below_step zB hb);(try clear hb);(try clear hb2);(try clear hk);(try clear hi)))
      go_roundg k1
      case measure=>have:=HK1.out;omega
      case rel=>exact ⟨(wrap64 (x9_1+1)),(x754001_1),(u754001),zT,H',⟨by have:=HK1.out;omega⟩,⟨by refine zr ?_;exact HO_6.out⟩,⟨by refine zr ?_;exact HO_754000.out⟩,⟨by refine zr ?_;exact HO_754001.out⟩,⟨by refine zj ?_;exact BK746.out⟩,⟨by refine zj ?_;exact BK747.out⟩,⟨by refine zj ?_;exact BK748.out⟩,⟨by refine zj ?_;exact BK753.out⟩,⟨by repeat (first|(with_reducible first|exact HB.out|apply below_alloc|apply pw_below_drewN|apply below_drew1|refine below_set ?_ GE746.out|refine below_set ?_ GE747.out|refine below_set ?_ GE748.out|refine below_set ?_ GE753.out)|exact HB.out)⟩⟩
    ·rw [if_neg c22] at H
     have c22b0:decide (x9_1<(ji21))=false:=decide_eq_false c22
     clear c22
     simp only [Option.some.injEq,Prod.mk.injEq] at H
     obtain ⟨rfl,rfl,rfl⟩:=H
     have hnb52:=NB753_746.out
     have hnc52:=NB746_753.out
     have hnb53:=NB753_747.out
     have hnc53:=NB747_753.out
     have hnb54:=NB753_748.out
     have hnc54:=NB748_753.out
     have hcz55_0:wr.cell? ⟨gb753,0,none⟩=some (.slice Ao15 t749.length co15):=(blk_cell BK753.out 0).trans rfl
     have hcz55_1:wr.cell? ⟨gb753,1,none⟩=some (u754001):=(blk_cell BK753.out 1).trans rfl
     have hfz55_0:=blk_frozen BK753.out 0
     have hfz55_1:=blk_frozen BK753.out 1
     have hnb56:=NB748_746.out
     have hnc56:=NB746_748.out
     have hnb57:=NB748_747.out
     have hnc57:=NB747_748.out
     have hcz58_0:wr.cell? ⟨gb748,0,none⟩=some (.slice none 0 0):=(blk_cell BK748.out 0).trans rfl
     have hcz58_1:wr.cell? ⟨gb748,1,none⟩=some (.slice none 0 0):=(blk_cell BK748.out 1).trans rfl
     have hfz58_0:=blk_frozen BK748.out 0
     have hfz58_1:=blk_frozen BK748.out 1
     obtain ⟨Ao59,co59,eo59⟩:=Kd.R_slice HO_754001.out
     subst eo59
     go_wp2
     refine bodyPost_ret (results_ct rfl _ _ gb748 29 #[.slice Ao15 t749.length co15,.slice Ao59 x754001_1.length co59] (0,0) _ rfl (by refine zj ?_;refine blk_put (cs:=#[.slice Ao15 t749.length co15,.slice none 0 0]) ?_ 1 _ rfl;refine zj ?_;refine blk_put (cs:=#[.slice none 0 0,.slice none 0 0]) ?_ 0 _ rfl;refine zj ?_;exact BK748.out) Try.underlying29 rfl zK) rfl ?_
     exact ⟨_,_,by first|rfl|(simp [errW_none,errW_some] <;> rfl)|(simp only [← hji21];first|rfl|(simp [errW_none,errW_some] <;> rfl))|(simp [*,errW_none,errW_some] <;> rfl),by refine zr ?_;exact Kd.R_mono (Kd.R_far (p:=⟨gb748,1,none⟩) (Kd.R_far (p:=⟨gb748,0,none⟩) (Kd.R_types HO_754000.out BK748.out (by decide)) (fun _ hk=>hk.2) (.slice Ao15 t749.length co15)) (fun _ hk=>hk.2) (.slice Ao59 x754001_1.length co59)) (fun _ hk=>hk.1),by refine zr ?_;exact Kd.R_mono (Kd.R_far (p:=⟨gb748,1,none⟩) (Kd.R_far (p:=⟨gb748,0,none⟩) (Kd.R_types HO_754001.out BK748.out (by decide)) (fun _ hk=>hk.2) (.slice Ao15 t749.length co15)) (fun _ hk=>hk.2) (.slice Ao59 x754001_1.length co59)) (fun _ hk=>hk.1.2),by repeat (first|(with_reducible first|exact HB.out|apply below_alloc|apply pw_below_drewN|apply below_drew1|refine below_set ?_ GE746.out|refine below_set ?_ GE747.out|refine below_set ?_ GE748.out|refine below_set ?_ GE753.out)|exact HB.out)⟩
 ·rw [if_neg c14] at H
  have c14b0:(t752 == 0)=false:=beq_eq_false_iff_ne.mpr c14
  have c14b1:(t752 != 0)=true:=bne_iff_ne.mpr c14
  (first|rw [c14b0]|(simp only [i64_w,i32_w];rw [c14b0])|skip)
  (try rw [c14b1])
  simp only [Option.some.injEq,Prod.mk.injEq] at H
  obtain ⟨rfl,rfl,rfl⟩:=H
  have hnb60:=NB748_746.out
  have hnc60:=NB746_748.out
  have hnb61:=NB748_747.out
  have hnc61:=NB747_748.out
  have hcz62_0:w13.cell? ⟨gb748,0,none⟩=some (.slice none 0 0):=(blk_cell BK748.out 0).trans rfl
  have hcz62_1:w13.cell? ⟨gb748,1,none⟩=some (.slice none 0 0):=(blk_cell BK748.out 1).trans rfl
  have hfz62_0:=blk_frozen BK748.out 0
  have hfz62_1:=blk_frozen BK748.out 1
  go_wp2
  refine bodyPost_ret (results_ct rfl _ _ gb748 29 #[.slice none 0 0,.slice none 0 0] (0,0) _ rfl (by refine zj ?_;refine blk_put (cs:=#[.slice none 0 0,.slice none 0 0]) ?_ 1 _ rfl;refine zj ?_;refine blk_put (cs:=#[.slice none 0 0,.slice none 0 0]) ?_ 0 _ rfl;refine zj ?_;exact BK748.out) Try.underlying29 rfl zK) rfl ?_
  exact ⟨_,_,ze,by first|exact Kd.R_nil _ _ _ _ _|exact Kd.N_nil _ _ _ _ _|exact Kd.V_nil _ _ _ _ _|exact Kd.Q_nil _ _ _ _ _|exact Kd.S_nil _ _ _ _ _,by first|exact Kd.R_nil _ _ _ _ _|exact Kd.N_nil _ _ _ _ _|exact Kd.V_nil _ _ _ _ _|exact Kd.Q_nil _ _ _ _ _|exact Kd.S_nil _ _ _ _ _,by repeat (first|(with_reducible first|exact HB.out|apply below_alloc|apply pw_below_drewN|apply below_drew1|refine below_set ?_ GE746.out|refine below_set ?_ GE747.out|refine below_set ?_ GE748.out)|exact HB.out)⟩
end Go.Proofs.Ythcfmdkhkikbcaa.T
