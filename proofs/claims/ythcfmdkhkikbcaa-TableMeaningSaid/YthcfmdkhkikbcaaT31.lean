import Derived.Test.YthcfmdkhkikbcaaT0
import Derived.Test.YthcfmdkhkikbcaaT8
namespace Go.Proofs.Ythcfmdkhkikbcaa.T
open Go.RowKit Go.Proofs.YthcfmdkhkikbcaaW.PrintWords Go.Proofs.YthcfmdkhkikbcaaW.PrintLast Go.Proofs.YthcfmdkhkikbcaaW.PrintMore
attribute [local go_sem] max2_int min2_int max_two min_two max_three min_three max_four min_four
set_option linter.unusedVariables false
set_option linter.unusedSimpArgs false
def ancepslaw38_TableMeaning_1_v1.f (k:Nat) (l0_0:List Int) (l0_1:List Int) (a1_0:Int):Option (Bool):=(table_Has.f k l0_0 l0_1 a1_0).bind fun bt1043=>(if bt1043.2=0 then (some bt1043.1) else (some false))
theorem ancepslaw38_TableMeaning_1_v1.mono:∀ a0 a1 a2 k,LeO (ancepslaw38_TableMeaning_1_v1.f k a0 a1 a2) (ancepslaw38_TableMeaning_1_v1.f (k+1) a0 a1 a2):=by
 intro a0 a1 a2 k
 unfold ancepslaw38_TableMeaning_1_v1.f
 repeat' first
   | (with_reducible exact table_Has.mono _ _ _ _)
   | (with_reducible exact LeO.refl _)
   | (with_reducible exact LeO.none _)
   | (with_reducible refine LeO.ite ?_ ?_)
   | (with_reducible refine LeO.bind ?_ (fun _=>?_))
   | exact LeO.none _
   | refine LeO.ite ?_ ?_
   | refine LeO.bind ?_ (fun _=>?_)
set_option maxHeartbeats 8000000 in
set_option maxRecDepth 100000 in
theorem ancepslaw38_TableMeaning_1_v1.calls (k:Nat) (A0_0:Option Addr) (c0_0:Nat) (l0_0:List Int) (A0_1:Option Addr) (c0_1:Nat) (l0_1:List Int) (gp1_0:Nat) (a1_0:Int) (r:Bool) (w:World) (hr0_0:Kd.C (Kd.int .i64) w A0_0 l0_0.length l0_0) (hc0_0:l0_0.length≤c0_0) (hr0_1:Kd.C (Kd.int .i64) w A0_1 l0_1.length l0_1) (hc0_1:l0_1.length≤c0_1) (hb_gp1_0:w.heap[gp1_0]?=some (.cells #[.int .i64 a1_0] 3 (0,0))) (h:ancepslaw38_TableMeaning_1_v1.f k l0_0 l0_1 a1_0=some r) :
  Calls Try.prog 28 #[.agg #[.slice A0_0 l0_0.length c0_0,.slice A0_1 l0_1.length c0_1],.pointer (some ⟨gp1_0,0,none⟩)] w fun e w'=>e=.returned (.bool r)∧Below w.heap.size w w':=by
 have hu29:=Try.underlying29
 have hu3:=Try.underlying3
 have HR0_0:=zA hr0_0
 have HC0_0:=zA hc0_0
 clear hr0_0 hc0_0
 have HR0_1:=zA hr0_1
 have HC0_1:=zA hc0_1
 clear hr0_1 hc0_1
 have BK1041:=zA hb_gp1_0
 clear hb_gp1_0
 have HB:=zA (Below.refl w.heap.size w)
 have H:((table_Has.f k l0_0 l0_1 a1_0).bind fun bt1043=>(if bt1043.2=0 then (some bt1043.1) else (some false)))=some r:=h
 clear h
 replace H:=Option.bind_eq_some_iff.mp H
 obtain ⟨⟨t1043,t1044⟩,A30,H⟩:=H
 replace H:(if t1044=0 then (some t1043) else (some false))=some r:=H
 have A3:=zA A30
 clear A30
 have HC4:=zA H
 clear H
 go_enter Try.func28,Try.ntmps28
 go_upto_region 2 with (first|((with_reducible refine gate_dst (N:=2) rfl ?_);refine box_event ?hg (N:=2) ?hd (cs:=#[.slice A0_0 l0_0.length c0_0,.slice A0_1 l0_1.length c0_1]) (t:=29) ?hr ?_;(case hd=>rfl);(case hg=>rfl);(case hr=>first|(go_simp;done)|(go_simp;rfl));intro gb1042 hg w5 hbox hb;have BK1042:=zA (hbox);have GW1042:=zA (zG hg (below_size zB):w.heap.size≤gb1042);have GE1042:=GW1042;have NB1041_1042:=zA ((zl hg (zk BK1041):gp1_0≠gb1042));have NB1042_1041:=zA ((zg hg (zk BK1041):gb1042≠gp1_0));replace BK1041:=zA (zb BK1041 hb);replace HB:=zA (below_step zB hb);clear hb hbox hg;have hnb6:=NB1042_1041.out;have hnc6:=NB1041_1042.out;have hcz7_0:w5.cell? ⟨gb1042,0,none⟩=some (.slice A0_0 l0_0.length c0_0):=(blk_cell BK1042.out 0).trans rfl;have hcz7_1:w5.cell? ⟨gb1042,1,none⟩=some (.slice A0_1 l0_1.length c0_1):=(blk_cell BK1042.out 1).trans rfl;have hfz7_0:=blk_frozen BK1042.out 0;have hfz7_1:=blk_frozen BK1042.out 1;have hcz8_0:w5.cell? ⟨gp1_0,0,none⟩=some (.int .i64 a1_0):=(blk_cell BK1041.out 0).trans rfl;have hfz8_0:=blk_frozen BK1041.out 0)|((with_reducible refine gate_callee (f:=20) rfl ?_);refine goesL_ (some 9) rfl rfl Try.func20 zK rfl #[.agg #[.slice A0_0 l0_0.length c0_0,.slice A0_1 l0_1.length c0_1],.int .i64 a1_0] rfl zM ?_;(with_reducible refine (table_Has.calls k _ _ l0_0 _ _ l0_1 a1_0 t1043 t1044 _ ?side1 ?side2 ?side3 ?side4 A3.out).mono ?_);(case side1=>exact zC (Kd.C_below HR0_0.out HB.out));(case side2=>exact HC0_0.out);(case side3=>exact zC (Kd.C_below HR0_1.out HB.out));(case side4=>exact HC0_1.out);rintro e w9 ⟨rfl,hb⟩;refine ⟨_,rfl,?_⟩;replace BK1041:=zA (zb BK1041 hb);replace BK1042:=zA (zb BK1042 hb);replace HB:=zA (below_step zB hb);(try clear hb);(try clear hb2);(try clear hk);(try clear hi)))
 (try simp only [Act.put,zi,zs,zt])
 have H:=HC4.out
 clear HC4
 by_cases c10:t1044=0
 ·rw [if_pos c10] at H
  have c10b0:(t1044 == 0)=true:=beq_iff_eq.mpr c10
  have c10b1:(t1044 != 0)=false:=bne_eq_false_iff_eq.mpr c10
  clear c10
  (first|rw [c10b0]|(simp only [i64_w,i32_w];rw [c10b0])|skip)
  (try rw [c10b1])
  obtain rfl:=Option.some.inj H
  go_wp2
  go_ret
  exact ⟨ze,by repeat (first|(with_reducible first|exact HB.out|apply below_alloc|apply pw_below_drewN|apply below_drew1|refine below_set ?_ GE1041.out|refine below_set ?_ GE1042.out)|exact HB.out)⟩
 ·rw [if_neg c10] at H
  have c10b0:(t1044 == 0)=false:=beq_eq_false_iff_ne.mpr c10
  have c10b1:(t1044 != 0)=true:=bne_iff_ne.mpr c10
  (first|rw [c10b0]|(simp only [i64_w,i32_w];rw [c10b0])|skip)
  (try rw [c10b1])
  obtain rfl:=Option.some.inj H
  go_wp2
  go_ret
  exact ⟨ze,by repeat (first|(with_reducible first|exact HB.out|apply below_alloc|apply pw_below_drewN|apply below_drew1|refine below_set ?_ GE1041.out|refine below_set ?_ GE1042.out)|exact HB.out)⟩
end Go.Proofs.Ythcfmdkhkikbcaa.T
