import Derived.Test.YthcfmdkhkikbcaaT0
import Derived.Test.YthcfmdkhkikbcaaT6
namespace Go.Proofs.Ythcfmdkhkikbcaa.T
open Go.RowKit Go.Proofs.YthcfmdkhkikbcaaW.PrintWords Go.Proofs.YthcfmdkhkikbcaaW.PrintLast Go.Proofs.YthcfmdkhkikbcaaW.PrintMore
attribute [local go_sem] max2_int min2_int max_two min_two max_three min_three max_four min_four
set_option linter.unusedVariables false
set_option linter.unusedSimpArgs false
def ancepsref38_Holds.f (k:Nat) (l0_0:List Int) (l0_1:List Int) (a1:Int):Option (Bool):=(ancepsref38_Row.f k l0_0 a1).bind fun t452=>((ancepsref38_in.f k l0_1 t452).bind fun t453=>(some t453))
theorem ancepsref38_Holds.mono:∀ a0 a1 a2 k,LeO (ancepsref38_Holds.f k a0 a1 a2) (ancepsref38_Holds.f (k+1) a0 a1 a2):=by
 intro a0 a1 a2 k
 unfold ancepsref38_Holds.f
 repeat' first
   | (with_reducible exact ancepsref38_Row.mono _ _ _)
   | (with_reducible exact ancepsref38_in.mono _ _ _)
   | (with_reducible exact LeO.refl _)
   | (with_reducible exact LeO.none _)
   | (with_reducible refine LeO.ite ?_ ?_)
   | (with_reducible refine LeO.bind ?_ (fun _=>?_))
   | exact LeO.none _
   | refine LeO.ite ?_ ?_
   | refine LeO.bind ?_ (fun _=>?_)
set_option maxHeartbeats 8000000 in
set_option maxRecDepth 100000 in
theorem ancepsref38_Holds.calls (k:Nat) (A0_0:Option Addr) (c0_0:Nat) (l0_0:List Int) (A0_1:Option Addr) (c0_1:Nat) (l0_1:List Int) (a1:Int) (r:Bool) (w:World) (hr0_0:Kd.C (Kd.int .i64) w A0_0 l0_0.length l0_0) (hc0_0:l0_0.length≤c0_0) (hr0_1:Kd.C (Kd.int .i64) w A0_1 l0_1.length l0_1) (hc0_1:l0_1.length≤c0_1) (h:ancepsref38_Holds.f k l0_0 l0_1 a1=some r) :
  Calls Try.prog 29 #[.agg #[.slice A0_0 l0_0.length c0_0,.slice A0_1 l0_1.length c0_1],.int .i64 a1] w fun e w'=>e=.returned (.bool r)∧Below w.heap.size w w':=by
 have hu29:=Try.underlying29
 have hu27:=Try.underlying27
 have HR0_0:=zA hr0_0
 have HC0_0:=zA hc0_0
 clear hr0_0 hc0_0
 have HR0_1:=zA hr0_1
 have HC0_1:=zA hc0_1
 clear hr0_1 hc0_1
 have HB:=zA (Below.refl w.heap.size w)
 have H:((ancepsref38_Row.f k l0_0 a1).bind fun t452=>((ancepsref38_in.f k l0_1 t452).bind fun t453=>(some t453)))=some r:=h
 clear h
 replace H:=Option.bind_eq_some_iff.mp H
 obtain ⟨t452,A30,H⟩:=H
 replace H:((ancepsref38_in.f k l0_1 t452).bind fun t453=>(some t453))=some r:=H
 have A3:=zA A30
 clear A30
 replace H:=Option.bind_eq_some_iff.mp H
 obtain ⟨t453,A40,H⟩:=H
 replace H:(some t453)=some r:=H
 have A4:=zA A40
 clear A40
 obtain rfl:=Option.some.inj H
 go_enter Try.func29,Try.ntmps29
 go_wp2_with (first|((with_reducible refine gate_dst (N:=2) rfl ?_);refine box_event ?hg (N:=2) ?hd (cs:=#[.slice A0_0 l0_0.length c0_0,.slice A0_1 l0_1.length c0_1]) (t:=29) ?hr ?_;(case hd=>rfl);(case hg=>rfl);(case hr=>first|(go_simp;done)|(go_simp;rfl));intro gb451 hg w5 hbox hb;have BK451:=zA (hbox);have GW451:=zA (zG hg (below_size zB):w.heap.size≤gb451);have GE451:=GW451;replace HB:=zA (below_step zB hb);clear hb hbox hg;have hcz6_0:w5.cell? ⟨gb451,0,none⟩=some (.slice A0_0 l0_0.length c0_0):=(blk_cell BK451.out 0).trans rfl;have hcz6_1:w5.cell? ⟨gb451,1,none⟩=some (.slice A0_1 l0_1.length c0_1):=(blk_cell BK451.out 1).trans rfl;have hfz6_0:=blk_frozen BK451.out 0;have hfz6_1:=blk_frozen BK451.out 1)|(go_at_call 56;(with_reducible refine (ancepsref38_Row.calls k _ _ l0_0 a1 t452 _ ?side1 ?side2 A3.out).mono ?_);(case side1=>exact zC (Kd.C_below HR0_0.out HB.out));(case side2=>exact HC0_0.out);rintro e w' ⟨rfl,⟨nd,rfl⟩⟩;(try first|exact ⟨rfl,_,World.drewN_drewN _ _ _⟩|exact ⟨rfl,_,Eq.trans (World.drewN_drewN _ _ _) (congrArg (World.drewN _) (Nat.add_assoc _ _ _))⟩))|(go_at_call 45;(with_reducible refine (ancepsref38_in.calls k _ _ l0_1 t452 t453 _ ?side1 ?side2 A4.out).mono ?_);(case side1=>repeat (first|exact (Kd.C_below HR0_1.out zB)|(with_reducible refine Kd.C_alloc ?_ _)|(with_reducible refine Kd.C_drewN ?_ _)|(with_reducible refine Kd.C_drew ?_)));(case side2=>exact HC0_1.out);rintro e w' ⟨rfl,⟨nd,rfl⟩⟩;(try first|exact ⟨rfl,_,World.drewN_drewN _ _ _⟩|exact ⟨rfl,_,Eq.trans (World.drewN_drewN _ _ _) (congrArg (World.drewN _) (Nat.add_assoc _ _ _))⟩)))
 repeat (go_quiet (first|((with_reducible refine gate_dst (N:=2) rfl ?_);refine box_event ?hg (N:=2) ?hd (cs:=#[.slice A0_0 l0_0.length c0_0,.slice A0_1 l0_1.length c0_1]) (t:=29) ?hr ?_;(case hd=>rfl);(case hg=>rfl);(case hr=>first|(go_simp;done)|(go_simp;rfl));intro gb451 hg w5 hbox hb;have BK451:=zA (hbox);have GW451:=zA (zG hg (below_size zB):w.heap.size≤gb451);have GE451:=GW451;replace HB:=zA (below_step zB hb);clear hb hbox hg;have hcz6_0:w5.cell? ⟨gb451,0,none⟩=some (.slice A0_0 l0_0.length c0_0):=(blk_cell BK451.out 0).trans rfl;have hcz6_1:w5.cell? ⟨gb451,1,none⟩=some (.slice A0_1 l0_1.length c0_1):=(blk_cell BK451.out 1).trans rfl;have hfz6_0:=blk_frozen BK451.out 0;have hfz6_1:=blk_frozen BK451.out 1)|(go_at_call 56;(with_reducible refine (ancepsref38_Row.calls k _ _ l0_0 a1 t452 _ ?side1 ?side2 A3.out).mono ?_);(case side1=>exact zC (Kd.C_below HR0_0.out HB.out));(case side2=>exact HC0_0.out);rintro e w' ⟨rfl,⟨nd,rfl⟩⟩;(try first|exact ⟨rfl,_,World.drewN_drewN _ _ _⟩|exact ⟨rfl,_,Eq.trans (World.drewN_drewN _ _ _) (congrArg (World.drewN _) (Nat.add_assoc _ _ _))⟩))|(go_at_call 45;(with_reducible refine (ancepsref38_in.calls k _ _ l0_1 t452 t453 _ ?side1 ?side2 A4.out).mono ?_);(case side1=>repeat (first|exact (Kd.C_below HR0_1.out zB)|(with_reducible refine Kd.C_alloc ?_ _)|(with_reducible refine Kd.C_drewN ?_ _)|(with_reducible refine Kd.C_drew ?_)));(case side2=>exact HC0_1.out);rintro e w' ⟨rfl,⟨nd,rfl⟩⟩;(try first|exact ⟨rfl,_,World.drewN_drewN _ _ _⟩|exact ⟨rfl,_,Eq.trans (World.drewN_drewN _ _ _) (congrArg (World.drewN _) (Nat.add_assoc _ _ _))⟩)));try go_wp2_with (first|((with_reducible refine gate_dst (N:=2) rfl ?_);refine box_event ?hg (N:=2) ?hd (cs:=#[.slice A0_0 l0_0.length c0_0,.slice A0_1 l0_1.length c0_1]) (t:=29) ?hr ?_;(case hd=>rfl);(case hg=>rfl);(case hr=>first|(go_simp;done)|(go_simp;rfl));intro gb451 hg w5 hbox hb;have BK451:=zA (hbox);have GW451:=zA (zG hg (below_size zB):w.heap.size≤gb451);have GE451:=GW451;replace HB:=zA (below_step zB hb);clear hb hbox hg;have hcz6_0:w5.cell? ⟨gb451,0,none⟩=some (.slice A0_0 l0_0.length c0_0):=(blk_cell BK451.out 0).trans rfl;have hcz6_1:w5.cell? ⟨gb451,1,none⟩=some (.slice A0_1 l0_1.length c0_1):=(blk_cell BK451.out 1).trans rfl;have hfz6_0:=blk_frozen BK451.out 0;have hfz6_1:=blk_frozen BK451.out 1)|(go_at_call 56;(with_reducible refine (ancepsref38_Row.calls k _ _ l0_0 a1 t452 _ ?side1 ?side2 A3.out).mono ?_);(case side1=>exact zC (Kd.C_below HR0_0.out HB.out));(case side2=>exact HC0_0.out);rintro e w' ⟨rfl,⟨nd,rfl⟩⟩;(try first|exact ⟨rfl,_,World.drewN_drewN _ _ _⟩|exact ⟨rfl,_,Eq.trans (World.drewN_drewN _ _ _) (congrArg (World.drewN _) (Nat.add_assoc _ _ _))⟩))|(go_at_call 45;(with_reducible refine (ancepsref38_in.calls k _ _ l0_1 t452 t453 _ ?side1 ?side2 A4.out).mono ?_);(case side1=>repeat (first|exact (Kd.C_below HR0_1.out zB)|(with_reducible refine Kd.C_alloc ?_ _)|(with_reducible refine Kd.C_drewN ?_ _)|(with_reducible refine Kd.C_drew ?_)));(case side2=>exact HC0_1.out);rintro e w' ⟨rfl,⟨nd,rfl⟩⟩;(try first|exact ⟨rfl,_,World.drewN_drewN _ _ _⟩|exact ⟨rfl,_,Eq.trans (World.drewN_drewN _ _ _) (congrArg (World.drewN _) (Nat.add_assoc _ _ _))⟩))))
 go_ret
 exact ⟨ze,by repeat (first|(with_reducible first|exact HB.out|apply below_alloc|apply pw_below_drewN|apply below_drew1|refine below_set ?_ GE451.out)|exact HB.out)⟩
end Go.Proofs.Ythcfmdkhkikbcaa.T
