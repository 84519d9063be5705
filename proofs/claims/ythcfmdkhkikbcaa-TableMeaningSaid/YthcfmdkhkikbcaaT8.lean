import Derived.Test.YthcfmdkhkikbcaaT0
import Derived.Test.YthcfmdkhkikbcaaT1
namespace Go.Proofs.Ythcfmdkhkikbcaa.T
open Go.RowKit Go.Proofs.YthcfmdkhkikbcaaW.PrintWords Go.Proofs.YthcfmdkhkikbcaaW.PrintLast Go.Proofs.YthcfmdkhkikbcaaW.PrintMore
attribute [local go_sem] max2_int min2_int max_two min_two max_three min_three max_four min_four
set_option linter.unusedVariables false
set_option linter.unusedSimpArgs false
def table_Has.f (k:Nat) (l0_0:List Int) (l0_1:List Int) (a1:Int):Option (Bool×Int):=(table_Valid.f k l0_0 l0_1).bind fun t429=>(if t429=0 then (if a1<0 then (some (false,6)) else (if a1≥16777216 then (some (false,6)) else ((table_has.f k l0_0 l0_1 a1).bind fun t430=>(some (t430,0))))) else (some (false,t429)))
theorem table_Has.mono:∀ a0 a1 a2 k,LeO (table_Has.f k a0 a1 a2) (table_Has.f (k+1) a0 a1 a2):=by
 intro a0 a1 a2 k
 unfold table_Has.f
 repeat' first
   | (with_reducible exact table_Valid.mono _ _ _)
   | (with_reducible exact table_has.mono _ _ _ _)
   | (with_reducible exact LeO.refl _)
   | (with_reducible exact LeO.none _)
   | (with_reducible refine LeO.ite ?_ ?_)
   | (with_reducible refine LeO.bind ?_ (fun _=>?_))
   | exact LeO.none _
   | refine LeO.ite ?_ ?_
   | refine LeO.bind ?_ (fun _=>?_)
set_option maxHeartbeats 8000000 in
set_option maxRecDepth 100000 in
theorem table_Has.calls (k:Nat) (A0_0:Option Addr) (c0_0:Nat) (l0_0:List Int) (A0_1:Option Addr) (c0_1:Nat) (l0_1:List Int) (a1:Int) (r1:Bool) (r2:Int) (w:World) (hr0_0:Kd.C (Kd.int .i64) w A0_0 l0_0.length l0_0) (hc0_0:l0_0.length≤c0_0) (hr0_1:Kd.C (Kd.int .i64) w A0_1 l0_1.length l0_1) (hc0_1:l0_1.length≤c0_1) (h:table_Has.f k l0_0 l0_1 a1=some (r1,r2)) :
  Calls Try.prog 20 #[.agg #[.slice A0_0 l0_0.length c0_0,.slice A0_1 l0_1.length c0_1],.int .i64 a1] w fun e w'=>e=.returned (.tuple #[.bool r1,.int .i64 r2])∧Below w.heap.size w w':=by
 have hu29:=Try.underlying29
 have HR0_0:=zA hr0_0
 have HC0_0:=zA hc0_0
 clear hr0_0 hc0_0
 have HR0_1:=zA hr0_1
 have HC0_1:=zA hc0_1
 clear hr0_1 hc0_1
 have HB:=zA (Below.refl w.heap.size w)
 have H:((table_Valid.f k l0_0 l0_1).bind fun t429=>(if t429=0 then (if a1<0 then (some (false,6)) else (if a1≥16777216 then (some (false,6)) else ((table_has.f k l0_0 l0_1 a1).bind fun t430=>(some (t430,0))))) else (some (false,t429))))=some (r1,r2):=h
 clear h
 replace H:=Option.bind_eq_some_iff.mp H
 obtain ⟨t429,A30,H⟩:=H
 replace H:(if t429=0 then (if a1<0 then (some (false,6)) else (if a1≥16777216 then (some (false,6)) else ((table_has.f k l0_0 l0_1 a1).bind fun t430=>(some (t430,0))))) else (some (false,t429)))=some (r1,r2):=H
 have A3:=zA A30
 clear A30
 have HC4:=zA H
 clear H
 go_enter Try.func20,Try.ntmps20
 go_upto_if 10 with (first|((with_reducible refine gate_dst (N:=2) rfl ?_);refine box_event ?hg (N:=2) ?hd (cs:=#[.slice A0_0 l0_0.length c0_0,.slice A0_1 l0_1.length c0_1]) (t:=29) ?hr ?_;(case hd=>rfl);(case hg=>rfl);(case hr=>first|(go_simp;done)|(go_simp;rfl));intro gb428 hg w5 hbox hb;have BK428:=zA (hbox);have GW428:=zA (zG hg (below_size zB):w.heap.size≤gb428);have GE428:=GW428;replace HB:=zA (below_step zB hb);clear hb hbox hg;have hcz6_0:w5.cell? ⟨gb428,0,none⟩=some (.slice A0_0 l0_0.length c0_0):=(blk_cell BK428.out 0).trans rfl;have hcz6_1:w5.cell? ⟨gb428,1,none⟩=some (.slice A0_1 l0_1.length c0_1):=(blk_cell BK428.out 1).trans rfl;have hfz6_0:=blk_frozen BK428.out 0;have hfz6_1:=blk_frozen BK428.out 1)|((with_reducible refine gate_callee (f:=25) rfl ?_);refine goesL_ (some 8) rfl rfl Try.func25 zK rfl #[.agg #[.slice A0_0 l0_0.length c0_0,.slice A0_1 l0_1.length c0_1]] rfl zM ?_;(with_reducible refine (table_Valid.calls k _ _ l0_0 _ _ l0_1 t429 _ ?side1 ?side2 ?side3 ?side4 A3.out).mono ?_);(case side1=>exact zC (Kd.C_below HR0_0.out HB.out));(case side2=>exact HC0_0.out);(case side3=>exact zC (Kd.C_below HR0_1.out HB.out));(case side4=>exact HC0_1.out);rintro e w7 ⟨rfl,hb⟩;refine ⟨_,rfl,?_⟩;replace BK428:=zA (zb BK428 hb);replace HB:=zA (below_step zB hb);(try clear hb);(try clear hb2);(try clear hk);(try clear hi)))
 (try simp only [Act.put,zi,zs,zt])
 have H:=HC4.out
 clear HC4
 by_cases c8:t429=0
 ·rw [if_pos c8] at H
  have c8b0:(t429 == 0)=true:=beq_iff_eq.mpr c8
  have c8b1:(t429 != 0)=false:=bne_eq_false_iff_eq.mpr c8
  clear c8
  (first|rw [c8b0]|(simp only [i64_w,i32_w];rw [c8b0])|skip)
  (try rw [c8b1])
  by_cases c9:a1<0
  ·rw [if_pos c9] at H
   have c9b0:decide (a1<0)=true:=decide_eq_true c9
   clear c9
   simp only [Option.some.injEq,Prod.mk.injEq] at H
   obtain ⟨rfl,rfl⟩:=H
   go_wp2
   go_ret2
   exact ⟨ze,by repeat (first|(with_reducible first|exact HB.out|apply below_alloc|apply pw_below_drewN|apply below_drew1|refine below_set ?_ GE428.out)|exact HB.out)⟩
  ·rw [if_neg c9] at H
   have c9b0:decide (a1<0)=false:=decide_eq_false c9
   clear c9
   by_cases c10:a1≥16777216
   ·rw [if_pos c10] at H
    have c10b0:decide (16777216≤a1)=true:=decide_eq_true c10
    clear c10
    simp only [Option.some.injEq,Prod.mk.injEq] at H
    obtain ⟨rfl,rfl⟩:=H
    go_wp2
    go_ret2
    exact ⟨ze,by repeat (first|(with_reducible first|exact HB.out|apply below_alloc|apply pw_below_drewN|apply below_drew1|refine below_set ?_ GE428.out)|exact HB.out)⟩
   ·rw [if_neg c10] at H
    have c10b0:decide (16777216≤a1)=false:=decide_eq_false c10
    clear c10
    replace H:=Option.bind_eq_some_iff.mp H
    obtain ⟨t430,A110,H⟩:=H
    replace H:(some (t430,0))=some (r1,r2):=H
    have A11:=zA A110
    clear A110
    simp only [Option.some.injEq,Prod.mk.injEq] at H
    obtain ⟨rfl,rfl⟩:=H
    have hcz12_0:w7.cell? ⟨gb428,0,none⟩=some (.slice A0_0 l0_0.length c0_0):=(blk_cell BK428.out 0).trans rfl
    have hcz12_1:w7.cell? ⟨gb428,1,none⟩=some (.slice A0_1 l0_1.length c0_1):=(blk_cell BK428.out 1).trans rfl
    have hfz12_0:=blk_frozen BK428.out 0
    have hfz12_1:=blk_frozen BK428.out 1
    go_wp2_with (first|((with_reducible refine gate_callee (f:=50) rfl ?_);refine goesL_ (some 20) rfl rfl Try.func50 zK rfl #[.agg #[.slice A0_0 l0_0.length c0_0,.slice A0_1 l0_1.length c0_1],.int .i64 a1] rfl zM ?_;(with_reducible refine (table_has.calls k _ _ l0_0 _ _ l0_1 a1 t430 _ ?side1 ?side2 ?side3 ?side4 A11.out).mono ?_);(case side1=>exact zC (Kd.C_below HR0_0.out HB.out));(case side2=>exact HC0_0.out);(case side3=>exact zC (Kd.C_below HR0_1.out HB.out));(case side4=>exact HC0_1.out);rintro e w13 ⟨rfl,hb⟩;refine ⟨_,rfl,?_⟩;replace BK428:=zA (zb BK428 hb);replace HB:=zA (below_step zB hb);(try clear hb);(try clear hb2);(try clear hk);(try clear hi)))
    go_ret2
    exact ⟨ze,by repeat (first|(with_reducible first|exact HB.out|apply below_alloc|apply pw_below_drewN|apply below_drew1|refine below_set ?_ GE428.out)|exact HB.out)⟩
 ·rw [if_neg c8] at H
  have c8b0:(t429 == 0)=false:=beq_eq_false_iff_ne.mpr c8
  have c8b1:(t429 != 0)=true:=bne_iff_ne.mpr c8
  (first|rw [c8b0]|(simp only [i64_w,i32_w];rw [c8b0])|skip)
  (try rw [c8b1])
  simp only [Option.some.injEq,Prod.mk.injEq] at H
  obtain ⟨rfl,rfl⟩:=H
  go_wp2
  go_ret2
  exact ⟨ze,by repeat (first|(with_reducible first|exact HB.out|apply below_alloc|apply pw_below_drewN|apply below_drew1|refine below_set ?_ GE428.out)|exact HB.out)⟩
end Go.Proofs.Ythcfmdkhkikbcaa.T
