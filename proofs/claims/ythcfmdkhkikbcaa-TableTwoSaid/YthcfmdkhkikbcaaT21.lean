import Derived.Test.YthcfmdkhkikbcaaT0
import Derived.Test.YthcfmdkhkikbcaaT9
import Derived.Test.YthcfmdkhkikbcaaT10
import Derived.Test.YthcfmdkhkikbcaaT20
namespace Go.Proofs.Ythcfmdkhkikbcaa.T
open Go.RowKit Go.Proofs.YthcfmdkhkikbcaaW.PrintWords Go.Proofs.YthcfmdkhkikbcaaW.PrintLast Go.Proofs.YthcfmdkhkikbcaaW.PrintMore
attribute [local go_sem] max2_int min2_int max_two min_two max_three min_three max_four min_four
set_option linter.unusedVariables false
set_option linter.unusedSimpArgs false
def ancepsref38_two.f (k:Nat) (l0_0:List Int) (l0_1:List Int) (l1_0:List Int) (l1_1:List Int):Option (List Int×Int):=(ancepsref38_Valid.f k l0_0 l0_1).bind fun t710=>(if t710=0 then ((ancepsref38_Valid.f k l1_0 l1_1).bind fun t711=>(if t711=0 then ((ancepsref38_Both.f k l0_0 l1_0).bind fun t712=>(if (t712.length:Int)>10 then (some (([]:List Int),3)) else (some (t712,0)))) else (some (([]:List Int),t711)))) else (some (([]:List Int),t710)))
theorem ancepsref38_two.mono:∀ a0 a1 a2 a3 k,LeO (ancepsref38_two.f k a0 a1 a2 a3) (ancepsref38_two.f (k+1) a0 a1 a2 a3):=by
 intro a0 a1 a2 a3 k
 unfold ancepsref38_two.f
 repeat' first
   | (with_reducible exact ancepsref38_Both.mono _ _ _)
   | (with_reducible exact ancepsref38_Valid.mono _ _ _)
   | (with_reducible exact LeO.refl _)
   | (with_reducible exact LeO.none _)
   | (with_reducible refine LeO.ite ?_ ?_)
   | (with_reducible refine LeO.bind ?_ (fun _=>?_))
   | exact LeO.none _
   | refine LeO.ite ?_ ?_
   | refine LeO.bind ?_ (fun _=>?_)
set_option maxHeartbeats 8000000 in
set_option maxRecDepth 100000 in
theorem ancepsref38_two.calls (k:Nat) (A0_0:Option Addr) (c0_0:Nat) (l0_0:List Int) (A0_1:Option Addr) (c0_1:Nat) (l0_1:List Int) (A1_0:Option Addr) (c1_0:Nat) (l1_0:List Int) (A1_1:Option Addr) (c1_1:Nat) (l1_1:List Int) (r1:List Int) (r2:Int) (w:World) (hr0_0:Kd.C (Kd.int .i64) w A0_0 l0_0.length l0_0) (hc0_0:l0_0.length≤c0_0) (hr0_1:Kd.C (Kd.int .i64) w A0_1 l0_1.length l0_1) (hc0_1:l0_1.length≤c0_1) (hr1_0:Kd.C (Kd.int .i64) w A1_0 l1_0.length l1_0) (hc1_0:l1_0.length≤c1_0) (hr1_1:Kd.C (Kd.int .i64) w A1_1 l1_1.length l1_1) (hc1_1:l1_1.length≤c1_1) (h:ancepsref38_two.f k l0_0 l0_1 l1_0 l1_1=some (r1,r2)) :
  Calls Try.prog 57 #[.agg #[.slice A0_0 l0_0.length c0_0,.slice A0_1 l0_1.length c0_1],.agg #[.slice A1_0 l1_0.length c1_0,.slice A1_1 l1_1.length c1_1]] w fun e w'=>∃ v0_:Value,e=.returned (.tuple #[v0_,.int .i64 r2])∧Kd.R (Kd.int .i64) 3 w' w.heap.size (fun _=>True) v0_ r1∧Below w.heap.size w w':=by
 have hu29:=Try.underlying29
 have hu27:=Try.underlying27
 have HR0_0:=zA hr0_0
 have HC0_0:=zA hc0_0
 clear hr0_0 hc0_0
 have HR0_1:=zA hr0_1
 have HC0_1:=zA hc0_1
 clear hr0_1 hc0_1
 have HR1_0:=zA hr1_0
 have HC1_0:=zA hc1_0
 clear hr1_0 hc1_0
 have HR1_1:=zA hr1_1
 have HC1_1:=zA hc1_1
 clear hr1_1 hc1_1
 have HB:=zA (Below.refl w.heap.size w)
 have H:((ancepsref38_Valid.f k l0_0 l0_1).bind fun t710=>(if t710=0 then ((ancepsref38_Valid.f k l1_0 l1_1).bind fun t711=>(if t711=0 then ((ancepsref38_Both.f k l0_0 l1_0).bind fun t712=>(if (t712.length:Int)>10 then (some (([]:List Int),3)) else (some (t712,0)))) else (some (([]:List Int),t711)))) else (some (([]:List Int),t710))))=some (r1,r2):=h
 clear h
 replace H:=Option.bind_eq_some_iff.mp H
 obtain ⟨t710,A30,H⟩:=H
 replace H:(if t710=0 then ((ancepsref38_Valid.f k l1_0 l1_1).bind fun t711=>(if t711=0 then ((ancepsref38_Both.f k l0_0 l1_0).bind fun t712=>(if (t712.length:Int)>10 then (some (([]:List Int),3)) else (some (t712,0)))) else (some (([]:List Int),t711)))) else (some (([]:List Int),t710)))=some (r1,r2):=H
 have A3:=zA A30
 clear A30
 have HC4:=zA H
 clear H
 go_enter Try.func57,Try.ntmps57
 go_upto_if 12 with (first|((with_reducible refine gate_dst (N:=2) rfl ?_);refine box_event ?hg (N:=2) ?hd (cs:=#[.slice A0_0 l0_0.length c0_0,.slice A0_1 l0_1.length c0_1]) (t:=29) ?hr ?_;(case hd=>rfl);(case hg=>rfl);(case hr=>first|(go_simp;done)|(go_simp;rfl));intro gb708 hg w5 hbox hb;have BK708:=zA (hbox);have GW708:=zA (zG hg (below_size zB):w.heap.size≤gb708);have GE708:=GW708;replace HB:=zA (below_step zB hb);clear hb hbox hg)|((with_reducible refine gate_dst (N:=3) rfl ?_);refine box_event ?hg (N:=3) ?hd (cs:=#[.slice A1_0 l1_0.length c1_0,.slice A1_1 l1_1.length c1_1]) (t:=29) ?hr ?_;(case hd=>rfl);(case hg=>rfl);(case hr=>first|(go_simp;done)|(go_simp;rfl));intro gb709 hg w6 hbox hb;have BK709:=zA (hbox);have GW709:=zA (zG hg (below_size zB):w.heap.size≤gb709);have GE709:=GW709;have NB708_709:=zA ((zl hg (zk BK708):gb708≠gb709));have NB709_708:=zA ((zg hg (zk BK708):gb709≠gb708));replace BK708:=zA (blk_below (zk BK708) hb);replace HB:=zA (below_step zB hb);clear hb hbox hg;have hnb7:=NB708_709.out;have hnc7:=NB709_708.out;have hcz8_0:w6.cell? ⟨gb708,0,none⟩=some (.slice A0_0 l0_0.length c0_0):=(blk_cell BK708.out 0).trans rfl;have hcz8_1:w6.cell? ⟨gb708,1,none⟩=some (.slice A0_1 l0_1.length c0_1):=(blk_cell BK708.out 1).trans rfl;have hfz8_0:=blk_frozen BK708.out 0;have hfz8_1:=blk_frozen BK708.out 1)|((with_reducible refine gate_callee (f:=26) rfl ?_);refine goesL_ (some 10) rfl rfl Try.func26 zK rfl #[.agg #[.slice A0_0 l0_0.length c0_0,.slice A0_1 l0_1.length c0_1]] rfl zM ?_;(with_reducible refine (ancepsref38_Valid.calls k _ _ l0_0 _ _ l0_1 t710 _ ?side1 ?side2 ?side3 ?side4 A3.out).mono ?_);(case side1=>exact zC (Kd.C_below HR0_0.out HB.out));(case side2=>exact HC0_0.out);(case side3=>exact zC (Kd.C_below HR0_1.out HB.out));(case side4=>exact HC0_1.out);rintro e w9 ⟨rfl,hb⟩;refine ⟨_,rfl,?_⟩;replace BK708:=zA (blk_below (zk BK708) hb);replace BK709:=zA (blk_below (zk BK709) hb);replace HB:=zA (below_step zB hb);(try clear hb);(try clear hb2);(try clear hk);(try clear hi)))
 (try simp only [Act.put,zi,zs,zt])
 have H:=HC4.out
 clear HC4
 by_cases c10:t710=0
 ·rw [if_pos c10] at H
  have c10b0:(t710 == 0)=true:=beq_iff_eq.mpr c10
  have c10b1:(t710 != 0)=false:=bne_eq_false_iff_eq.mpr c10
  clear c10
  (first|rw [c10b0]|(simp only [i64_w,i32_w];rw [c10b0])|skip)
  (try rw [c10b1])
  replace H:=Option.bind_eq_some_iff.mp H
  obtain ⟨t711,A110,H⟩:=H
  replace H:(if t711=0 then ((ancepsref38_Both.f k l0_0 l1_0).bind fun t712=>(if (t712.length:Int)>10 then (some (([]:List Int),3)) else (some (t712,0)))) else (some (([]:List Int),t711)))=some (r1,r2):=H
  have A11:=zA A110
  clear A110
  have HC12:=zA H
  clear H
  have hnb13:=NB709_708.out
  have hnc13:=NB708_709.out
  have hcz14_0:w9.cell? ⟨gb709,0,none⟩=some (.slice A1_0 l1_0.length c1_0):=(blk_cell BK709.out 0).trans rfl
  have hcz14_1:w9.cell? ⟨gb709,1,none⟩=some (.slice A1_1 l1_1.length c1_1):=(blk_cell BK709.out 1).trans rfl
  have hfz14_0:=blk_frozen BK709.out 0
  have hfz14_1:=blk_frozen BK709.out 1
  go_upto_if 17 with (first|((with_reducible refine gate_callee (f:=26) rfl ?_);refine goesL_ (some 15) rfl rfl Try.func26 zK rfl #[.agg #[.slice A1_0 l1_0.length c1_0,.slice A1_1 l1_1.length c1_1]] rfl zM ?_;(with_reducible refine (ancepsref38_Valid.calls k _ _ l1_0 _ _ l1_1 t711 _ ?side1 ?side2 ?side3 ?side4 A11.out).mono ?_);(case side1=>exact zC (Kd.C_below HR1_0.out HB.out));(case side2=>exact HC1_0.out);(case side3=>exact zC (Kd.C_below HR1_1.out HB.out));(case side4=>exact HC1_1.out);rintro e w15 ⟨rfl,hb⟩;refine ⟨_,rfl,?_⟩;replace BK708:=zA (blk_below (zk BK708) hb);replace BK709:=zA (blk_below (zk BK709) hb);replace HB:=zA (below_step zB hb);(try clear hb);(try clear hb2);(try clear hk);(try clear hi)))
  (try simp only [Act.put,zi,zs,zt])
  have H:=HC12.out
  clear HC12
  by_cases c16:t711=0
  ·rw [if_pos c16] at H
   have c16b0:(t711 == 0)=true:=beq_iff_eq.mpr c16
   have c16b1:(t711 != 0)=false:=bne_eq_false_iff_eq.mpr c16
   clear c16
   (first|rw [c16b0]|(simp only [i64_w,i32_w];rw [c16b0])|skip)
   (try rw [c16b1])
   replace H:=Option.bind_eq_some_iff.mp H
   obtain ⟨t712,A170,H⟩:=H
   replace H:(if (t712.length:Int)>10 then (some (([]:List Int),3)) else (some (t712,0)))=some (r1,r2):=H
   have A17:=zA A170
   clear A170
   have HC18:=zA H
   clear H
   have hnb19:=NB708_709.out
   have hnc19:=NB709_708.out
   have hcz20_0:w15.cell? ⟨gb708,0,none⟩=some (.slice A0_0 l0_0.length c0_0):=(blk_cell BK708.out 0).trans rfl
   have hcz20_1:w15.cell? ⟨gb708,1,none⟩=some (.slice A0_1 l0_1.length c0_1):=(blk_cell BK708.out 1).trans rfl
   have hfz20_0:=blk_frozen BK708.out 0
   have hfz20_1:=blk_frozen BK708.out 1
   have hcz21_0:w15.cell? ⟨gb709,0,none⟩=some (.slice A1_0 l1_0.length c1_0):=(blk_cell BK709.out 0).trans rfl
   have hcz21_1:w15.cell? ⟨gb709,1,none⟩=some (.slice A1_1 l1_1.length c1_1):=(blk_cell BK709.out 1).trans rfl
   have hfz21_0:=blk_frozen BK709.out 0
   have hfz21_1:=blk_frozen BK709.out 1
   go_upto_if 26 with (first|((with_reducible refine gate_callee (f:=14) rfl ?_);refine goesL_ (some 23) rfl rfl Try.func14 zK rfl #[.slice A0_0 l0_0.length c0_0,.slice A1_0 l1_0.length c1_0] rfl zM ?_;(with_reducible refine (ancepsref38_Both.calls k _ _ l0_0 _ _ l1_0 t712 _ ?side1 ?side2 ?side3 ?side4 A17.out).mono ?_);(case side1=>exact zC (Kd.C_below HR0_0.out HB.out));(case side2=>exact HC0_0.out);(case side3=>exact zC (Kd.C_below HR1_0.out HB.out));(case side4=>exact HC1_0.out);rintro e w22 ⟨v713,rfl,ho0,hb⟩;refine ⟨_,rfl,?_⟩;have HO714:=zA (Kd.R_lower ho0 (below_size zB));replace BK708:=zA (blk_below (zk BK708) hb);replace BK709:=zA (blk_below (zk BK709) hb);replace HB:=zA (below_step zB hb);(try clear hb);(try clear hb2);(try clear hk);(try clear hi);(try clear ho0);obtain ⟨Ao23,co23,eo23⟩:=Kd.R_slice HO714.out;subst eo23))
   (try simp only [Act.put,zi,zs,zt])
   have H:=HC18.out
   clear HC18
   by_cases c24:(t712.length:Int)>10
   ·rw [if_pos c24] at H
    have c24b0:decide (10<(t712.length:Int))=true:=decide_eq_true c24
    have c24b1:decide (10<t712.length)=true:=decide_eq_true (by omega)
    clear c24
    (first|rw [c24b0]|(simp only [i64_w,i32_w];rw [c24b0])|skip)
    (try rw [c24b1])
    simp only [Option.some.injEq,Prod.mk.injEq] at H
    obtain ⟨rfl,rfl⟩:=H
    go_wp2
    go_ret2
    exact ⟨_,ze,by first|exact Kd.R_nil _ _ _ _ _|exact Kd.N_nil _ _ _ _ _|exact Kd.V_nil _ _ _ _ _|exact Kd.Q_nil _ _ _ _ _|exact Kd.S_nil _ _ _ _ _,by repeat (first|(with_reducible first|exact HB.out|apply below_alloc|apply pw_below_drewN|apply below_drew1|refine below_set ?_ GE708.out|refine below_set ?_ GE709.out)|exact HB.out)⟩
   ·rw [if_neg c24] at H
    have c24b0:decide (10<(t712.length:Int))=false:=decide_eq_false c24
    have c24b1:decide (10<t712.length)=false:=decide_eq_false (by omega)
    clear c24
    (first|rw [c24b0]|(simp only [i64_w,i32_w];rw [c24b0])|skip)
    (try rw [c24b1])
    simp only [Option.some.injEq,Prod.mk.injEq] at H
    obtain ⟨rfl,rfl⟩:=H
    go_wp2
    go_ret2
    exact ⟨_,ze,by refine zr ?_;exact HO714.out,by repeat (first|(with_reducible first|exact HB.out|apply below_alloc|apply pw_below_drewN|apply below_drew1|refine below_set ?_ GE708.out|refine below_set ?_ GE709.out)|exact HB.out)⟩
  ·rw [if_neg c16] at H
   have c16b0:(t711 == 0)=false:=beq_eq_false_iff_ne.mpr c16
   have c16b1:(t711 != 0)=true:=bne_iff_ne.mpr c16
   (first|rw [c16b0]|(simp only [i64_w,i32_w];rw [c16b0])|skip)
   (try rw [c16b1])
   simp only [Option.some.injEq,Prod.mk.injEq] at H
   obtain ⟨rfl,rfl⟩:=H
   go_wp2
   go_ret2
   exact ⟨_,ze,by first|exact Kd.R_nil _ _ _ _ _|exact Kd.N_nil _ _ _ _ _|exact Kd.V_nil _ _ _ _ _|exact Kd.Q_nil _ _ _ _ _|exact Kd.S_nil _ _ _ _ _,by repeat (first|(with_reducible first|exact HB.out|apply below_alloc|apply pw_below_drewN|apply below_drew1|refine below_set ?_ GE708.out|refine below_set ?_ GE709.out)|exact HB.out)⟩
 ·rw [if_neg c10] at H
  have c10b0:(t710 == 0)=false:=beq_eq_false_iff_ne.mpr c10
  have c10b1:(t710 != 0)=true:=bne_iff_ne.mpr c10
  (first|rw [c10b0]|(simp only [i64_w,i32_w];rw [c10b0])|skip)
  (try rw [c10b1])
  simp only [Option.some.injEq,Prod.mk.injEq] at H
  obtain ⟨rfl,rfl⟩:=H
  go_wp2
  go_ret2
  exact ⟨_,ze,by first|exact Kd.R_nil _ _ _ _ _|exact Kd.N_nil _ _ _ _ _|exact Kd.V_nil _ _ _ _ _|exact Kd.Q_nil _ _ _ _ _|exact Kd.S_nil _ _ _ _ _,by repeat (first|(with_reducible first|exact HB.out|apply below_alloc|apply pw_below_drewN|apply below_drew1|refine below_set ?_ GE708.out|refine below_set ?_ GE709.out)|exact HB.out)⟩
def ancepsref38_Join.l0:Nat→List Int→Int→List Int→List Int→List Int→List Int→List Int→List Int→Option (List Int×List Int×Int)
 | 0,_,_,_,_,_,_,_,_=>none
 | k+1,x6,x9,x716000,x716001,x717000,x717001,x723000,x723001=>if x9<(shl .i64 1 (x6.length:Int)) then ((ancepsref38_Assignment.f k x6 x9).bind fun t723=>((ancepsref38_Holds.f k x716000 x716001 t723).bind fun t724=>(if t724=true then ((ancepsref38_Holds.f k x717000 x717001 t723).bind fun t725=>(if t725=true then (if x723001.length<17592186044416 then (ancepsref38_Join.l0 k x6 (wrap64 (x9+1)) x716000 x716001 x717000 x717001 x723000 (x723001++[x9])) else (none)) else (ancepsref38_Join.l0 k x6 (wrap64 (x9+1)) x716000 x716001 x717000 x717001 x723000 x723001))) else (ancepsref38_Join.l0 k x6 (wrap64 (x9+1)) x716000 x716001 x717000 x717001 x723000 x723001)))) else (some (x723000,x723001,0))
def ancepsref38_Join.f (k:Nat) (l0_0:List Int) (l0_1:List Int) (l1_0:List Int) (l1_1:List Int):Option (List Int×List Int×Int):=(ancepsref38_two.f k l0_0 l0_1 l1_0 l1_1).bind fun bt718=>(if bt718.2=0 then (ancepsref38_Join.l0 k bt718.1 0 l0_0 l0_1 l1_0 l1_1 bt718.1 ([]:List Int)) else (some (([]:List Int),([]:List Int),bt718.2)))
theorem ancepsref38_Join.mono_l:∀ k,(∀ y0 y1 y2 y3 y4 y5 y6 y7,LeO (ancepsref38_Join.l0 k y0 y1 y2 y3 y4 y5 y6 y7) (ancepsref38_Join.l0 (k+1) y0 y1 y2 y3 y4 y5 y6 y7))
 | 0=>fun _ _ _ _ _ _ _ _ r h=>by simp [ancepsref38_Join.l0] at h
 | k+1=>by
  have ih0:=ancepsref38_Join.mono_l k
  ·intro y0 y1 y2 y3 y4 y5 y6 y7
   unfold ancepsref38_Join.l0
   repeat' first
   | (with_reducible exact ih0 _ _ _ _ _ _ _ _)
   | (with_reducible exact ancepsref38_Assignment.mono _ _ _)
   | (with_reducible exact ancepsref38_Holds.mono _ _ _ _)
   | (with_reducible exact ancepsref38_two.mono _ _ _ _ _)
   | (with_reducible exact LeO.refl _)
   | (with_reducible exact LeO.none _)
   | (with_reducible refine LeO.ite ?_ ?_)
   | (with_reducible refine LeO.bind ?_ (fun _=>?_))
   | exact LeO.none _
   | refine LeO.ite ?_ ?_
   | refine LeO.bind ?_ (fun _=>?_)
theorem ancepsref38_Join.mono:∀ a0 a1 a2 a3 k,LeO (ancepsref38_Join.f k a0 a1 a2 a3) (ancepsref38_Join.f (k+1) a0 a1 a2 a3):=by
 intro a0 a1 a2 a3 k
 have ih0:=ancepsref38_Join.mono_l k
 unfold ancepsref38_Join.f
 repeat' first
   | (with_reducible exact ih0 _ _ _ _ _ _ _ _)
   | (with_reducible exact ancepsref38_Assignment.mono _ _ _)
   | (with_reducible exact ancepsref38_Holds.mono _ _ _ _)
   | (with_reducible exact ancepsref38_two.mono _ _ _ _ _)
   | (with_reducible exact LeO.refl _)
   | (with_reducible exact LeO.none _)
   | (with_reducible refine LeO.ite ?_ ?_)
   | (with_reducible refine LeO.bind ?_ (fun _=>?_))
   | exact LeO.none _
   | refine LeO.ite ?_ ?_
   | refine LeO.bind ?_ (fun _=>?_)
set_option maxHeartbeats 8000000 in
set_option maxRecDepth 100000 in
theorem ancepsref38_Join.calls (k:Nat) (A0_0:Option Addr) (c0_0:Nat) (l0_0:List Int) (A0_1:Option Addr) (c0_1:Nat) (l0_1:List Int) (A1_0:Option Addr) (c1_0:Nat) (l1_0:List Int) (A1_1:Option Addr) (c1_1:Nat) (l1_1:List Int) (r1:List Int) (r2:List Int) (r3:Int) (w:World) (hr0_0:Kd.C (Kd.int .i64) w A0_0 l0_0.length l0_0) (hc0_0:l0_0.length≤c0_0) (hr0_1:Kd.C (Kd.int .i64) w A0_1 l0_1.length l0_1) (hc0_1:l0_1.length≤c0_1) (hr1_0:Kd.C (Kd.int .i64) w A1_0 l1_0.length l1_0) (hc1_0:l1_0.length≤c1_0) (hr1_1:Kd.C (Kd.int .i64) w A1_1 l1_1.length l1_1) (hc1_1:l1_1.length≤c1_1) (h:ancepsref38_Join.f k l0_0 l0_1 l1_0 l1_1=some (r1,r2,r3)) :
  Calls Try.prog 30 #[.agg #[.slice A0_0 l0_0.length c0_0,.slice A0_1 l0_1.length c0_1],.agg #[.slice A1_0 l1_0.length c1_0,.slice A1_1 l1_1.length c1_1]] w fun e w'=>∃ v0_ v1_:Value,e=.returned (.tuple #[.agg #[v0_,v1_],.int .i64 r3])∧Kd.R (Kd.int .i64) 3 w' w.heap.size (fun k_=>some k_≠(v1_:Value).ownBlock) v0_ r1∧Kd.R (Kd.int .i64) 3 w' w.heap.size (fun k_=>some k_≠(v0_:Value).ownBlock) v1_ r2∧Below w.heap.size w w':=by
 have hu29:=Try.underlying29
 have hu27:=Try.underlying27
 have HR0_0:=zA hr0_0
 have HC0_0:=zA hc0_0
 clear hr0_0 hc0_0
 have HR0_1:=zA hr0_1
 have HC0_1:=zA hc0_1
 clear hr0_1 hc0_1
 have HR1_0:=zA hr1_0
 have HC1_0:=zA hc1_0
 clear hr1_0 hc1_0
 have HR1_1:=zA hr1_1
 have HC1_1:=zA hc1_1
 clear hr1_1 hc1_1
 have HB:=zA (Below.refl w.heap.size w)
 have H:((ancepsref38_two.f k l0_0 l0_1 l1_0 l1_1).bind fun bt718=>(if bt718.2=0 then (ancepsref38_Join.l0 k bt718.1 0 l0_0 l0_1 l1_0 l1_1 bt718.1 ([]:List Int)) else (some (([]:List Int),([]:List Int),bt718.2))))=some (r1,r2,r3):=h
 clear h
 replace H:=Option.bind_eq_some_iff.mp H
 obtain ⟨⟨t718,t721⟩,A30,H⟩:=H
 replace H:(if t721=0 then (ancepsref38_Join.l0 k t718 0 l0_0 l0_1 l1_0 l1_1 t718 ([]:List Int)) else (some (([]:List Int),([]:List Int),t721)))=some (r1,r2,r3):=H
 have A3:=zA A30
 clear A30
 have HC4:=zA H
 clear H
 go_enter Try.func30,Try.ntmps30
 go_upto_if 18 with (first|((with_reducible refine gate_dst (N:=2) rfl ?_);refine box_event ?hg (N:=2) ?hd (cs:=#[.slice A0_0 l0_0.length c0_0,.slice A0_1 l0_1.length c0_1]) (t:=29) ?hr ?_;(case hd=>rfl);(case hg=>rfl);(case hr=>first|(go_simp;done)|(go_simp;rfl));intro gb715 hg w5 hbox hb;have BK715:=zA (hbox);have GW715:=zA (zG hg (below_size zB):w.heap.size≤gb715);have GE715:=GW715;replace HB:=zA (below_step zB hb);clear hb hbox hg)|((with_reducible refine gate_dst (N:=3) rfl ?_);refine box_event ?hg (N:=3) ?hd (cs:=#[.slice A1_0 l1_0.length c1_0,.slice A1_1 l1_1.length c1_1]) (t:=29) ?hr ?_;(case hd=>rfl);(case hg=>rfl);(case hr=>first|(go_simp;done)|(go_simp;rfl));intro gb716 hg w6 hbox hb;have BK716:=zA (hbox);have GW716:=zA (zG hg (below_size zB):w.heap.size≤gb716);have GE716:=GW716;have NB715_716:=zA ((zl hg (zk BK715):gb715≠gb716));have NB716_715:=zA ((zg hg (zk BK715):gb716≠gb715));replace BK715:=zA (blk_below (zk BK715) hb);replace HB:=zA (below_step zB hb);clear hb hbox hg)|((with_reducible refine gate_dst (N:=4) rfl ?_);refine box_event ?hg (N:=4) ?hd (cs:=#[.slice none 0 0,.slice none 0 0]) (t:=29) ?hr ?_;(case hd=>rfl);(case hg=>rfl);(case hr=>first|(go_simp;done)|(go_simp;rfl));intro gb717 hg w7 hbox hb;have BK717:=zA (hbox);have GW717:=zA (zG hg (below_size zB):w.heap.size≤gb717);have GE717:=GW717;have NB715_717:=zA ((zl hg (zk BK715):gb715≠gb717));have NB717_715:=zA ((zg hg (zk BK715):gb717≠gb715));have NB716_717:=zA ((zl hg (zk BK716):gb716≠gb717));have NB717_716:=zA ((zg hg (zk BK716):gb717≠gb716));replace BK715:=zA (blk_below (zk BK715) hb);replace BK716:=zA (blk_below (zk BK716) hb);replace HB:=zA (below_step zB hb);clear hb hbox hg;have hnb8:=NB715_716.out;have hnc8:=NB716_715.out;have hnb9:=NB715_717.out;have hnc9:=NB717_715.out;have hcz10_0:w7.cell? ⟨gb715,0,none⟩=some (.slice A0_0 l0_0.length c0_0):=(blk_cell BK715.out 0).trans rfl;have hcz10_1:w7.cell? ⟨gb715,1,none⟩=some (.slice A0_1 l0_1.length c0_1):=(blk_cell BK715.out 1).trans rfl;have hfz10_0:=blk_frozen BK715.out 0;have hfz10_1:=blk_frozen BK715.out 1;have hnb11:=NB716_717.out;have hnc11:=NB717_716.out;have hcz12_0:w7.cell? ⟨gb716,0,none⟩=some (.slice A1_0 l1_0.length c1_0):=(blk_cell BK716.out 0).trans rfl;have hcz12_1:w7.cell? ⟨gb716,1,none⟩=some (.slice A1_1 l1_1.length c1_1):=(blk_cell BK716.out 1).trans rfl;have hfz12_0:=blk_frozen BK716.out 0;have hfz12_1:=blk_frozen BK716.out 1)|((with_reducible refine gate_callee (f:=57) rfl ?_);refine goesL_ (some 14) rfl rfl Try.func57 zK rfl #[.agg #[.slice A0_0 l0_0.length c0_0,.slice A0_1 l0_1.length c0_1],.agg #[.slice A1_0 l1_0.length c1_0,.slice A1_1 l1_1.length c1_1]] rfl zM ?_;(with_reducible refine (ancepsref38_two.calls k _ _ l0_0 _ _ l0_1 _ _ l1_0 _ _ l1_1 t718 t721 _ ?side1 ?side2 ?side3 ?side4 ?side5 ?side6 ?side7 ?side8 A3.out).mono ?_);(case side1=>exact zC (Kd.C_below HR0_0.out HB.out));(case side2=>exact HC0_0.out);(case side3=>exact zC (Kd.C_below HR0_1.out HB.out));(case side4=>exact HC0_1.out);(case side5=>exact zC (Kd.C_below HR1_0.out HB.out));(case side6=>exact HC1_0.out);(case side7=>exact zC (Kd.C_below HR1_1.out HB.out));(case side8=>exact HC1_1.out);rintro e w13 ⟨v719,rfl,ho0,hb⟩;refine ⟨_,rfl,?_⟩;have HO720:=zA (Kd.R_lower ho0 (below_size zB));replace BK715:=zA (blk_below (zk BK715) hb);replace BK716:=zA (blk_below (zk BK716) hb);replace BK717:=zA (blk_below (zk BK717) hb);replace HB:=zA (below_step zB hb);(try clear hb);(try clear hb2);(try clear hk);(try clear hi);(try clear ho0)))
 (try simp only [Act.put,zi,zs,zt])
 have H:=HC4.out
 clear HC4
 by_cases c14:t721=0
 ·rw [if_pos c14] at H
  have c14b0:(t721 == 0)=true:=beq_iff_eq.mpr c14
  have c14b1:(t721 != 0)=false:=bne_eq_false_iff_eq.mpr c14
  clear c14
  (first|rw [c14b0]|(simp only [i64_w,i32_w];rw [c14b0])|skip)
  (try rw [c14b1])
  have H':=zA H
  clear H
  obtain ⟨Ao15,co15,eo15⟩:=Kd.R_slice HO720.out
  subst eo15
  go_wp2_with (first|((with_reducible refine gate_dst (N:=8) rfl ?_);refine box_event ?hg (N:=8) ?hd (cs:=#[.slice none 0 0,.slice none 0 0]) (t:=29) ?hr ?_;(case hd=>rfl);(case hg=>rfl);(case hr=>first|(go_simp;done)|(go_simp;rfl));intro gb722 hg w16 hbox hb;have BK722:=zA (hbox);have GW722:=zA (zG hg (below_size zB):w.heap.size≤gb722);have GE722:=GW722;have NB715_722:=zA ((zl hg (zk BK715):gb715≠gb722));have NB722_715:=zA ((zg hg (zk BK715):gb722≠gb715));have NB716_722:=zA ((zl hg (zk BK716):gb716≠gb722));have NB722_716:=zA ((zg hg (zk BK716):gb722≠gb716));have NB717_722:=zA ((zl hg (zk BK717):gb717≠gb722));have NB722_717:=zA ((zg hg (zk BK717):gb722≠gb717));replace HO720:=zA (Kd.R_below (zR HO720) hb);replace BK715:=zA (blk_below (zk BK715) hb);replace BK716:=zA (blk_below (zk BK716) hb);replace BK717:=zA (blk_below (zk BK717) hb);replace HB:=zA (below_step zB hb);clear hb hbox hg;have hnb17:=NB722_715.out;have hnc17:=NB715_722.out;have hnb18:=NB722_716.out;have hnc18:=NB716_722.out;have hnb19:=NB722_717.out;have hnc19:=NB717_722.out;have hcz20_0:w16.cell? ⟨gb722,0,none⟩=some (.slice none 0 0):=(blk_cell BK722.out 0).trans rfl;have hcz20_1:w16.cell? ⟨gb722,1,none⟩=some (.slice none 0 0):=(blk_cell BK722.out 1).trans rfl;have hfz20_0:=blk_frozen BK722.out 0;have hfz20_1:=blk_frozen BK722.out 1))
  go_loopg [9] k (fun kq v9 w'=>∃ (x9_1:Int) (x723001_1:List Int) (u723001:Value),v9=.int .i64 x9_1∧Aside0 (ancepsref38_Join.l0 kq t718 x9_1 l0_0 l0_1 l1_0 l1_1 t718 x723001_1=some (r1,r2,r3))∧Aside0 (kq≤k)∧Aside0 (Kd.R (Kd.int .i64) 3 w' w.heap.size (fun k_=>some k_≠(u723001:Value).ownBlock) (.slice Ao15 t718.length co15) t718)∧Aside0 (Kd.R (Kd.int .i64) 3 w' w.heap.size (fun k_=>some k_≠(u723001:Value).ownBlock) (.slice Ao15 t718.length co15) t718)∧Aside0 (Kd.R (Kd.int .i64) 3 w' w.heap.size (fun k_=>some k_≠((.slice Ao15 t718.length co15):Value).ownBlock∧some k_≠((.slice Ao15 t718.length co15):Value).ownBlock) u723001 x723001_1)∧Aside0 (w'.heap[gb715]?=some (.cells #[(.slice A0_0 l0_0.length c0_0),(.slice A0_1 l0_1.length c0_1)] 29 (0,0)))∧Aside0 (w'.heap[gb716]?=some (.cells #[(.slice A1_0 l1_0.length c1_0),(.slice A1_1 l1_1.length c1_1)] 29 (0,0)))∧Aside0 (w'.heap[gb717]?=some (.cells #[(.slice none 0 0),(.slice none 0 0)] 29 (0,0)))∧Aside0 (w'.heap[gb722]?=some (.cells #[(.slice Ao15 t718.length co15),u723001] 29 (0,0)))∧Aside0 (Below w.heap.size w w'))
  case atStart=>exact ⟨(0),(([]:List Int)),(.slice none 0 0),zT,H',⟨Nat.le_refl _⟩,⟨by refine zr ?_;exact Kd.R_mono (Kd.R_far (p:=⟨gb722,1,none⟩) (Kd.R_far (p:=⟨gb722,0,none⟩) (Kd.R_types HO720.out BK722.out (by decide)) (fun _ hk=>hk.2) (.slice Ao15 t718.length co15)) (fun _ hk=>hk.2) (.slice none 0 0)) (fun _ hk=>(by simp [Value.ownBlock]))⟩,⟨by refine zr ?_;exact Kd.R_mono (Kd.R_far (p:=⟨gb722,1,none⟩) (Kd.R_far (p:=⟨gb722,0,none⟩) (Kd.R_types HO720.out BK722.out (by decide)) (fun _ hk=>hk.2) (.slice Ao15 t718.length co15)) (fun _ hk=>hk.2) (.slice none 0 0)) (fun _ hk=>(by simp [Value.ownBlock]))⟩,⟨by first|exact Kd.R_nil _ _ _ _ _|exact Kd.N_nil _ _ _ _ _|exact Kd.V_nil _ _ _ _ _|exact Kd.Q_nil _ _ _ _ _|exact Kd.S_nil _ _ _ _ _⟩,⟨by refine zj ?_;refine blk_far ?_ NB715_722.out _;refine zj ?_;refine blk_far ?_ NB715_722.out _;refine zj ?_;exact BK715.out⟩,⟨by refine zj ?_;refine blk_far ?_ NB716_722.out _;refine zj ?_;refine blk_far ?_ NB716_722.out _;refine zj ?_;exact BK716.out⟩,⟨by refine zj ?_;refine blk_far ?_ NB717_722.out _;refine zj ?_;refine blk_far ?_ NB717_722.out _;refine zj ?_;exact BK717.out⟩,⟨by refine zj ?_;refine blk_put (cs:=#[.slice Ao15 t718.length co15,.slice none 0 0]) ?_ 1 _ rfl;refine zj ?_;refine blk_put (cs:=#[.slice none 0 0,.slice none 0 0]) ?_ 0 _ rfl;refine zj ?_;exact BK722.out⟩,⟨by repeat (first|(with_reducible first|exact HB.out|apply below_alloc|apply pw_below_drewN|apply below_drew1|refine below_set ?_ GE715.out|refine below_set ?_ GE716.out|refine below_set ?_ GE717.out|refine below_set ?_ GE722.out)|exact HB.out)⟩⟩
  case round=>
   clear H'
   try clear c14
   try clear c14b0
   try clear c14b1
   try clear hcz10_0
   try clear hcz10_1
   try clear hcz12_0
   try clear hcz12_1
   try clear hcz20_0
   try clear hcz20_1
   try clear hfz10_0
   try clear hfz10_1
   try clear hfz12_0
   try clear hfz12_1
   try clear hfz20_0
   try clear hfz20_1
   obtain ⟨x9_1,x723001_1,u723001,rfl,HA,HK1,HO_6,HO_723000,HO_723001,BK715,BK716,BK717,BK722,HB⟩:=hrel
   cases gk with
   | zero=>exact absurd HA.out (by simp [ancepsref38_Join.l0])
   | succ k1=>
    have H:=HA.out
    clear HA
    simp only [ancepsref38_Join.l0] at H
    obtain ⟨ji21,hji21⟩:∃ j_:Int,(shl .i64 1 (t718.length:Int))=j_:=⟨_,rfl⟩
    replace H:(if x9_1<(ji21) then ((ancepsref38_Assignment.f k1 t718 x9_1).bind fun t723=>((ancepsref38_Holds.f k1 l0_0 l0_1 t723).bind fun t724=>(if t724=true then ((ancepsref38_Holds.f k1 l1_0 l1_1 t723).bind fun t725=>(if t725=true then (if x723001_1.length<17592186044416 then (ancepsref38_Join.l0 k1 t718 (wrap64 (x9_1+1)) l0_0 l0_1 l1_0 l1_1 t718 (x723001_1++[x9_1])) else (none)) else (ancepsref38_Join.l0 k1 t718 (wrap64 (x9_1+1)) l0_0 l0_1 l1_0 l1_1 t718 x723001_1))) else (ancepsref38_Join.l0 k1 t718 (wrap64 (x9_1+1)) l0_0 l0_1 l1_0 l1_1 t718 x723001_1)))) else (some (t718,x723001_1,0)))=some (r1,r2,r3):=by first|(rw [hji21] at H;exact H)|(simp only [hji21] at H ⊢;exact H)
    have hji21_:(IntKind.i64.wrap (1 * 2 ^ min (t718.length:Int).toNat 64))=ji21:=hji21
    have hji21z:(t718.length:Int)≤64→(IntKind.i64.wrap (1 * 2 ^ (t718.length:Int).toNat))=ji21:=shl_small hji21
    have hji21p:(IntKind.i64.wrap (1 * 2 ^ min t718.length 64))=ji21:=hji21_
    have hji21q:(t718.length:Int)≤64→(IntKind.i64.wrap (1 * 2 ^ t718.length))=ji21:=hji21z
    have hji21r:(IntKind.i64.wrap (2 ^ min t718.length 64))=ji21:=by have h_:=hji21p;rw [Int.one_mul] at h_;exact h_
    have hji21s:(t718.length:Int)≤64→(IntKind.i64.wrap (2 ^ t718.length))=ji21:=fun hle_=>by have h_:=hji21q hle_;rw [Int.one_mul] at h_;exact h_
    have hji21u:(IntKind.i64.wrap (2 ^ min (t718.length:Int).toNat 64))=ji21:=by have h_:=hji21_;rw [Int.one_mul] at h_;exact h_
    have hji21v:(t718.length:Int)≤64→(IntKind.i64.wrap (2 ^ (t718.length:Int).toNat))=ji21:=fun hle_=>by have h_:=hji21z hle_;rw [Int.one_mul] at h_;exact h_
    have hji21y:(wrap64 (1 * 2 ^ min (t718.length:Int).toNat 64))=ji21:=(i64_w _).symm.trans hji21_
    have hji21x:(t718.length:Int)≤64→(wrap64 (1 * 2 ^ (t718.length:Int).toNat))=ji21:=fun h_=>(i64_w _).symm.trans (hji21z h_)
    by_cases c22:x9_1<(ji21)
    ·rw [if_pos c22] at H
     have c22b0:decide (x9_1<(ji21))=true:=decide_eq_true c22
     clear c22
     replace H:=Option.bind_eq_some_iff.mp H
     obtain ⟨t723,A230,H⟩:=H
     replace H:((ancepsref38_Holds.f k1 l0_0 l0_1 t723).bind fun t724=>(if t724=true then ((ancepsref38_Holds.f k1 l1_0 l1_1 t723).bind fun t725=>(if t725=true then (if x723001_1.length<17592186044416 then (ancepsref38_Join.l0 k1 t718 (wrap64 (x9_1+1)) l0_0 l0_1 l1_0 l1_1 t718 (x723001_1++[x9_1])) else (none)) else (ancepsref38_Join.l0 k1 t718 (wrap64 (x9_1+1)) l0_0 l0_1 l1_0 l1_1 t718 x723001_1))) else (ancepsref38_Join.l0 k1 t718 (wrap64 (x9_1+1)) l0_0 l0_1 l1_0 l1_1 t718 x723001_1)))=some (r1,r2,r3):=H
     have A23:=zA A230
     clear A230
     have HC24:=zA H
     clear H
     go_upto_region 9 with (first|((with_reducible refine gate_callee (f:=39) rfl ?_);refine goesL_ (some 32) rfl rfl Try.func39 zK rfl #[.slice Ao15 t718.length co15,.int .i64 x9_1] rfl zM ?_;(with_reducible refine (ancepsref38_Assignment.calls k1 _ _ t718 x9_1 t723 _ ?side1 ?side2 A23.out).mono ?_);(case side1=>exact zC (Kd.R_reads' HO_6.out).2.2);(case side2=>exact (Kd.R_reads' HO_6.out).2.1);rintro e w' ⟨rfl,⟨nd,rfl⟩⟩;refine ⟨_,rfl,?_⟩))
     (try simp only [Act.put,zi,zs,zt])
     have H:=HC24.out
     clear HC24
     replace H:=Option.bind_eq_some_iff.mp H
     obtain ⟨t724,A250,H⟩:=H
     replace H:(if t724=true then ((ancepsref38_Holds.f k1 l1_0 l1_1 t723).bind fun t725=>(if t725=true then (if x723001_1.length<17592186044416 then (ancepsref38_Join.l0 k1 t718 (wrap64 (x9_1+1)) l0_0 l0_1 l1_0 l1_1 t718 (x723001_1++[x9_1])) else (none)) else (ancepsref38_Join.l0 k1 t718 (wrap64 (x9_1+1)) l0_0 l0_1 l1_0 l1_1 t718 x723001_1))) else (ancepsref38_Join.l0 k1 t718 (wrap64 (x9_1+1)) l0_0 l0_1 l1_0 l1_1 t718 x723001_1))=some (r1,r2,r3):=H
     have A25:=zA A250
     clear A250
     by_cases c26:t724=true
     ·subst c26
      have H1:((ancepsref38_Holds.f k1 l1_0 l1_1 t723).bind fun t725=>(if t725=true then (if x723001_1.length<17592186044416 then (ancepsref38_Join.l0 k1 t718 (wrap64 (x9_1+1)) l0_0 l0_1 l1_0 l1_1 t718 (x723001_1++[x9_1])) else (none)) else (ancepsref38_Join.l0 k1 t718 (wrap64 (x9_1+1)) l0_0 l0_1 l1_0 l1_1 t718 x723001_1)))=some (r1,r2,r3):=by rw [if_pos rfl] at H;exact H
      clear H
      have H:=H1
      clear H1
      replace H:=Option.bind_eq_some_iff.mp H
      obtain ⟨t725,A270,H⟩:=H
      replace H:(if t725=true then (if x723001_1.length<17592186044416 then (ancepsref38_Join.l0 k1 t718 (wrap64 (x9_1+1)) l0_0 l0_1 l1_0 l1_1 t718 (x723001_1++[x9_1])) else (none)) else (ancepsref38_Join.l0 k1 t718 (wrap64 (x9_1+1)) l0_0 l0_1 l1_0 l1_1 t718 x723001_1))=some (r1,r2,r3):=H
      have A27:=zA A270
      clear A270
      have HC28:=zA H
      clear H
      have hnb29:=NB715_716.out
      have hnc29:=NB716_715.out
      have hnb30:=NB715_717.out
      have hnc30:=NB717_715.out
      have hnb31:=NB715_722.out
      have hnc31:=NB722_715.out
      have hcz32_0:wr.cell? ⟨gb715,0,none⟩=some (.slice A0_0 l0_0.length c0_0):=(blk_cell BK715.out 0).trans rfl
      have hcz32_1:wr.cell? ⟨gb715,1,none⟩=some (.slice A0_1 l0_1.length c0_1):=(blk_cell BK715.out 1).trans rfl
      have hfz32_0:=blk_frozen BK715.out 0
      have hfz32_1:=blk_frozen BK715.out 1
      go_upto_if 40 with (first|((with_reducible refine gate_callee (f:=29) rfl ?_);refine goesL_ (some 35) rfl rfl Try.func29 zK rfl #[.agg #[.slice A0_0 l0_0.length c0_0,.slice A0_1 l0_1.length c0_1],.int .i64 t723] rfl zM ?_;(with_reducible refine (ancepsref38_Holds.calls k1 _ _ l0_0 _ _ l0_1 t723 true _ ?side1 ?side2 ?side3 ?side4 A25.out).mono ?_);(case side1=>exact zC (Kd.C_below HR0_0.out HB.out));(case side2=>exact HC0_0.out);(case side3=>exact zC (Kd.C_below HR0_1.out HB.out));(case side4=>exact HC0_1.out);rintro e w33 ⟨rfl,hb⟩;refine ⟨_,rfl,?_⟩;replace HO_6:=zA (Kd.R_below (zR HO_6) hb);replace HO_723000:=zA (Kd.R_below (zR HO_723000) hb);replace HO_723001:=zA (Kd.R_below (zR HO_723001) hb);replace BK715:=zA (blk_below (zk BK715) hb);replace BK716:=zA (blk_below (zk BK716) hb);replace BK717:=zA (blk_below (zk BK717) hb);replace BK722:=zA (blk_below (zk BK722) hb);replace HB:=zA (below_step zB hb);(try clear hb);(try clear hb2);(try clear hk);(try clear hi);have hnb34:=NB716_717.out;have hnc34:=NB717_716.out;have hnb35:=NB716_722.out;have hnc35:=NB722_716.out;have hcz36_0:w33.cell? ⟨gb716,0,none⟩=some (.slice A1_0 l1_0.length c1_0):=(blk_cell BK716.out 0).trans rfl;have hcz36_1:w33.cell? ⟨gb716,1,none⟩=some (.slice A1_1 l1_1.length c1_1):=(blk_cell BK716.out 1).trans rfl;have hfz36_0:=blk_frozen BK716.out 0;have hfz36_1:=blk_frozen BK716.out 1)|(go_at_call 29;(with_reducible refine (ancepsref38_Holds.calls k1 _ _ l1_0 _ _ l1_1 t723 t725 _ ?side1 ?side2 ?side3 ?side4 A27.out).mono ?_);(case side1=>exact zC (Kd.C_below HR1_0.out HB.out));(case side2=>exact HC1_0.out);(case side3=>exact zC (Kd.C_below HR1_1.out HB.out));(case side4=>exact HC1_1.out);rintro e w37 ⟨rfl,hb⟩;replace HO_6:=zA (Kd.R_below (zR HO_6) hb);replace HO_723000:=zA (Kd.R_below (zR HO_723000) hb);replace HO_723001:=zA (Kd.R_below (zR HO_723001) hb);replace BK715:=zA (blk_below (zk BK715) hb);replace BK716:=zA (blk_below (zk BK716) hb);replace BK717:=zA (blk_below (zk BK717) hb);replace BK722:=zA (blk_below (zk BK722) hb);replace HB:=zA (below_step zB hb);(try clear hb);(try clear hb2);(try clear hk);(try clear hi)))
      (try simp only [Act.put,zi,zs,zt])
      have H:=HC28.out
      clear HC28
      by_cases c38:t725=true
      ·subst c38
       have H1:(if x723001_1.length<17592186044416 then (ancepsref38_Join.l0 k1 t718 (wrap64 (x9_1+1)) l0_0 l0_1 l1_0 l1_1 t718 (x723001_1++[x9_1])) else (none))=some (r1,r2,r3):=by rw [if_pos rfl] at H;exact H
       clear H
       have H:=H1
       clear H1
       by_cases c39:x723001_1.length<17592186044416
       ·rw [if_pos c39] at H
        have LMc39:=zA c39
        clear c39
        obtain ⟨y726,hy726⟩:∃ y_:List Int,y_=(x723001_1++[x9_1]):=⟨_,rfl⟩
        replace H:(ancepsref38_Join.l0 k1 t718 (wrap64 (x9_1+1)) l0_0 l0_1 l1_0 l1_1 t718 y726)=some (r1,r2,r3):=by first|(rw [hy726];with_reducible exact H)|(have H2_:=(Option.bind_some _ _).symm.trans H;rw [hy726];with_reducible exact H2_)|(have H2_:=(Option.bind_some _ _).symm.trans H;with_reducible exact H2_)|with_reducible exact H|(rw [hy726];exact H)|exact H
        have Ny726:=zA hy726
        clear hy726
        have H':=zA H
        clear H
        have hnb40:=NB722_715.out
        have hnc40:=NB715_722.out
        have hnb41:=NB722_716.out
        have hnc41:=NB716_722.out
        have hnb42:=NB722_717.out
        have hnc42:=NB717_722.out
        have hcz43_0:w37.cell? ⟨gb722,0,none⟩=some (.slice Ao15 t718.length co15):=(blk_cell BK722.out 0).trans rfl
        have hcz43_1:w37.cell? ⟨gb722,1,none⟩=some (u723001):=(blk_cell BK722.out 1).trans rfl
        have hfz43_0:=blk_frozen BK722.out 0
        have hfz43_1:=blk_frozen BK722.out 1
        go_wp2_with (first|((with_reducible refine gate_builtin (b:=.append) (xs:=#[.tmp 42,.tmp 44]) rfl ?_);at_builtin;refine Kd.R_append (Kd.int .i64) (w0:=w) w.heap.size rfl (.tmp 42) (.tmp 44) 27 3 (.int .i64 0) 8 rfl Try.underlying27 info3 rfl (by decide) (by omega) u723001 x723001_1 x9_1 [.int .i64 x9_1] (fun k_=>some k_≠(.slice Ao15 t718.length co15:Value).ownBlock∧some k_≠(.slice Ao15 t718.length co15:Value).ownBlock) (fun _=>False) rfl rfl ?aP (fun _ hk=>hk.elim) ?aF ?aO ?aB ?aS ?aL ?_;(case aP=>exact rfl);(case aB=>exact zB);(case aF=>exact (fun k_ hk=>⟨Kd.fresh' (Kd.R_lt (zR HO_6)) k_ hk,Kd.fresh' (Kd.R_lt (zR HO_723000)) k_ hk⟩));(case aO=>exact (zR HO_723001));(case aS=>exact (below_size zB));(case aL=>have:=LMc39.out;omega);intro v727 w44 ho hb hg hat;rw [← Ny726.out] at ho;have HO728:=zA (ho);replace HO_6:=zA (Kd.R_after (ok:=(fun _=>True)) (by refine zr ?_;exact Kd.R_mono HO_6.out (fun _ hk=>⟨trivial,hk⟩)) hg hat);replace HO_723000:=zA (Kd.R_after (ok:=(fun _=>True)) (by refine zr ?_;exact Kd.R_mono HO_723000.out (fun _ hk=>⟨trivial,hk⟩)) hg hat);replace BK715:=zA (blk_grown (g:=gb715) (o:=.cells #[.slice A0_0 l0_0.length c0_0,.slice A0_1 l0_1.length c0_1] 29 (0,0)) (zk BK715) hg (Kd.R_ne HO_723001.out BK715.out (by decide)));replace BK716:=zA (blk_grown (g:=gb716) (o:=.cells #[.slice A1_0 l1_0.length c1_0,.slice A1_1 l1_1.length c1_1] 29 (0,0)) (zk BK716) hg (Kd.R_ne HO_723001.out BK716.out (by decide)));replace BK717:=zA (blk_grown (g:=gb717) (o:=.cells #[.slice none 0 0,.slice none 0 0] 29 (0,0)) (zk BK717) hg (Kd.R_ne HO_723001.out BK717.out (by decide)));replace BK722:=zA (blk_grown (g:=gb722) (o:=.cells #[.slice Ao15 t718.length co15,u723001] 29 (0,0)) (zk BK722) hg (Kd.R_ne HO_723001.out BK722.out (by decide)));replace HB:=zA (hb);clear HO_723001;clear ho hb hg hat;obtain ⟨Ao45,co45,eo45⟩:=Kd.R_slice HO728.out;subst eo45;have hcz46_0:w44.cell? ⟨gb722,0,none⟩=some (.slice Ao15 t718.length co15):=(blk_cell BK722.out 0).trans rfl;have hcz46_1:w44.cell? ⟨gb722,1,none⟩=some (u723001):=(blk_cell BK722.out 1).trans rfl;have hfz46_0:=blk_frozen BK722.out 0;have hfz46_1:=blk_frozen BK722.out 1))
        go_roundg k1
        case measure=>have:=HK1.out;omega
        case rel=>exact ⟨(wrap64 (x9_1+1)),(y726),(.slice Ao45 y726.length co45),zT,H',⟨by have:=HK1.out;omega⟩,⟨by refine zr ?_;exact Kd.R_mono (Kd.R_far (p:=⟨gb722,1,none⟩) (Kd.R_types HO_6.out BK722.out (by decide)) (fun _ hk=>hk.2) (.slice Ao45 y726.length co45)) (fun _ hk=>hk.1.2)⟩,⟨by refine zr ?_;exact Kd.R_mono (Kd.R_far (p:=⟨gb722,1,none⟩) (Kd.R_types HO_723000.out BK722.out (by decide)) (fun _ hk=>hk.2) (.slice Ao45 y726.length co45)) (fun _ hk=>hk.1.2)⟩,⟨by refine zr ?_;exact Kd.R_mono (Kd.R_far (p:=⟨gb722,1,none⟩) (Kd.R_types HO728.out BK722.out (by decide)) (fun _ hk=>hk.2) (.slice Ao45 y726.length co45)) (fun _ hk=>⟨hk.1.1,hk.1.2⟩)⟩,⟨by refine zj ?_;refine blk_far ?_ NB715_722.out _;refine zj ?_;exact BK715.out⟩,⟨by refine zj ?_;refine blk_far ?_ NB716_722.out _;refine zj ?_;exact BK716.out⟩,⟨by refine zj ?_;refine blk_far ?_ NB717_722.out _;refine zj ?_;exact BK717.out⟩,⟨by refine zj ?_;refine blk_put (cs:=#[.slice Ao15 t718.length co15,u723001]) ?_ 1 _ rfl;refine zj ?_;exact BK722.out⟩,⟨by repeat (first|(with_reducible first|exact HB.out|apply below_alloc|apply pw_below_drewN|apply below_drew1|refine below_set ?_ GE715.out|refine below_set ?_ GE716.out|refine below_set ?_ GE717.out|refine below_set ?_ GE722.out)|exact HB.out)⟩⟩
       ·rw [if_neg c39] at H
        exact absurd H (by simp)
      ·replace c38:=Bool.eq_false_iff.mpr c38
       subst c38
       have H1:(ancepsref38_Join.l0 k1 t718 (wrap64 (x9_1+1)) l0_0 l0_1 l1_0 l1_1 t718 x723001_1)=some (r1,r2,r3):=by rw [if_neg (show ¬ (false=true) by decide)] at H;exact H
       clear H
       have H:=H1
       clear H1
       have H':=zA H
       clear H
       go_wp2
       go_roundg k1
       case measure=>have:=HK1.out;omega
       case rel=>exact ⟨(wrap64 (x9_1+1)),(x723001_1),(u723001),zT,H',⟨by have:=HK1.out;omega⟩,⟨by refine zr ?_;exact HO_6.out⟩,⟨by refine zr ?_;exact HO_723000.out⟩,⟨by refine zr ?_;exact HO_723001.out⟩,⟨by refine zj ?_;exact BK715.out⟩,⟨by refine zj ?_;exact BK716.out⟩,⟨by refine zj ?_;exact BK717.out⟩,⟨by refine zj ?_;exact BK722.out⟩,⟨by repeat (first|(with_reducible first|exact HB.out|apply below_alloc|apply pw_below_drewN|apply below_drew1|refine below_set ?_ GE715.out|refine below_set ?_ GE716.out|refine below_set ?_ GE717.out|refine below_set ?_ GE722.out)|exact HB.out)⟩⟩
     ·replace c26:=Bool.eq_false_iff.mpr c26
      subst c26
      have H1:(ancepsref38_Join.l0 k1 t718 (wrap64 (x9_1+1)) l0_0 l0_1 l1_0 l1_1 t718 x723001_1)=some (r1,r2,r3):=by rw [if_neg (show ¬ (false=true) by decide)] at H;exact H
      clear H
      have H:=H1
      clear H1
      have H':=zA H
      clear H
      have hnb47:=NB715_716.out
      have hnc47:=NB716_715.out
      have hnb48:=NB715_717.out
      have hnc48:=NB717_715.out
      have hnb49:=NB715_722.out
      have hnc49:=NB722_715.out
      have hcz50_0:wr.cell? ⟨gb715,0,none⟩=some (.slice A0_0 l0_0.length c0_0):=(blk_cell BK715.out 0).trans rfl
      have hcz50_1:wr.cell? ⟨gb715,1,none⟩=some (.slice A0_1 l0_1.length c0_1):=(blk_cell BK715.out 1).trans rfl
      have hfz50_0:=blk_frozen BK715.out 0
      have hfz50_1:=blk_frozen BK715.out 1
      go_wp2_with (first|((with_reducible refine gate_callee (f:=29) rfl ?_);refine goesL_ (some 35) rfl rfl Try.func29 zK rfl #[.agg #[.slice A0_0 l0_0.length c0_0,.slice A0_1 l0_1.length c0_1],.int .i64 t723] rfl zM ?_;(with_reducible refine (ancepsref38_Holds.calls k1 _ _ l0_0 _ _ l0_1 t723 false _ ?side1 ?side2 ?side3 ?side4 A25.out).mono ?_);(case side1=>exact zC (Kd.C_below HR0_0.out HB.out));(case side2=>exact HC0_0.out);(case side3=>exact zC (Kd.C_below HR0_1.out HB.out));(case side4=>exact HC0_1.out);rintro e w51 ⟨rfl,hb⟩;refine ⟨_,rfl,?_⟩;replace HO_6:=zA (Kd.R_below (zR HO_6) hb);replace HO_723000:=zA (Kd.R_below (zR HO_723000) hb);replace HO_723001:=zA (Kd.R_below (zR HO_723001) hb);replace BK715:=zA (blk_below (zk BK715) hb);replace BK716:=zA (blk_below (zk BK716) hb);replace BK717:=zA (blk_below (zk BK717) hb);replace BK722:=zA (blk_below (zk BK722) hb);replace HB:=zA (below_step zB hb);(try clear hb);(try clear hb2);(try clear hk);(try clear hi)))
      go_roundg k1
      case measure=>have:=HK1.out;omega
      case rel=>exact ⟨(wrap64 (x9_1+1)),(x723001_1),(u723001),zT,H',⟨by have:=HK1.out;omega⟩,⟨by refine zr ?_;exact HO_6.out⟩,⟨by refine zr ?_;exact HO_723000.out⟩,⟨by refine zr ?_;exact HO_723001.out⟩,⟨by refine zj ?_;exact BK715.out⟩,⟨by refine zj ?_;exact BK716.out⟩,⟨by refine zj ?_;exact BK717.out⟩,⟨by refine zj ?_;exact BK722.out⟩,⟨by repeat (first|(with_reducible first|exact HB.out|apply below_alloc|apply pw_below_drewN|apply below_drew1|refine below_set ?_ GE715.out|refine below_set ?_ GE716.out|refine below_set ?_ GE717.out|refine below_set ?_ GE722.out)|exact HB.out)⟩⟩
    ·rw [if_neg c22] at H
     have c22b0:decide (x9_1<(ji21))=false:=decide_eq_false c22
     clear c22
     simp only [Option.some.injEq,Prod.mk.injEq] at H
     obtain ⟨rfl,rfl,rfl⟩:=H
     have hnb52:=NB722_715.out
     have hnc52:=NB715_722.out
     have hnb53:=NB722_716.out
     have hnc53:=NB716_722.out
     have hnb54:=NB722_717.out
     have hnc54:=NB717_722.out
     have hcz55_0:wr.cell? ⟨gb722,0,none⟩=some (.slice Ao15 t718.length co15):=(blk_cell BK722.out 0).trans rfl
     have hcz55_1:wr.cell? ⟨gb722,1,none⟩=some (u723001):=(blk_cell BK722.out 1).trans rfl
     have hfz55_0:=blk_frozen BK722.out 0
     have hfz55_1:=blk_frozen BK722.out 1
     have hnb56:=NB717_715.out
     have hnc56:=NB715_717.out
     have hnb57:=NB717_716.out
     have hnc57:=NB716_717.out
     have hcz58_0:wr.cell? ⟨gb717,0,none⟩=some (.slice none 0 0):=(blk_cell BK717.out 0).trans rfl
     have hcz58_1:wr.cell? ⟨gb717,1,none⟩=some (.slice none 0 0):=(blk_cell BK717.out 1).trans rfl
     have hfz58_0:=blk_frozen BK717.out 0
     have hfz58_1:=blk_frozen BK717.out 1
     obtain ⟨Ao59,co59,eo59⟩:=Kd.R_slice HO_723001.out
     subst eo59
     go_wp2
     refine bodyPost_ret (results_ct rfl _ _ gb717 29 #[.slice Ao15 t718.length co15,.slice Ao59 x723001_1.length co59] (0,0) _ rfl (by refine zj ?_;refine blk_put (cs:=#[.slice Ao15 t718.length co15,.slice none 0 0]) ?_ 1 _ rfl;refine zj ?_;refine blk_put (cs:=#[.slice none 0 0,.slice none 0 0]) ?_ 0 _ rfl;refine zj ?_;exact BK717.out) Try.underlying29 rfl zK) rfl ?_
     exact ⟨_,_,by first|rfl|(simp [errW_none,errW_some] <;> rfl)|(simp only [← hji21];first|rfl|(simp [errW_none,errW_some] <;> rfl))|(simp [*,errW_none,errW_some] <;> rfl),by refine zr ?_;exact Kd.R_mono (Kd.R_far (p:=⟨gb717,1,none⟩) (Kd.R_far (p:=⟨gb717,0,none⟩) (Kd.R_types HO_723000.out BK717.out (by decide)) (fun _ hk=>hk.2) (.slice Ao15 t718.length co15)) (fun _ hk=>hk.2) (.slice Ao59 x723001_1.length co59)) (fun _ hk=>hk.1),by refine zr ?_;exact Kd.R_mono (Kd.R_far (p:=⟨gb717,1,none⟩) (Kd.R_far (p:=⟨gb717,0,none⟩) (Kd.R_types HO_723001.out BK717.out (by decide)) (fun _ hk=>hk.2) (.slice Ao15 t718.length co15)) (fun _ hk=>hk.2) (.slice Ao59 x723001_1.length co59)) (fun _ hk=>hk.1.2),by repeat (first|(with_reducible first|exact HB.out|apply below_alloc|apply pw_below_drewN|apply below_drew1|refine below_set ?_ GE715.out|refine below_set ?_ GE716.out|refine below_set ?_ GE717.out|refine below_set ?_ GE722.out)|exact HB.out)⟩
 ·rw [if_neg c14] at H
  have c14b0:(t721 == 0)=false:=beq_eq_false_iff_ne.mpr c14
  have c14b1:(t721 != 0)=true:=bne_iff_ne.mpr c14
  (first|rw [c14b0]|(simp only [i64_w,i32_w];rw [c14b0])|skip)
  (try rw [c14b1])
  simp only [Option.some.injEq,Prod.mk.injEq] at H
  obtain ⟨rfl,rfl,rfl⟩:=H
  have hnb60:=NB717_715.out
  have hnc60:=NB715_717.out
  have hnb61:=NB717_716.out
  have hnc61:=NB716_717.out
  have hcz62_0:w13.cell? ⟨gb717,0,none⟩=some (.slice none 0 0):=(blk_cell BK717.out 0).trans rfl
  have hcz62_1:w13.cell? ⟨gb717,1,none⟩=some (.slice none 0 0):=(blk_cell BK717.out 1).trans rfl
  have hfz62_0:=blk_frozen BK717.out 0
  have hfz62_1:=blk_frozen BK717.out 1
  go_wp2
  refine bodyPost_ret (results_ct rfl _ _ gb717 29 #[.slice none 0 0,.slice none 0 0] (0,0) _ rfl (by refine zj ?_;refine blk_put (cs:=#[.slice none 0 0,.slice none 0 0]) ?_ 1 _ rfl;refine zj ?_;refine blk_put (cs:=#[.slice none 0 0,.slice none 0 0]) ?_ 0 _ rfl;refine zj ?_;exact BK717.out) Try.underlying29 rfl zK) rfl ?_
  exact ⟨_,_,ze,by first|exact Kd.R_nil _ _ _ _ _|exact Kd.N_nil _ _ _ _ _|exact Kd.V_nil _ _ _ _ _|exact Kd.Q_nil _ _ _ _ _|exact Kd.S_nil _ _ _ _ _,by first|exact Kd.R_nil _ _ _ _ _|exact Kd.N_nil _ _ _ _ _|exact Kd.V_nil _ _ _ _ _|exact Kd.Q_nil _ _ _ _ _|exact Kd.S_nil _ _ _ _ _,by repeat (first|(with_reducible first|exact HB.out|apply below_alloc|apply pw_below_drewN|apply below_drew1|refine below_set ?_ GE715.out|refine below_set ?_ GE716.out|refine below_set ?_ GE717.out)|exact HB.out)⟩
end Go.Proofs.Ythcfmdkhkikbcaa.T
