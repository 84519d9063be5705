import Derived.Test.YthcfmdkhkikbcaaT0
import Derived.Test.YthcfmdkhkikbcaaT1
namespace Go.Proofs.Ythcfmdkhkikbcaa.T
open Go.RowKit Go.Proofs.YthcfmdkhkikbcaaW.PrintWords Go.Proofs.YthcfmdkhkikbcaaW.PrintLast Go.Proofs.YthcfmdkhkikbcaaW.PrintMore
attribute [local go_sem] max2_int min2_int max_two min_two max_three min_three max_four min_four
set_option linter.unusedVariables false
set_option linter.unusedSimpArgs false
def table_Union_1.f (a0:Bool) (a1:Bool):Option (Bool):=if a0=true then (some true) else (some a1)
set_option maxHeartbeats 8000000 in
set_option maxRecDepth 100000 in
theorem table_Union_1.calls (a0:Bool) (a1:Bool) (r:Bool) (w:World) (h:table_Union_1.f a0 a1=some r) :
  Calls Try.prog 48 #[.bool a0,.bool a1] w fun e w'=>e=.returned (.bool r)∧Drawn0 w w':=by
 have H:(if a0=true then (some true) else (some a1))=some r:=h
 clear h
 by_cases c3:a0=true
 ·subst c3
  have H1:(some true)=some r:=by rw [if_pos rfl] at H;exact H
  clear H
  have H:=H1
  clear H1
  obtain rfl:=Option.some.inj H
  go_enter Try.func48,Try.ntmps48
  go_wp2
  go_ret
  exact ⟨by first|rfl|(simp;done)|(simp [*];done),by repeat (first|exact Drawn0.refl _|apply Drawn0.step)⟩
 ·replace c3:=Bool.eq_false_iff.mpr c3
  subst c3
  have H1:(some a1)=some r:=by rw [if_neg (show ¬ (false=true) by decide)] at H;exact H
  clear H
  have H:=H1
  clear H1
  obtain rfl:=Option.some.inj H
  go_enter Try.func48,Try.ntmps48
  go_wp2
  go_ret
  exact ⟨by first|rfl|(simp;done)|(simp [*];done),by repeat (first|exact Drawn0.refl _|apply Drawn0.step)⟩
def table_combine_1_table_Union_1.f (k:Nat) (a0:Int)  (l2_0:List Int) (l2_1:List Int) (l3_0:List Int) (l3_1:List Int):Option (Bool):=(table_has.f k l2_0 l2_1 a0).bind fun t627=>((table_has.f k l3_0 l3_1 a0).bind fun t628=>((table_Union_1.f t627 t628).bind fun t629=>(some t629)))
theorem table_combine_1_table_Union_1.mono:∀ a0 a1 a2 a3 a4 k,LeO (table_combine_1_table_Union_1.f k a0 a1 a2 a3 a4) (table_combine_1_table_Union_1.f (k+1) a0 a1 a2 a3 a4):=by
 intro a0 a1 a2 a3 a4 k
 unfold table_combine_1_table_Union_1.f
 repeat' first
   | (with_reducible exact table_has.mono _ _ _ _)
   | (with_reducible exact LeO.refl _)
   | (with_reducible exact LeO.none _)
   | (with_reducible refine LeO.ite ?_ ?_)
   | (with_reducible refine LeO.bind ?_ (fun _=>?_))
   | exact LeO.none _
   | refine LeO.ite ?_ ?_
   | refine LeO.bind ?_ (fun _=>?_)
def table_combine_1_table_Union_1.T1:Bool×List (List Nat×List Nat):=(true,[([],[]),([],[]),([],[]),([1,2],[1,2]),([],[]),([],[]),([4,5,3],[4,5]),([0,3,6,6],[0,3,6]),([7,7,0,1,2,3,4,5,6,7],[7])])
def table_combine_1_table_Union_1.B1:List Nat:=[0,0,0,6,0,0,62,127,255]
theorem table_combine_1_table_Union_1.tab1:rtab .any (opsOf Try.f73 1)=table_combine_1_table_Union_1.T1:=by kernel_rfl
theorem table_combine_1_table_Union_1.bits1:waitsOk table_combine_1_table_Union_1.T1.2 table_combine_1_table_Union_1.B1=true:=by kernel_rfl
set_option maxHeartbeats 8000000 in
set_option maxRecDepth 100000 in
theorem table_combine_1_table_Union_1.calls (k:Nat) (a0:Int) (gp1_0:Nat)  (gp2_0:Nat) (A2_0:Option Addr) (c2_0:Nat) (l2_0:List Int) (A2_1:Option Addr) (c2_1:Nat) (l2_1:List Int) (gp3_0:Nat) (A3_0:Option Addr) (c3_0:Nat) (l3_0:List Int) (A3_1:Option Addr) (c3_1:Nat) (l3_1:List Int) (r:Bool) (w:World) (hb_gp1_0:w.heap[gp1_0]?=some (.cells #[.func (.func 48) #[] #[]] 60 (0,0))) (hr2_0:Kd.C (Kd.int .i64) w A2_0 l2_0.length l2_0) (hc2_0:l2_0.length≤c2_0) (hr2_1:Kd.C (Kd.int .i64) w A2_1 l2_1.length l2_1) (hc2_1:l2_1.length≤c2_1) (hb_gp2_0:w.heap[gp2_0]?=some (.cells #[.slice A2_0 l2_0.length c2_0,.slice A2_1 l2_1.length c2_1] 29 (0,0))) (hr3_0:Kd.C (Kd.int .i64) w A3_0 l3_0.length l3_0) (hc3_0:l3_0.length≤c3_0) (hr3_1:Kd.C (Kd.int .i64) w A3_1 l3_1.length l3_1) (hc3_1:l3_1.length≤c3_1) (hb_gp3_0:w.heap[gp3_0]?=some (.cells #[.slice A3_0 l3_0.length c3_0,.slice A3_1 l3_1.length c3_1] 29 (0,0))) (h:table_combine_1_table_Union_1.f k a0 l2_0 l2_1 l3_0 l3_1=some r) :
  Calls Try.prog 73 #[.int .i64 a0,.pointer (some ⟨gp1_0,0,none⟩),.pointer (some ⟨gp2_0,0,none⟩),.pointer (some ⟨gp3_0,0,none⟩)] w fun e w'=>e=.returned (.bool r)∧Below w.heap.size w w':=by
 have hu60:=Try.underlying60
 have hu29:=Try.underlying29
 have HR2_0:=zA hr2_0
 have HC2_0:=zA hc2_0
 clear hr2_0 hc2_0
 have HR2_1:=zA hr2_1
 have HC2_1:=zA hc2_1
 clear hr2_1 hc2_1
 have HR3_0:=zA hr3_0
 have HC3_0:=zA hc3_0
 clear hr3_0 hc3_0
 have HR3_1:=zA hr3_1
 have HC3_1:=zA hc3_1
 clear hr3_1 hc3_1
 have BK624:=zA hb_gp1_0
 clear hb_gp1_0
 have BK625:=zA hb_gp2_0
 clear hb_gp2_0
 have BK626:=zA hb_gp3_0
 clear hb_gp3_0
 have HB:=zA (Below.refl w.heap.size w)
 have H:((table_has.f k l2_0 l2_1 a0).bind fun t627=>((table_has.f k l3_0 l3_1 a0).bind fun t628=>((table_Union_1.f t627 t628).bind fun t629=>(some t629))))=some r:=h
 clear h
 replace H:=Option.bind_eq_some_iff.mp H
 obtain ⟨t627,A50,H⟩:=H
 replace H:((table_has.f k l3_0 l3_1 a0).bind fun t628=>((table_Union_1.f t627 t628).bind fun t629=>(some t629)))=some r:=H
 have A5:=zA A50
 clear A50
 replace H:=Option.bind_eq_some_iff.mp H
 obtain ⟨t628,A60,H⟩:=H
 replace H:((table_Union_1.f t627 t628).bind fun t629=>(some t629))=some r:=H
 have A6:=zA A60
 clear A60
 replace H:=Option.bind_eq_some_iff.mp H
 obtain ⟨t629,A70,H⟩:=H
 replace H:(some t629)=some r:=H
 have A7:=zA A70
 clear A70
 obtain rfl:=Option.some.inj H
 go_enter Try.func73,Try.ntmps73
 try go_wp2
 replace BK624:=zA (blk_drew BK624.out)
 replace BK625:=zA (blk_drew BK625.out)
 replace BK626:=zA (blk_drew BK626.out)
 replace HB:=zA (below_drew1 HB.out)
 refine start_ (n:=9) (S:=fun w'=>w'.cell? ⟨gp1_0,0,none⟩=some (.func (.func 48) #[] #[])∧w'.cell? ⟨gp2_0,0,none⟩=some (.slice A2_0 l2_0.length c2_0)∧w'.cell? ⟨gp2_0,1,none⟩=some (.slice A2_1 l2_1.length c2_1)∧w'.cell? ⟨gp3_0,0,none⟩=some (.slice A3_0 l3_0.length c3_0)∧w'.cell? ⟨gp3_0,1,none⟩=some (.slice A3_1 l3_1.length c3_1)) (ds:=[]) #[false,false,false,false,false,false,false,false,false] zK rfl rfl ⟨(blk_cell BK624.out 0).trans rfl,(blk_cell BK625.out 0).trans rfl,(blk_cell BK625.out 1).trans rfl,(blk_cell BK626.out 0).trans rfl,(blk_cell BK626.out 1).trans rfl⟩ (fun hHeld=>?_);refine with_tabW table_combine_1_table_Union_1.tab1 table_combine_1_table_Union_1.bits1 (fun HT_ HW_=>?_)
 generalize w.drew=w8 at BK624 BK625 BK626 HB hHeld ⊢
 refine pure_ (i:=2) (N:=some 8) (v:=?_) (a':=?_) #[false,false,true,false,false,false,false,false,false] rfl rfl (any_of HT_.out zK) (fun _ _ _ h=>h) (Or.inl ⟨by rfl,?_⟩) ?_ ?_
 rotate_left
 ·intro w'
  go_simp
  with_reducible rfl
 rotate_left
 ·simp only [Act.put,zi,zs,zt,i64_w,i32_w]
  rfl
 refine pure_ (i:=5) (N:=some 11) (v:=?_) (a':=?_) #[false,false,true,false,false,true,false,false,false] rfl rfl (any_of HT_.out zK) (fun _ _ _ h=>h) (Or.inl ⟨by rfl,?_⟩) ?_ ?_
 rotate_left
 ·intro w'
  go_simp
  with_reducible rfl
 rotate_left
 ·simp only [Act.put,zi,zs,zt,i64_w,i32_w]
  rfl
 refine take_ (i:=0) (N:=some 6) (v:=?_) (a':=?_) #[true,false,true,false,false,true,false,false,false] rfl rfl (take_ofW HT_.out HW_.out zK) (fun _ _ _ h=>h) (Or.inl ⟨by rfl,?_⟩) hHeld ?_ ?_
 rotate_left
 ·rintro w' ⟨s0,s1,s2,s3,s4⟩
  go_simp
  with_reducible rfl
 rotate_left
 ·simp only [Act.put,zi,zs,zt,i64_w,i32_w]
  rfl
 refine take_ (i:=1) (N:=some 7) (v:=?_) (a':=?_) #[true,true,true,false,false,true,false,false,false] rfl rfl (take_ofW HT_.out HW_.out zK) (fun _ _ _ h=>h) (Or.inl ⟨by rfl,?_⟩) hHeld ?_ ?_
 rotate_left
 ·rintro w' ⟨s0,s1,s2,s3,s4⟩
  go_simp
  with_reducible rfl
 rotate_left
 ·simp only [Act.put,zi,zs,zt,i64_w,i32_w]
  rfl
 refine take_ (i:=4) (N:=some 10) (v:=?_) (a':=?_) #[true,true,true,false,true,true,false,false,false] rfl rfl (take_ofW HT_.out HW_.out zK) (fun _ _ _ h=>h) (Or.inl ⟨by rfl,?_⟩) hHeld ?_ ?_
 rotate_left
 ·rintro w' ⟨s0,s1,s2,s3,s4⟩
  go_simp
  with_reducible rfl
 rotate_left
 ·simp only [Act.put,zi,zs,zt,i64_w,i32_w]
  rfl
 refine one_ (i:=3) (N:=some 9) #[true,true,true,true,true,true,false,false,false] rfl rfl (one_of HT_.out zK) (by decide) (fun K hK=>?_)
 refine goes_ Try.func50 zK rfl #[.agg #[.slice A2_0 l2_0.length c2_0,.slice A2_1 l2_1.length c2_1],.int .i64 a0] (by rfl) rfl rfl zM ?_
 with_reducible refine (table_has.calls k _ _ l2_0 _ _ l2_1 a0 t627 _ ?side1 ?side2 ?side3 ?side4 A5.out).mono ?_
 (case side1=>exact zC (Kd.C_below HR2_0.out HB.out))
 (case side2=>exact HC2_0.out)
 (case side3=>exact zC (Kd.C_below HR2_1.out HB.out))
 (case side4=>exact HC2_1.out)
 rintro e w9 ⟨rfl,hb⟩
 refine ⟨_,rfl,?_⟩
 replace BK624:=zA (zb BK624 hb)
 replace BK625:=zA (zb BK625 hb)
 replace BK626:=zA (zb BK626 hb)
 replace HB:=zA (below_step zB hb)
 (try clear hb)
 (try clear hb2)
 (try clear hk)
 (try clear hi)
 refine hK.out _ _ ⟨(blk_cell BK624.out 0).trans rfl,(blk_cell BK625.out 0).trans rfl,(blk_cell BK625.out 1).trans rfl,(blk_cell BK626.out 0).trans rfl,(blk_cell BK626.out 1).trans rfl⟩ (fun hHeld=>?_)
 clear hK K
 refine norm_ (a':=?_) ?_ ?_
 rotate_left
 ·show Act.put _ (some 9) _=_
  simp only [Act.put,zi,zs,zt,i64_w,i32_w]
  rfl
 refine one_ (i:=6) (N:=some 12) #[true,true,true,true,true,true,true,false,false] rfl rfl (one_of HT_.out zK) (by decide) (fun K hK=>?_)
 refine goes_ Try.func50 zK rfl #[.agg #[.slice A3_0 l3_0.length c3_0,.slice A3_1 l3_1.length c3_1],.int .i64 a0] (by rfl) rfl rfl zM ?_
 with_reducible refine (table_has.calls k _ _ l3_0 _ _ l3_1 a0 t628 _ ?side1 ?side2 ?side3 ?side4 A6.out).mono ?_
 (case side1=>exact zC (Kd.C_below HR3_0.out HB.out))
 (case side2=>exact HC3_0.out)
 (case side3=>exact zC (Kd.C_below HR3_1.out HB.out))
 (case side4=>exact HC3_1.out)
 rintro e w10 ⟨rfl,hb⟩
 refine ⟨_,rfl,?_⟩
 replace BK624:=zA (zb BK624 hb)
 replace BK625:=zA (zb BK625 hb)
 replace BK626:=zA (zb BK626 hb)
 replace HB:=zA (below_step zB hb)
 (try clear hb)
 (try clear hb2)
 (try clear hk)
 (try clear hi)
 refine hK.out _ _ ⟨(blk_cell BK624.out 0).trans rfl,(blk_cell BK625.out 0).trans rfl,(blk_cell BK625.out 1).trans rfl,(blk_cell BK626.out 0).trans rfl,(blk_cell BK626.out 1).trans rfl⟩ (fun hHeld=>?_)
 clear hK K
 refine norm_ (a':=?_) ?_ ?_
 rotate_left
 ·show Act.put _ (some 12) _=_
  simp only [Act.put,zi,zs,zt,i64_w,i32_w]
  rfl
 refine one_ (i:=7) (N:=some 13) #[true,true,true,true,true,true,true,true,false] rfl rfl (one_of HT_.out zK) (by decide) (fun K hK=>?_)
 refine goesV_ Try.func48 zK rfl #[.bool t627,.bool t628] #[] (by rfl) rfl rfl (by rfl) zM ?_
 with_reducible refine (table_Union_1.calls t627 t628 t629 _ A7.out).mono ?_
 rintro e w' ⟨rfl,⟨nd,rfl⟩⟩
 refine ⟨_,rfl,?_⟩
 refine hK.out _ _ ⟨(blk_cell BK624.out 0).trans rfl,(blk_cell BK625.out 0).trans rfl,(blk_cell BK625.out 1).trans rfl,(blk_cell BK626.out 0).trans rfl,(blk_cell BK626.out 1).trans rfl⟩ (fun hHeld=>?_)
 clear hK K
 refine norm_ (a':=?_) ?_ ?_
 rotate_left
 ·show Act.put _ (some 13) _=_
  simp only [Act.put,zi,zs,zt,i64_w,i32_w]
  rfl
 refine pure_ (i:=8) (N:=some 5) (v:=?_) (a':=?_) #[true,true,true,true,true,true,true,true,true] rfl rfl (any_of HT_.out zK) (fun _ _ _ h=>h) (Or.inl ⟨by rfl,?_⟩) ?_ ?_
 rotate_left
 ·intro w'
  go_simp
  with_reducible rfl
 rotate_left
 ·simp only [Act.put,zi,zs,zt,i64_w,i32_w]
  rfl
 refine done_ (done_of HT_.out zK) ?_
 try go_wp2
 go_ret
 exact ⟨ze,by repeat (first|(with_reducible first|exact HB.out|apply below_alloc|apply pw_below_drewN|apply below_drew1|refine below_set ?_ GE624.out|refine below_set ?_ GE625.out|refine below_set ?_ GE626.out)|exact HB.out)⟩
def table_over_table_combine_1_table_Union_1.l0:Nat→List Int→Int→Int→List Int→List Int→List Int→List Int→List Int→List Int→Option (List Int×List Int)
 | 0,_,_,_,_,_,_,_,_,_=>none
 | k+1,x0,x12,x13,x626000,x626001,x627000,x627001,x632000,x632001=>if x13<x12 then ((table_assignment.f k x0 x13).bind fun t632=>((table_combine_1_table_Union_1.f k t632 x626000 x626001 x627000 x627001).bind fun t633=>(if t633=true then (if x632001.length<17592186044416 then (table_over_table_combine_1_table_Union_1.l0 k x0 x12 (wrap64 (x13+1)) x626000 x626001 x627000 x627001 x632000 (x632001++[x13])) else (none)) else (table_over_table_combine_1_table_Union_1.l0 k x0 x12 (wrap64 (x13+1)) x626000 x626001 x627000 x627001 x632000 x632001)))) else (some (x632000,x632001))
def table_over_table_combine_1_table_Union_1.f (k:Nat) (l0:List Int) (l1_0:List Int) (l1_1:List Int) (l1_2:List Int) (l1_3:List Int):Option (List Int×List Int):=(slices_Clone_int_int.f l0).bind fun t628=>(table_over_table_combine_1_table_Union_1.l0 k l0 (shl .i64 1 (l0.length:Int)) 0 l1_0 l1_1 l1_2 l1_3 t628 ([]:List Int))
theorem table_over_table_combine_1_table_Union_1.mono_l:∀ k,(∀ y0 y1 y2 y3 y4 y5 y6 y7 y8,LeO (table_over_table_combine_1_table_Union_1.l0 k y0 y1 y2 y3 y4 y5 y6 y7 y8) (table_over_table_combine_1_table_Union_1.l0 (k+1) y0 y1 y2 y3 y4 y5 y6 y7 y8))
 | 0=>fun _ _ _ _ _ _ _ _ _ r h=>by simp [table_over_table_combine_1_table_Union_1.l0] at h
 | k+1=>by
  have ih0:=table_over_table_combine_1_table_Union_1.mono_l k
  ·intro y0 y1 y2 y3 y4 y5 y6 y7 y8
   unfold table_over_table_combine_1_table_Union_1.l0
   repeat' first
   | (with_reducible exact ih0 _ _ _ _ _ _ _ _ _)
   | (with_reducible exact table_assignment.mono _ _ _)
   | (with_reducible exact table_combine_1_table_Union_1.mono _ _ _ _ _ _)
   | (with_reducible exact LeO.refl _)
   | (with_reducible exact LeO.none _)
   | (with_reducible refine LeO.ite ?_ ?_)
   | (with_reducible refine LeO.bind ?_ (fun _=>?_))
   | exact LeO.none _
   | refine LeO.ite ?_ ?_
   | refine LeO.bind ?_ (fun _=>?_)
theorem table_over_table_combine_1_table_Union_1.mono:∀ a0 a1 a2 a3 a4 k,LeO (table_over_table_combine_1_table_Union_1.f k a0 a1 a2 a3 a4) (table_over_table_combine_1_table_Union_1.f (k+1) a0 a1 a2 a3 a4):=by
 intro a0 a1 a2 a3 a4 k
 have ih0:=table_over_table_combine_1_table_Union_1.mono_l k
 unfold table_over_table_combine_1_table_Union_1.f
 repeat' first
   | (with_reducible exact ih0 _ _ _ _ _ _ _ _ _)
   | (with_reducible exact table_assignment.mono _ _ _)
   | (with_reducible exact table_combine_1_table_Union_1.mono _ _ _ _ _ _)
   | (with_reducible exact LeO.refl _)
   | (with_reducible exact LeO.none _)
   | (with_reducible refine LeO.ite ?_ ?_)
   | (with_reducible refine LeO.bind ?_ (fun _=>?_))
   | exact LeO.none _
   | refine LeO.ite ?_ ?_
   | refine LeO.bind ?_ (fun _=>?_)
set_option maxHeartbeats 8000000 in
set_option maxRecDepth 100000 in
theorem table_over_table_combine_1_table_Union_1.calls (k:Nat) (A0:Option Addr) (c0:Nat) (l0:List Int) (gp1_0:Nat) (gp1_1:Nat) (gp1_2:Nat) (A1_0:Option Addr) (c1_0:Nat) (l1_0:List Int) (A1_1:Option Addr) (c1_1:Nat) (l1_1:List Int) (A1_2:Option Addr) (c1_2:Nat) (l1_2:List Int) (A1_3:Option Addr) (c1_3:Nat) (l1_3:List Int) (r1:List Int) (r2:List Int) (w:World) (hr0:Kd.C (Kd.int .i64) w A0 l0.length l0) (hc0:l0.length≤c0) (hr1_0:Kd.C (Kd.int .i64) w A1_0 l1_0.length l1_0) (hc1_0:l1_0.length≤c1_0) (hr1_1:Kd.C (Kd.int .i64) w A1_1 l1_1.length l1_1) (hc1_1:l1_1.length≤c1_1) (hr1_2:Kd.C (Kd.int .i64) w A1_2 l1_2.length l1_2) (hc1_2:l1_2.length≤c1_2) (hr1_3:Kd.C (Kd.int .i64) w A1_3 l1_3.length l1_3) (hc1_3:l1_3.length≤c1_3) (hb_gp1_0:w.heap[gp1_0]?=some (.cells #[.func (.func 48) #[] #[]] 60 (0,0))) (hb_gp1_1:w.heap[gp1_1]?=some (.cells #[.slice A1_0 l1_0.length c1_0,.slice A1_1 l1_1.length c1_1] 29 (0,0))) (hb_gp1_2:w.heap[gp1_2]?=some (.cells #[.slice A1_2 l1_2.length c1_2,.slice A1_3 l1_3.length c1_3] 29 (0,0))) (h:table_over_table_combine_1_table_Union_1.f k l0 l1_0 l1_1 l1_2 l1_3=some (r1,r2)) :
  Calls Try.prog 59 #[.slice A0 l0.length c0,.func (.func 73) #[] #[.pointer (some ⟨gp1_0,0,none⟩),.pointer (some ⟨gp1_1,0,none⟩),.pointer (some ⟨gp1_2,0,none⟩)]] w fun e w'=>∃ v0_ v1_:Value,e=.returned (.agg #[v0_,v1_])∧Kd.R (Kd.int .i64) 3 w' w.heap.size (fun k_=>some k_≠(v1_:Value).ownBlock) v0_ r1∧Kd.R (Kd.int .i64) 3 w' w.heap.size (fun k_=>some k_≠(v0_:Value).ownBlock) v1_ r2∧Below w.heap.size w w':=by
 have hu29:=Try.underlying29
 have hu27:=Try.underlying27
 have HR0:=zA hr0
 have HC0:=zA hc0
 clear hr0 hc0
 have HR1_0:=zA hr1_0
 have HC1_0:=zA hc1_0
 clear hr1_0 hc1_0
 have HR1_1:=zA hr1_1
 have HC1_1:=zA hc1_1
 clear hr1_1 hc1_1
 have HR1_2:=zA hr1_2
 have HC1_2:=zA hc1_2
 clear hr1_2 hc1_2
 have HR1_3:=zA hr1_3
 have HC1_3:=zA hc1_3
 clear hr1_3 hc1_3
 have BK624:=zA hb_gp1_0
 clear hb_gp1_0
 have BK625:=zA hb_gp1_1
 clear hb_gp1_1
 have BK626:=zA hb_gp1_2
 clear hb_gp1_2
 have HB:=zA (Below.refl w.heap.size w)
 have H:((slices_Clone_int_int.f l0).bind fun t628=>(table_over_table_combine_1_table_Union_1.l0 k l0 (shl .i64 1 (l0.length:Int)) 0 l1_0 l1_1 l1_2 l1_3 t628 ([]:List Int)))=some (r1,r2):=h
 clear h
 replace H:=Option.bind_eq_some_iff.mp H
 obtain ⟨t628,A30,H⟩:=H
 replace H:(table_over_table_combine_1_table_Union_1.l0 k l0 (shl .i64 1 (l0.length:Int)) 0 l1_0 l1_1 l1_2 l1_3 t628 ([]:List Int))=some (r1,r2):=H
 have A3:=zA A30
 clear A30
 obtain ⟨ji4,hji4⟩:∃ j_:Int,(shl .i64 1 (l0.length:Int))=j_:=⟨_,rfl⟩
 replace H:(table_over_table_combine_1_table_Union_1.l0 k l0 ji4 0 l1_0 l1_1 l1_2 l1_3 t628 ([]:List Int))=some (r1,r2):=by first|(rw [hji4] at H;exact H)|(simp only [hji4] at H ⊢;exact H)
 (try rw [hji4] at A3)
 have hji4_:(IntKind.i64.wrap (1 * 2 ^ min (l0.length:Int).toNat 64))=ji4:=hji4
 have hji4z:(l0.length:Int)≤64→(IntKind.i64.wrap (1 * 2 ^ (l0.length:Int).toNat))=ji4:=shl_small hji4
 have hji4p:(IntKind.i64.wrap (1 * 2 ^ min l0.length 64))=ji4:=hji4_
 have hji4q:(l0.length:Int)≤64→(IntKind.i64.wrap (1 * 2 ^ l0.length))=ji4:=hji4z
 have hji4r:(IntKind.i64.wrap (2 ^ min l0.length 64))=ji4:=by have h_:=hji4p;rw [Int.one_mul] at h_;exact h_
 have hji4s:(l0.length:Int)≤64→(IntKind.i64.wrap (2 ^ l0.length))=ji4:=fun hle_=>by have h_:=hji4q hle_;rw [Int.one_mul] at h_;exact h_
 have hji4u:(IntKind.i64.wrap (2 ^ min (l0.length:Int).toNat 64))=ji4:=by have h_:=hji4_;rw [Int.one_mul] at h_;exact h_
 have hji4v:(l0.length:Int)≤64→(IntKind.i64.wrap (2 ^ (l0.length:Int).toNat))=ji4:=fun hle_=>by have h_:=hji4z hle_;rw [Int.one_mul] at h_;exact h_
 have hji4y:(wrap64 (1 * 2 ^ min (l0.length:Int).toNat 64))=ji4:=(i64_w _).symm.trans hji4_
 have hji4x:(l0.length:Int)≤64→(wrap64 (1 * 2 ^ (l0.length:Int).toNat))=ji4:=fun h_=>(i64_w _).symm.trans (hji4z h_)
 have H':=zA H
 clear H
 go_enter Try.func59,Try.ntmps59
 go_wp2_with (first|((with_reducible refine gate_dst (N:=4) rfl ?_);refine box_event ?hg (N:=4) ?hd (cs:=#[.slice none 0 0,.slice none 0 0]) (t:=29) ?hr ?_;(case hd=>rfl);(case hg=>rfl);(case hr=>first|(go_simp;done)|(go_simp;rfl));intro gb627 hg w5 hbox hb;have BK627:=zA (hbox);have GW627:=zA (zG hg (below_size zB):w.heap.size≤gb627);have GE627:=GW627;have NB624_627:=zA ((zl hg (zk BK624):gp1_0≠gb627));have NB627_624:=zA ((zg hg (zk BK624):gb627≠gp1_0));have NB625_627:=zA ((zl hg (zk BK625):gp1_1≠gb627));have NB627_625:=zA ((zg hg (zk BK625):gb627≠gp1_1));have NB626_627:=zA ((zl hg (zk BK626):gp1_2≠gb627));have NB627_626:=zA ((zg hg (zk BK626):gb627≠gp1_2));replace BK624:=zA (zb BK624 hb);replace BK625:=zA (zb BK625 hb);replace BK626:=zA (zb BK626 hb);replace HB:=zA (below_step zB hb);clear hb hbox hg)|((with_reducible refine gate_callee (f:=42) rfl ?_);refine goesL_ (some 8) rfl rfl Try.func42 zK rfl #[.slice A0 l0.length c0] rfl zM ?_;(with_reducible refine (slices_Clone_int_int.calls _ _ l0 t628 _ ?side1 ?side2 A3.out).mono ?_);(case side1=>exact zC (Kd.C_below HR0.out HB.out));(case side2=>exact HC0.out);rintro e w6 ⟨v629,rfl,ho0,hb⟩;refine ⟨_,rfl,?_⟩;have HO630:=zA (Kd.R_lower ho0 (below_size zB));replace BK624:=zA (zb BK624 hb);replace BK625:=zA (zb BK625 hb);replace BK626:=zA (zb BK626 hb);replace BK627:=zA (zb BK627 hb);replace HB:=zA (below_step zB hb);(try clear hb);(try clear hb2);(try clear hk);(try clear hi);(try clear ho0);obtain ⟨Ao7,co7,eo7⟩:=Kd.R_slice HO630.out;subst eo7)|((with_reducible refine gate_dst (N:=5) rfl ?_);refine box_event ?hg (N:=5) ?hd (cs:=#[.slice none 0 0,.slice none 0 0]) (t:=29) ?hr ?_;(case hd=>rfl);(case hg=>rfl);(case hr=>first|(go_simp;done)|(go_simp;rfl));intro gb631 hg w8 hbox hb;have BK631:=zA (hbox);have GW631:=zA (zG hg (below_size zB):w.heap.size≤gb631);have GE631:=GW631;have NB624_631:=zA ((zl hg (zk BK624):gp1_0≠gb631));have NB631_624:=zA ((zg hg (zk BK624):gb631≠gp1_0));have NB625_631:=zA ((zl hg (zk BK625):gp1_1≠gb631));have NB631_625:=zA ((zg hg (zk BK625):gb631≠gp1_1));have NB626_631:=zA ((zl hg (zk BK626):gp1_2≠gb631));have NB631_626:=zA ((zg hg (zk BK626):gb631≠gp1_2));have NB627_631:=zA ((zl hg (zk BK627):gb627≠gb631));have NB631_627:=zA ((zg hg (zk BK627):gb631≠gb627));replace HO630:=zA (Kd.R_below (zR HO630) hb);replace BK624:=zA (zb BK624 hb);replace BK625:=zA (zb BK625 hb);replace BK626:=zA (zb BK626 hb);replace BK627:=zA (zb BK627 hb);replace HB:=zA (below_step zB hb);clear hb hbox hg;have hnb9:=NB631_624.out;have hnc9:=NB624_631.out;have hnb10:=NB631_625.out;have hnc10:=NB625_631.out;have hnb11:=NB631_626.out;have hnc11:=NB626_631.out;have hnb12:=NB631_627.out;have hnc12:=NB627_631.out;have hcz13_0:w8.cell? ⟨gb631,0,none⟩=some (.slice none 0 0):=(blk_cell BK631.out 0).trans rfl;have hcz13_1:w8.cell? ⟨gb631,1,none⟩=some (.slice none 0 0):=(blk_cell BK631.out 1).trans rfl;have hfz13_0:=blk_frozen BK631.out 0;have hfz13_1:=blk_frozen BK631.out 1))
 go_loopg [13] k (fun kq v13 w'=>∃ (x13_1:Int) (x632001_1:List Int) (u632001:Value),v13=.int .i64 x13_1∧Aside0 (table_over_table_combine_1_table_Union_1.l0 kq l0 ji4 x13_1 l1_0 l1_1 l1_2 l1_3 t628 x632001_1=some (r1,r2))∧Aside0 (kq≤k)∧Aside0 (Kd.R (Kd.int .i64) 3 w' w.heap.size (fun k_=>some k_≠(u632001:Value).ownBlock) (.slice Ao7 t628.length co7) t628)∧Aside0 (Kd.R (Kd.int .i64) 3 w' w.heap.size (fun k_=>some k_≠((.slice Ao7 t628.length co7):Value).ownBlock) u632001 x632001_1)∧Aside0 (w'.heap[gp1_0]?=some (.cells #[.func (.func 48) #[] #[]] 60 (0,0)))∧Aside0 (w'.heap[gp1_1]?=some (.cells #[(.slice A1_0 l1_0.length c1_0),(.slice A1_1 l1_1.length c1_1)] 29 (0,0)))∧Aside0 (w'.heap[gp1_2]?=some (.cells #[(.slice A1_2 l1_2.length c1_2),(.slice A1_3 l1_3.length c1_3)] 29 (0,0)))∧Aside0 (w'.heap[gb627]?=some (.cells #[(.slice none 0 0),(.slice none 0 0)] 29 (0,0)))∧Aside0 (w'.heap[gb631]?=some (.cells #[(.slice Ao7 t628.length co7),u632001] 29 (0,0)))∧Aside0 (Below w.heap.size w w'))
 case atStart=>exact ⟨(0),(([]:List Int)),(.slice none 0 0),zT,H',⟨Nat.le_refl _⟩,⟨by refine zr ?_;exact Kd.R_mono (Kd.R_far (p:=⟨gb631,1,none⟩) (Kd.R_far (p:=⟨gb631,0,none⟩) (Kd.R_types HO630.out BK631.out (by decide)) (fun _ hk=>hk.2) (.slice Ao7 t628.length co7)) (fun _ hk=>hk.2) (.slice none 0 0)) (fun _ hk=>(by simp [Value.ownBlock]))⟩,⟨by first|exact Kd.R_nil _ _ _ _ _|exact Kd.N_nil _ _ _ _ _|exact Kd.V_nil _ _ _ _ _|exact Kd.Q_nil _ _ _ _ _|exact Kd.S_nil _ _ _ _ _⟩,⟨by refine zj ?_;refine blk_far ?_ NB624_631.out _;refine zj ?_;refine blk_far ?_ NB624_631.out _;refine zj ?_;exact BK624.out⟩,⟨by refine zj ?_;refine blk_far ?_ NB625_631.out _;refine zj ?_;refine blk_far ?_ NB625_631.out _;refine zj ?_;exact BK625.out⟩,⟨by refine zj ?_;refine blk_far ?_ NB626_631.out _;refine zj ?_;refine blk_far ?_ NB626_631.out _;refine zj ?_;exact BK626.out⟩,⟨by refine zj ?_;refine blk_far ?_ NB627_631.out _;refine zj ?_;refine blk_far ?_ NB627_631.out _;refine zj ?_;exact BK627.out⟩,⟨by refine zj ?_;refine blk_put (cs:=#[.slice Ao7 t628.length co7,.slice none 0 0]) ?_ 1 _ rfl;refine zj ?_;refine blk_put (cs:=#[.slice none 0 0,.slice none 0 0]) ?_ 0 _ rfl;refine zj ?_;exact BK631.out⟩,⟨by repeat (first|(with_reducible first|exact HB.out|apply below_alloc|apply pw_below_drewN|apply below_drew1|refine below_set ?_ GE624.out|refine below_set ?_ GE625.out|refine below_set ?_ GE626.out|refine below_set ?_ GE627.out|refine below_set ?_ GE631.out)|exact HB.out)⟩⟩
 case round=>
  clear H'
  try clear hcz13_0
  try clear hcz13_1
  try clear hfz13_0
  try clear hfz13_1
  obtain ⟨x13_1,x632001_1,u632001,rfl,HA,HK1,HO_632000,HO_632001,BK624,BK625,BK626,BK627,BK631,HB⟩:=hrel
  cases gk with
  | zero=>exact absurd HA.out (by simp [table_over_table_combine_1_table_Union_1.l0])
  | succ k1=>
   have H:=HA.out
   clear HA
   simp only [table_over_table_combine_1_table_Union_1.l0] at H
   by_cases c14:x13_1<ji4
   ·rw [if_pos c14] at H
    have c14b0:decide (x13_1<ji4)=true:=decide_eq_true c14
    clear c14
    replace H:=Option.bind_eq_some_iff.mp H
    obtain ⟨t632,A150,H⟩:=H
    replace H:((table_combine_1_table_Union_1.f k1 t632 l1_0 l1_1 l1_2 l1_3).bind fun t633=>(if t633=true then (if x632001_1.length<17592186044416 then (table_over_table_combine_1_table_Union_1.l0 k1 l0 ji4 (wrap64 (x13_1+1)) l1_0 l1_1 l1_2 l1_3 t628 (x632001_1++[x13_1])) else (none)) else (table_over_table_combine_1_table_Union_1.l0 k1 l0 ji4 (wrap64 (x13_1+1)) l1_0 l1_1 l1_2 l1_3 t628 x632001_1)))=some (r1,r2):=H
    have A15:=zA A150
    clear A150
    replace H:=Option.bind_eq_some_iff.mp H
    obtain ⟨t633,A160,H⟩:=H
    replace H:(if t633=true then (if x632001_1.length<17592186044416 then (table_over_table_combine_1_table_Union_1.l0 k1 l0 ji4 (wrap64 (x13_1+1)) l1_0 l1_1 l1_2 l1_3 t628 (x632001_1++[x13_1])) else (none)) else (table_over_table_combine_1_table_Union_1.l0 k1 l0 ji4 (wrap64 (x13_1+1)) l1_0 l1_1 l1_2 l1_3 t628 x632001_1))=some (r1,r2):=H
    have A16:=zA A160
    clear A160
    have HC17:=zA H
    clear H
    go_upto_if 20 with (first|((with_reducible refine gate_callee (f:=69) rfl ?_);refine goesL_ (some 19) rfl rfl Try.func69 zK rfl #[.slice A0 l0.length c0,.int .i64 x13_1] rfl zM ?_;(with_reducible refine (table_assignment.calls k1 _ _ l0 x13_1 t632 _ ?side1 ?side2 A15.out).mono ?_);(case side1=>exact zC (Kd.C_below HR0.out HB.out));(case side2=>exact HC0.out);rintro e w' ⟨rfl,⟨nd,rfl⟩⟩;refine ⟨_,rfl,?_⟩)|(go_at_call 73;(with_reducible refine (table_combine_1_table_Union_1.calls k1 t632 gp1_0 gp1_1 A1_0 c1_0 l1_0 A1_1 c1_1 l1_1 gp1_2 A1_2 c1_2 l1_2 A1_3 c1_3 l1_3 t633 _ ?side1 ?side2 ?side3 ?side4 ?side5 ?side6 ?side7 ?side8 ?side9 ?side10 ?side11 A16.out).mono ?_);(case side1=>refine zj ?_;exact BK624.out);(case side2=>repeat (first|exact (Kd.C_below HR1_0.out zB)|(with_reducible refine Kd.C_alloc ?_ _)|(with_reducible refine Kd.C_drewN ?_ _)|(with_reducible refine Kd.C_drew ?_)));(case side3=>exact HC1_0.out);(case side4=>repeat (first|exact (Kd.C_below HR1_1.out zB)|(with_reducible refine Kd.C_alloc ?_ _)|(with_reducible refine Kd.C_drewN ?_ _)|(with_reducible refine Kd.C_drew ?_)));(case side5=>exact HC1_1.out);(case side6=>refine zj ?_;exact BK625.out);(case side7=>repeat (first|exact (Kd.C_below HR1_2.out zB)|(with_reducible refine Kd.C_alloc ?_ _)|(with_reducible refine Kd.C_drewN ?_ _)|(with_reducible refine Kd.C_drew ?_)));(case side8=>exact HC1_2.out);(case side9=>repeat (first|exact (Kd.C_below HR1_3.out zB)|(with_reducible refine Kd.C_alloc ?_ _)|(with_reducible refine Kd.C_drewN ?_ _)|(with_reducible refine Kd.C_drew ?_)));(case side10=>exact HC1_3.out);(case side11=>refine zj ?_;exact BK626.out);rintro e w18 ⟨rfl,hb⟩;replace HO_632000:=zA (Kd.R_below (zR HO_632000) hb);replace HO_632001:=zA (Kd.R_below (zR HO_632001) hb);replace BK624:=zA (zb BK624 hb);replace BK625:=zA (zb BK625 hb);replace BK626:=zA (zb BK626 hb);replace BK627:=zA (zb BK627 hb);replace BK631:=zA (zb BK631 hb);replace HB:=zA (below_step zB hb);(try clear hb);(try clear hb2);(try clear hk);(try clear hi)))
    (try simp only [Act.put,zi,zs,zt])
    have H:=HC17.out
    clear HC17
    by_cases c19:t633=true
    ·subst c19
     have H1:(if x632001_1.length<17592186044416 then (table_over_table_combine_1_table_Union_1.l0 k1 l0 ji4 (wrap64 (x13_1+1)) l1_0 l1_1 l1_2 l1_3 t628 (x632001_1++[x13_1])) else (none))=some (r1,r2):=by rw [if_pos rfl] at H;exact H
     clear H
     have H:=H1
     clear H1
     by_cases c20:x632001_1.length<17592186044416
     ·rw [if_pos c20] at H
      have LMc20:=zA c20
      clear c20
      obtain ⟨y634,hy634⟩:∃ y_:List Int,y_=(x632001_1++[x13_1]):=⟨_,rfl⟩
      replace H:(table_over_table_combine_1_table_Union_1.l0 k1 l0 ji4 (wrap64 (x13_1+1)) l1_0 l1_1 l1_2 l1_3 t628 y634)=some (r1,r2):=by first|(rw [hy634];with_reducible exact H)|(have H2_:=(Option.bind_some _ _).symm.trans H;rw [hy634];with_reducible exact H2_)|(have H2_:=(Option.bind_some _ _).symm.trans H;with_reducible exact H2_)|with_reducible exact H|(rw [hy634];exact H)|exact H
      have Ny634:=zA hy634
      clear hy634
      have H':=zA H
      clear H
      have hnb21:=NB631_624.out
      have hnc21:=NB624_631.out
      have hnb22:=NB631_625.out
      have hnc22:=NB625_631.out
      have hnb23:=NB631_626.out
      have hnc23:=NB626_631.out
      have hnb24:=NB631_627.out
      have hnc24:=NB627_631.out
      have hcz25_0:w18.cell? ⟨gb631,0,none⟩=some (.slice Ao7 t628.length co7):=(blk_cell BK631.out 0).trans rfl
      have hcz25_1:w18.cell? ⟨gb631,1,none⟩=some (u632001):=(blk_cell BK631.out 1).trans rfl
      have hfz25_0:=blk_frozen BK631.out 0
      have hfz25_1:=blk_frozen BK631.out 1
      go_wp2_with (first|((with_reducible refine gate_builtin (b:=.append) (xs:=#[.tmp 22,.tmp 24]) rfl ?_);at_builtin;refine Kd.R_append (Kd.int .i64) (w0:=w) w.heap.size rfl (.tmp 22) (.tmp 24) 27 3 (.int .i64 0) 8 rfl Try.underlying27 info3 rfl (by decide) (by omega) u632001 x632001_1 x13_1 [.int .i64 x13_1] (fun k_=>some k_≠(.slice Ao7 t628.length co7:Value).ownBlock) (fun _=>False) rfl rfl ?aP (fun _ hk=>hk.elim) ?aF ?aO ?aB ?aS ?aL ?_;(case aP=>exact rfl);(case aB=>exact zB);(case aF=>exact (fun k_ hk=>Kd.fresh' (Kd.R_lt (zR HO_632000)) k_ hk));(case aO=>exact (zR HO_632001));(case aS=>exact (below_size zB));(case aL=>have:=LMc20.out;omega);intro v635 w26 ho hb hg hat;rw [← Ny634.out] at ho;have HO636:=zA (ho);replace HO_632000:=zA (Kd.R_after (ok:=(fun _=>True)) (by refine zr ?_;exact Kd.R_mono HO_632000.out (fun _ hk=>⟨trivial,hk⟩)) hg hat);replace BK624:=zA (blk_grown (g:=gp1_0) (o:=.cells #[.func (.func 48) #[] #[]] 60 (0,0)) (zk BK624) hg (Kd.R_ne HO_632001.out BK624.out (by decide)));replace BK625:=zA (blk_grown (g:=gp1_1) (o:=.cells #[.slice A1_0 l1_0.length c1_0,.slice A1_1 l1_1.length c1_1] 29 (0,0)) (zk BK625) hg (Kd.R_ne HO_632001.out BK625.out (by decide)));replace BK626:=zA (blk_grown (g:=gp1_2) (o:=.cells #[.slice A1_2 l1_2.length c1_2,.slice A1_3 l1_3.length c1_3] 29 (0,0)) (zk BK626) hg (Kd.R_ne HO_632001.out BK626.out (by decide)));replace BK627:=zA (blk_grown (g:=gb627) (o:=.cells #[.slice none 0 0,.slice none 0 0] 29 (0,0)) (zk BK627) hg (Kd.R_ne HO_632001.out BK627.out (by decide)));replace BK631:=zA (blk_grown (g:=gb631) (o:=.cells #[.slice Ao7 t628.length co7,u632001] 29 (0,0)) (zk BK631) hg (Kd.R_ne HO_632001.out BK631.out (by decide)));replace HB:=zA (hb);clear HO_632001;clear ho hb hg hat;obtain ⟨Ao27,co27,eo27⟩:=Kd.R_slice HO636.out;subst eo27;have hcz28_0:w26.cell? ⟨gb631,0,none⟩=some (.slice Ao7 t628.length co7):=(blk_cell BK631.out 0).trans rfl;have hcz28_1:w26.cell? ⟨gb631,1,none⟩=some (u632001):=(blk_cell BK631.out 1).trans rfl;have hfz28_0:=blk_frozen BK631.out 0;have hfz28_1:=blk_frozen BK631.out 1))
      go_roundg k1
      case measure=>have:=HK1.out;omega
      case rel=>exact ⟨(wrap64 (x13_1+1)),(y634),(.slice Ao27 y634.length co27),zT,H',⟨by have:=HK1.out;omega⟩,⟨by refine zr ?_;exact Kd.R_mono (Kd.R_far (p:=⟨gb631,1,none⟩) (Kd.R_types HO_632000.out BK631.out (by decide)) (fun _ hk=>hk.2) (.slice Ao27 y634.length co27)) (fun _ hk=>hk.1.2)⟩,⟨by refine zr ?_;exact Kd.R_mono (Kd.R_far (p:=⟨gb631,1,none⟩) (Kd.R_types HO636.out BK631.out (by decide)) (fun _ hk=>hk.2) (.slice Ao27 y634.length co27)) (fun _ hk=>hk.1)⟩,⟨by refine zj ?_;refine blk_far ?_ NB624_631.out _;refine zj ?_;exact BK624.out⟩,⟨by refine zj ?_;refine blk_far ?_ NB625_631.out _;refine zj ?_;exact BK625.out⟩,⟨by refine zj ?_;refine blk_far ?_ NB626_631.out _;refine zj ?_;exact BK626.out⟩,⟨by refine zj ?_;refine blk_far ?_ NB627_631.out _;refine zj ?_;exact BK627.out⟩,⟨by refine zj ?_;refine blk_put (cs:=#[.slice Ao7 t628.length co7,u632001]) ?_ 1 _ rfl;refine zj ?_;exact BK631.out⟩,⟨by repeat (first|(with_reducible first|exact HB.out|apply below_alloc|apply pw_below_drewN|apply below_drew1|refine below_set ?_ GE624.out|refine below_set ?_ GE625.out|refine below_set ?_ GE626.out|refine below_set ?_ GE627.out|refine below_set ?_ GE631.out)|exact HB.out)⟩⟩
     ·rw [if_neg c20] at H
      exact absurd H (by simp)
    ·replace c19:=Bool.eq_false_iff.mpr c19
     subst c19
     have H1:(table_over_table_combine_1_table_Union_1.l0 k1 l0 ji4 (wrap64 (x13_1+1)) l1_0 l1_1 l1_2 l1_3 t628 x632001_1)=some (r1,r2):=by rw [if_neg (show ¬ (false=true) by decide)] at H;exact H
     clear H
     have H:=H1
     clear H1
     have H':=zA H
     clear H
     go_wp2
     go_roundg k1
     case measure=>have:=HK1.out;omega
     case rel=>exact ⟨(wrap64 (x13_1+1)),(x632001_1),(u632001),zT,H',⟨by have:=HK1.out;omega⟩,⟨by refine zr ?_;exact HO_632000.out⟩,⟨by refine zr ?_;exact HO_632001.out⟩,⟨by refine zj ?_;exact BK624.out⟩,⟨by refine zj ?_;exact BK625.out⟩,⟨by refine zj ?_;exact BK626.out⟩,⟨by refine zj ?_;exact BK627.out⟩,⟨by refine zj ?_;exact BK631.out⟩,⟨by repeat (first|(with_reducible first|exact HB.out|apply below_alloc|apply pw_below_drewN|apply below_drew1|refine below_set ?_ GE624.out|refine below_set ?_ GE625.out|refine below_set ?_ GE626.out|refine below_set ?_ GE627.out|refine below_set ?_ GE631.out)|exact HB.out)⟩⟩
   ·rw [if_neg c14] at H
    have c14b0:decide (x13_1<ji4)=false:=decide_eq_false c14
    clear c14
    simp only [Option.some.injEq,Prod.mk.injEq] at H
    obtain ⟨rfl,rfl⟩:=H
    have hnb29:=NB631_624.out
    have hnc29:=NB624_631.out
    have hnb30:=NB631_625.out
    have hnc30:=NB625_631.out
    have hnb31:=NB631_626.out
    have hnc31:=NB626_631.out
    have hnb32:=NB631_627.out
    have hnc32:=NB627_631.out
    have hcz33_0:wr.cell? ⟨gb631,0,none⟩=some (.slice Ao7 t628.length co7):=(blk_cell BK631.out 0).trans rfl
    have hcz33_1:wr.cell? ⟨gb631,1,none⟩=some (u632001):=(blk_cell BK631.out 1).trans rfl
    have hfz33_0:=blk_frozen BK631.out 0
    have hfz33_1:=blk_frozen BK631.out 1
    have hnb34:=NB627_624.out
    have hnc34:=NB624_627.out
    have hnb35:=NB627_625.out
    have hnc35:=NB625_627.out
    have hnb36:=NB627_626.out
    have hnc36:=NB626_627.out
    have hcz37_0:wr.cell? ⟨gb627,0,none⟩=some (.slice none 0 0):=(blk_cell BK627.out 0).trans rfl
    have hcz37_1:wr.cell? ⟨gb627,1,none⟩=some (.slice none 0 0):=(blk_cell BK627.out 1).trans rfl
    have hfz37_0:=blk_frozen BK627.out 0
    have hfz37_1:=blk_frozen BK627.out 1
    obtain ⟨Ao38,co38,eo38⟩:=Kd.R_slice HO_632001.out
    subst eo38
    go_wp2
    refine bodyPost_ret (results_cell_row rfl _ _ gb627 29 #[.slice Ao7 t628.length co7,.slice Ao38 x632001_1.length co38] (0,0) _ rfl (by refine zj ?_;refine blk_put (cs:=#[.slice Ao7 t628.length co7,.slice none 0 0]) ?_ 1 _ rfl;refine zj ?_;refine blk_put (cs:=#[.slice none 0 0,.slice none 0 0]) ?_ 0 _ rfl;refine zj ?_;exact BK627.out) Try.underlying29 rfl zK) rfl ?_
    exact ⟨_,_,by first|rfl|(simp [errW_none,errW_some] <;> rfl)|(simp only [← hji4];first|rfl|(simp [errW_none,errW_some] <;> rfl))|(simp [*,errW_none,errW_some] <;> rfl),by refine zr ?_;exact Kd.R_mono (Kd.R_far (p:=⟨gb627,1,none⟩) (Kd.R_far (p:=⟨gb627,0,none⟩) (Kd.R_types HO_632000.out BK627.out (by decide)) (fun _ hk=>hk.2) (.slice Ao7 t628.length co7)) (fun _ hk=>hk.2) (.slice Ao38 x632001_1.length co38)) (fun _ hk=>hk.1),by refine zr ?_;exact Kd.R_mono (Kd.R_far (p:=⟨gb627,1,none⟩) (Kd.R_far (p:=⟨gb627,0,none⟩) (Kd.R_types HO_632001.out BK627.out (by decide)) (fun _ hk=>hk.2) (.slice Ao7 t628.length co7)) (fun _ hk=>hk.2) (.slice Ao38 x632001_1.length co38)) (fun _ hk=>hk.1),by repeat (first|(with_reducible first|exact HB.out|apply below_alloc|apply pw_below_drewN|apply below_drew1|refine below_set ?_ GE624.out|refine below_set ?_ GE625.out|refine below_set ?_ GE626.out|refine below_set ?_ GE627.out|refine below_set ?_ GE631.out)|exact HB.out)⟩
def table_combine_table_Union_1.f (k:Nat) (l0_0:List Int) (l0_1:List Int) (l1_0:List Int) (l1_1:List Int) :Option (List Int×List Int×Int):=(table_Valid.f k l0_0 l0_1).bind fun t641=>(if t641=0 then ((table_Valid.f k l1_0 l1_1).bind fun t642=>(if t642=0 then ((table_all.f k l0_0 l1_0).bind fun t643=>(if (t643.length:Int)>10 then (some (([]:List Int),([]:List Int),3)) else ((table_over_table_combine_1_table_Union_1.f k t643 l0_0 l0_1 l1_0 l1_1).bind fun bt646=>(some (bt646.1,bt646.2,0))))) else (some (([]:List Int),([]:List Int),t642)))) else (some (([]:List Int),([]:List Int),t641)))
theorem table_combine_table_Union_1.mono:∀ a0 a1 a2 a3 k,LeO (table_combine_table_Union_1.f k a0 a1 a2 a3) (table_combine_table_Union_1.f (k+1) a0 a1 a2 a3):=by
 intro a0 a1 a2 a3 k
 unfold table_combine_table_Union_1.f
 repeat' first
   | (with_reducible exact table_Valid.mono _ _ _)
   | (with_reducible exact table_all.mono _ _ _)
   | (with_reducible exact table_over_table_combine_1_table_Union_1.mono _ _ _ _ _ _)
   | (with_reducible exact LeO.refl _)
   | (with_reducible exact LeO.none _)
   | (with_reducible refine LeO.ite ?_ ?_)
   | (with_reducible refine LeO.bind ?_ (fun _=>?_))
   | exact LeO.none _
   | refine LeO.ite ?_ ?_
   | refine LeO.bind ?_ (fun _=>?_)
set_option maxHeartbeats 8000000 in
set_option maxRecDepth 100000 in
theorem table_combine_table_Union_1.calls (k:Nat) (A0_0:Option Addr) (c0_0:Nat) (l0_0:List Int) (A0_1:Option Addr) (c0_1:Nat) (l0_1:List Int) (A1_0:Option Addr) (c1_0:Nat) (l1_0:List Int) (A1_1:Option Addr) (c1_1:Nat) (l1_1:List Int)  (r1:List Int) (r2:List Int) (r3:Int) (w:World) (hr0_0:Kd.C (Kd.int .i64) w A0_0 l0_0.length l0_0) (hc0_0:l0_0.length≤c0_0) (hr0_1:Kd.C (Kd.int .i64) w A0_1 l0_1.length l0_1) (hc0_1:l0_1.length≤c0_1) (hr1_0:Kd.C (Kd.int .i64) w A1_0 l1_0.length l1_0) (hc1_0:l1_0.length≤c1_0) (hr1_1:Kd.C (Kd.int .i64) w A1_1 l1_1.length l1_1) (hc1_1:l1_1.length≤c1_1) (h:table_combine_table_Union_1.f k l0_0 l0_1 l1_0 l1_1=some (r1,r2,r3)) :
  Calls Try.prog 46 #[.agg #[.slice A0_0 l0_0.length c0_0,.slice A0_1 l0_1.length c0_1],.agg #[.slice A1_0 l1_0.length c1_0,.slice A1_1 l1_1.length c1_1],.func (.func 48) #[] #[]] w fun e w'=>∃ v0_ v1_:Value,e=.returned (.tuple #[.agg #[v0_,v1_],.int .i64 r3])∧Kd.R (Kd.int .i64) 3 w' w.heap.size (fun k_=>some k_≠(v1_:Value).ownBlock) v0_ r1∧Kd.R (Kd.int .i64) 3 w' w.heap.size (fun k_=>some k_≠(v0_:Value).ownBlock) v1_ r2∧Below w.heap.size w w':=by
 have hu29:=Try.underlying29
 have hu60:=Try.underlying60
 have hu27:=Try.underlying27
 have HR0_0:=zA hr0_0
 have HC0_0:=zA hc0_0
 clear hr0_0 hc0_0
 have HR0_1:=zA hr0_1
 have HC0_1:=zA hc0_1
 clear hr0_1 hc0_1
 have HR1_0:=zA hr1_0
 have HC1_0:=zA hc1_0
 clear hr1_0 hc1_0
 have HR1_1:=zA hr1_1
 have HC1_1:=zA hc1_1
 clear hr1_1 hc1_1
 have HB:=zA (Below.refl w.heap.size w)
 have H:((table_Valid.f k l0_0 l0_1).bind fun t641=>(if t641=0 then ((table_Valid.f k l1_0 l1_1).bind fun t642=>(if t642=0 then ((table_all.f k l0_0 l1_0).bind fun t643=>(if (t643.length:Int)>10 then (some (([]:List Int),([]:List Int),3)) else ((table_over_table_combine_1_table_Union_1.f k t643 l0_0 l0_1 l1_0 l1_1).bind fun bt646=>(some (bt646.1,bt646.2,0))))) else (some (([]:List Int),([]:List Int),t642)))) else (some (([]:List Int),([]:List Int),t641))))=some (r1,r2,r3):=h
 clear h
 replace H:=Option.bind_eq_some_iff.mp H
 obtain ⟨t641,A40,H⟩:=H
 replace H:(if t641=0 then ((table_Valid.f k l1_0 l1_1).bind fun t642=>(if t642=0 then ((table_all.f k l0_0 l1_0).bind fun t643=>(if (t643.length:Int)>10 then (some (([]:List Int),([]:List Int),3)) else ((table_over_table_combine_1_table_Union_1.f k t643 l0_0 l0_1 l1_0 l1_1).bind fun bt646=>(some (bt646.1,bt646.2,0))))) else (some (([]:List Int),([]:List Int),t642)))) else (some (([]:List Int),([]:List Int),t641)))=some (r1,r2,r3):=H
 have A4:=zA A40
 clear A40
 have HC5:=zA H
 clear H
 go_enter Try.func46,Try.ntmps46
 go_upto_if 14 with (first|((with_reducible refine gate_dst (N:=3) rfl ?_);refine box_event ?hg (N:=3) ?hd (cs:=#[.slice A0_0 l0_0.length c0_0,.slice A0_1 l0_1.length c0_1]) (t:=29) ?hr ?_;(case hd=>rfl);(case hg=>rfl);(case hr=>first|(go_simp;done)|(go_simp;rfl));intro gb637 hg w6 hbox hb;have BK637:=zA (hbox);have GW637:=zA (zG hg (below_size zB):w.heap.size≤gb637);have GE637:=GW637;replace HB:=zA (below_step zB hb);clear hb hbox hg)|((with_reducible refine gate_dst (N:=4) rfl ?_);refine box_event ?hg (N:=4) ?hd (cs:=#[.slice A1_0 l1_0.length c1_0,.slice A1_1 l1_1.length c1_1]) (t:=29) ?hr ?_;(case hd=>rfl);(case hg=>rfl);(case hr=>first|(go_simp;done)|(go_simp;rfl));intro gb638 hg w7 hbox hb;have BK638:=zA (hbox);have GW638:=zA (zG hg (below_size zB):w.heap.size≤gb638);have GE638:=GW638;have NB637_638:=zA ((zl hg (zk BK637):gb637≠gb638));have NB638_637:=zA ((zg hg (zk BK637):gb638≠gb637));replace BK637:=zA (zb BK637 hb);replace HB:=zA (below_step zB hb);clear hb hbox hg)|((with_reducible refine gate_dst (N:=5) rfl ?_);refine box_event ?hg (N:=5) ?hd (cs:=#[.func (.func 48) #[] #[]]) (t:=60) ?hr ?_;(case hd=>rfl);(case hg=>rfl);(case hr=>first|(go_simp;done)|(go_simp;rfl));intro gb639 hg w8 hbox hb;have BK639:=zA (hbox);have GW639:=zA (zG hg (below_size zB):w.heap.size≤gb639);have GE639:=GW639;have NB637_639:=zA ((zl hg (zk BK637):gb637≠gb639));have NB639_637:=zA ((zg hg (zk BK637):gb639≠gb637));have NB638_639:=zA ((zl hg (zk BK638):gb638≠gb639));have NB639_638:=zA ((zg hg (zk BK638):gb639≠gb638));replace BK637:=zA (zb BK637 hb);replace BK638:=zA (zb BK638 hb);replace HB:=zA (below_step zB hb);clear hb hbox hg)|((with_reducible refine gate_dst (N:=6) rfl ?_);refine box_event ?hg (N:=6) ?hd (cs:=#[.slice none 0 0,.slice none 0 0]) (t:=29) ?hr ?_;(case hd=>rfl);(case hg=>rfl);(case hr=>first|(go_simp;done)|(go_simp;rfl));intro gb640 hg w9 hbox hb;have BK640:=zA (hbox);have GW640:=zA (zG hg (below_size zB):w.heap.size≤gb640);have GE640:=GW640;have NB637_640:=zA ((zl hg (zk BK637):gb637≠gb640));have NB640_637:=zA ((zg hg (zk BK637):gb640≠gb637));have NB638_640:=zA ((zl hg (zk BK638):gb638≠gb640));have NB640_638:=zA ((zg hg (zk BK638):gb640≠gb638));have NB639_640:=zA ((zl hg (zk BK639):gb639≠gb640));have NB640_639:=zA ((zg hg (zk BK639):gb640≠gb639));replace BK637:=zA (zb BK637 hb);replace BK638:=zA (zb BK638 hb);replace BK639:=zA (zb BK639 hb);replace HB:=zA (below_step zB hb);clear hb hbox hg;have hnb10:=NB637_638.out;have hnc10:=NB638_637.out;have hnb11:=NB637_639.out;have hnc11:=NB639_637.out;have hnb12:=NB637_640.out;have hnc12:=NB640_637.out;have hcz13_0:w9.cell? ⟨gb637,0,none⟩=some (.slice A0_0 l0_0.length c0_0):=(blk_cell BK637.out 0).trans rfl;have hcz13_1:w9.cell? ⟨gb637,1,none⟩=some (.slice A0_1 l0_1.length c0_1):=(blk_cell BK637.out 1).trans rfl;have hfz13_0:=blk_frozen BK637.out 0;have hfz13_1:=blk_frozen BK637.out 1)|((with_reducible refine gate_callee (f:=25) rfl ?_);refine goesL_ (some 12) rfl rfl Try.func25 zK rfl #[.agg #[.slice A0_0 l0_0.length c0_0,.slice A0_1 l0_1.length c0_1]] rfl zM ?_;(with_reducible refine (table_Valid.calls k _ _ l0_0 _ _ l0_1 t641 _ ?side1 ?side2 ?side3 ?side4 A4.out).mono ?_);(case side1=>exact zC (Kd.C_below HR0_0.out HB.out));(case side2=>exact HC0_0.out);(case side3=>exact zC (Kd.C_below HR0_1.out HB.out));(case side4=>exact HC0_1.out);rintro e w14 ⟨rfl,hb⟩;refine ⟨_,rfl,?_⟩;replace BK637:=zA (zb BK637 hb);replace BK638:=zA (zb BK638 hb);replace BK639:=zA (zb BK639 hb);replace BK640:=zA (zb BK640 hb);replace HB:=zA (below_step zB hb);(try clear hb);(try clear hb2);(try clear hk);(try clear hi)))
 (try simp only [Act.put,zi,zs,zt])
 have H:=HC5.out
 clear HC5
 by_cases c15:t641=0
 ·rw [if_pos c15] at H
  have c15b0:(t641 == 0)=true:=beq_iff_eq.mpr c15
  have c15b1:(t641 != 0)=false:=bne_eq_false_iff_eq.mpr c15
  clear c15
  (first|rw [c15b0]|(simp only [i64_w,i32_w];rw [c15b0])|skip)
  (try rw [c15b1])
  replace H:=Option.bind_eq_some_iff.mp H
  obtain ⟨t642,A160,H⟩:=H
  replace H:(if t642=0 then ((table_all.f k l0_0 l1_0).bind fun t643=>(if (t643.length:Int)>10 then (some (([]:List Int),([]:List Int),3)) else ((table_over_table_combine_1_table_Union_1.f k t643 l0_0 l0_1 l1_0 l1_1).bind fun bt646=>(some (bt646.1,bt646.2,0))))) else (some (([]:List Int),([]:List Int),t642)))=some (r1,r2,r3):=H
  have A16:=zA A160
  clear A160
  have HC17:=zA H
  clear H
  have hnb18:=NB638_637.out
  have hnc18:=NB637_638.out
  have hnb19:=NB638_639.out
  have hnc19:=NB639_638.out
  have hnb20:=NB638_640.out
  have hnc20:=NB640_638.out
  have hcz21_0:w14.cell? ⟨gb638,0,none⟩=some (.slice A1_0 l1_0.length c1_0):=(blk_cell BK638.out 0).trans rfl
  have hcz21_1:w14.cell? ⟨gb638,1,none⟩=some (.slice A1_1 l1_1.length c1_1):=(blk_cell BK638.out 1).trans rfl
  have hfz21_0:=blk_frozen BK638.out 0
  have hfz21_1:=blk_frozen BK638.out 1
  go_upto_if 20 with (first|((with_reducible refine gate_callee (f:=25) rfl ?_);refine goesL_ (some 18) rfl rfl Try.func25 zK rfl #[.agg #[.slice A1_0 l1_0.length c1_0,.slice A1_1 l1_1.length c1_1]] rfl zM ?_;(with_reducible refine (table_Valid.calls k _ _ l1_0 _ _ l1_1 t642 _ ?side1 ?side2 ?side3 ?side4 A16.out).mono ?_);(case side1=>exact zC (Kd.C_below HR1_0.out HB.out));(case side2=>exact HC1_0.out);(case side3=>exact zC (Kd.C_below HR1_1.out HB.out));(case side4=>exact HC1_1.out);rintro e w22 ⟨rfl,hb⟩;refine ⟨_,rfl,?_⟩;replace BK637:=zA (zb BK637 hb);replace BK638:=zA (zb BK638 hb);replace BK639:=zA (zb BK639 hb);replace BK640:=zA (zb BK640 hb);replace HB:=zA (below_step zB hb);(try clear hb);(try clear hb2);(try clear hk);(try clear hi)))
  (try simp only [Act.put,zi,zs,zt])
  have H:=HC17.out
  clear HC17
  by_cases c23:t642=0
  ·rw [if_pos c23] at H
   have c23b0:(t642 == 0)=true:=beq_iff_eq.mpr c23
   have c23b1:(t642 != 0)=false:=bne_eq_false_iff_eq.mpr c23
   clear c23
   (first|rw [c23b0]|(simp only [i64_w,i32_w];rw [c23b0])|skip)
   (try rw [c23b1])
   replace H:=Option.bind_eq_some_iff.mp H
   obtain ⟨t643,A240,H⟩:=H
   replace H:(if (t643.length:Int)>10 then (some (([]:List Int),([]:List Int),3)) else ((table_over_table_combine_1_table_Union_1.f k t643 l0_0 l0_1 l1_0 l1_1).bind fun bt646=>(some (bt646.1,bt646.2,0))))=some (r1,r2,r3):=H
   have A24:=zA A240
   clear A240
   have HC25:=zA H
   clear H
   have hnb26:=NB637_638.out
   have hnc26:=NB638_637.out
   have hnb27:=NB637_639.out
   have hnc27:=NB639_637.out
   have hnb28:=NB637_640.out
   have hnc28:=NB640_637.out
   have hcz29_0:w22.cell? ⟨gb637,0,none⟩=some (.slice A0_0 l0_0.length c0_0):=(blk_cell BK637.out 0).trans rfl
   have hcz29_1:w22.cell? ⟨gb637,1,none⟩=some (.slice A0_1 l0_1.length c0_1):=(blk_cell BK637.out 1).trans rfl
   have hfz29_0:=blk_frozen BK637.out 0
   have hfz29_1:=blk_frozen BK637.out 1
   have hnb30:=NB638_639.out
   have hnc30:=NB639_638.out
   have hnb31:=NB638_640.out
   have hnc31:=NB640_638.out
   have hcz32_0:w22.cell? ⟨gb638,0,none⟩=some (.slice A1_0 l1_0.length c1_0):=(blk_cell BK638.out 0).trans rfl
   have hcz32_1:w22.cell? ⟨gb638,1,none⟩=some (.slice A1_1 l1_1.length c1_1):=(blk_cell BK638.out 1).trans rfl
   have hfz32_0:=blk_frozen BK638.out 0
   have hfz32_1:=blk_frozen BK638.out 1
   go_upto_if 30 with (first|((with_reducible refine gate_callee (f:=64) rfl ?_);refine goesL_ (some 27) rfl rfl Try.func64 zK rfl #[.slice A0_0 l0_0.length c0_0,.slice A1_0 l1_0.length c1_0] rfl zM ?_;(with_reducible refine (table_all.calls k (fun k_=>k_<w.heap.size) _ _ l0_0 (fun k_=>k_<w.heap.size) _ _ l1_0 t643 _ ?side1 ?side2 A24.out).mono ?_);(case side1=>exact Kd.V_mk HC0_0.out (Kd.F_below (Kd.C_F (Kd.heap_int .i64) HR0_0.out) zB));(case side2=>exact Kd.V_mk HC1_0.out (Kd.F_below (Kd.C_F (Kd.heap_int .i64) HR1_0.out) zB));rintro e w33 ⟨v644,rfl,ho0,hb⟩;refine ⟨_,rfl,?_⟩;have HO645:=zA (Kd.R_lower (Kd.R_mono (ok':=fun k_=>True) ho0 (fun _ hk_=>trivial)) (below_size zB));replace BK637:=zA (zb BK637 hb);replace BK638:=zA (zb BK638 hb);replace BK639:=zA (zb BK639 hb);replace BK640:=zA (zb BK640 hb);replace HB:=zA (below_step zB hb);(try clear hb);(try clear hb2);(try clear hk);(try clear hi);(try clear ho0);obtain ⟨Ao34,co34,eo34⟩:=Kd.R_slice HO645.out;subst eo34))
   (try simp only [Act.put,zi,zs,zt])
   have H:=HC25.out
   clear HC25
   by_cases c35:(t643.length:Int)>10
   ·rw [if_pos c35] at H
    have c35b0:decide (10<(t643.length:Int))=true:=decide_eq_true c35
    have c35b1:decide (10<t643.length)=true:=decide_eq_true (by omega)
    clear c35
    (first|rw [c35b0]|(simp only [i64_w,i32_w];rw [c35b0])|skip)
    (try rw [c35b1])
    simp only [Option.some.injEq,Prod.mk.injEq] at H
    obtain ⟨rfl,rfl,rfl⟩:=H
    have hnb36:=NB640_637.out
    have hnc36:=NB637_640.out
    have hnb37:=NB640_638.out
    have hnc37:=NB638_640.out
    have hnb38:=NB640_639.out
    have hnc38:=NB639_640.out
    have hcz39_0:w33.cell? ⟨gb640,0,none⟩=some (.slice none 0 0):=(blk_cell BK640.out 0).trans rfl
    have hcz39_1:w33.cell? ⟨gb640,1,none⟩=some (.slice none 0 0):=(blk_cell BK640.out 1).trans rfl
    have hfz39_0:=blk_frozen BK640.out 0
    have hfz39_1:=blk_frozen BK640.out 1
    go_wp2
    refine bodyPost_ret (results_ct rfl _ _ gb640 29 #[.slice none 0 0,.slice none 0 0] (0,0) _ rfl (by refine zj ?_;refine blk_put (cs:=#[.slice none 0 0,.slice none 0 0]) ?_ 1 _ rfl;refine zj ?_;refine blk_put (cs:=#[.slice none 0 0,.slice none 0 0]) ?_ 0 _ rfl;refine zj ?_;exact BK640.out) Try.underlying29 rfl zK) rfl ?_
    exact ⟨_,_,ze,by first|exact Kd.R_nil _ _ _ _ _|exact Kd.N_nil _ _ _ _ _|exact Kd.V_nil _ _ _ _ _|exact Kd.Q_nil _ _ _ _ _|exact Kd.S_nil _ _ _ _ _,by first|exact Kd.R_nil _ _ _ _ _|exact Kd.N_nil _ _ _ _ _|exact Kd.V_nil _ _ _ _ _|exact Kd.Q_nil _ _ _ _ _|exact Kd.S_nil _ _ _ _ _,by repeat (first|(with_reducible first|exact HB.out|apply below_alloc|apply pw_below_drewN|apply below_drew1|refine below_set ?_ GE637.out|refine below_set ?_ GE638.out|refine below_set ?_ GE639.out|refine below_set ?_ GE640.out)|exact HB.out)⟩
   ·rw [if_neg c35] at H
    have c35b0:decide (10<(t643.length:Int))=false:=decide_eq_false c35
    have c35b1:decide (10<t643.length)=false:=decide_eq_false (by omega)
    clear c35
    (first|rw [c35b0]|(simp only [i64_w,i32_w];rw [c35b0])|skip)
    (try rw [c35b1])
    replace H:=Option.bind_eq_some_iff.mp H
    obtain ⟨⟨t646,t649⟩,A400,H⟩:=H
    replace H:(some (t646,t649,0))=some (r1,r2,r3):=H
    have A40:=zA A400
    clear A400
    simp only [Option.some.injEq,Prod.mk.injEq] at H
    obtain ⟨rfl,rfl,rfl⟩:=H
    go_wp2_with (first|((with_reducible refine gate_callee (f:=59) rfl ?_);refine goesL_ (some 34) rfl rfl Try.func59 zK rfl #[.slice Ao34 t643.length co34,.func (.func 73) #[] #[.pointer (some ⟨gb639,0,none⟩),.pointer (some ⟨gb637,0,none⟩),.pointer (some ⟨gb638,0,none⟩)]] rfl zM ?_;(with_reducible refine (table_over_table_combine_1_table_Union_1.calls k _ _ t643 gb639 gb637 gb638 A0_0 c0_0 l0_0 A0_1 c0_1 l0_1 A1_0 c1_0 l1_0 A1_1 c1_1 l1_1 t646 t649 _ ?side1 ?side2 ?side3 ?side4 ?side5 ?side6 ?side7 ?side8 ?side9 ?side10 ?side11 ?side12 ?side13 A40.out).mono ?_);(case side1=>exact zC (Kd.R_reads' HO645.out).2.2);(case side2=>exact (Kd.R_reads' HO645.out).2.1);(case side3=>exact zC (Kd.C_below HR0_0.out HB.out));(case side4=>exact HC0_0.out);(case side5=>exact zC (Kd.C_below HR0_1.out HB.out));(case side6=>exact HC0_1.out);(case side7=>exact zC (Kd.C_below HR1_0.out HB.out));(case side8=>exact HC1_0.out);(case side9=>exact zC (Kd.C_below HR1_1.out HB.out));(case side10=>exact HC1_1.out);(case side11=>refine zj ?_;exact BK639.out);(case side12=>refine zj ?_;exact BK637.out);(case side13=>refine zj ?_;exact BK638.out);rintro e w41 ⟨v647,v650,rfl,ho0,ho1,hb⟩;refine ⟨_,rfl,?_⟩;have HO648:=zA (Kd.R_lower (Kd.R_new' ho0 (Kd.R_lt (zR HO645))) (below_size zB));have HO651:=zA (Kd.R_lower (Kd.R_new' ho1 (Kd.R_lt (zR HO645))) (below_size zB));replace HO645:=zA (Kd.R_mono (Kd.R_told (Kd.R_told (Kd.R_old (zR HO645) hb) (Kd.R_base ho0)) (Kd.R_base ho1)) (fun _ h_=>h_.1));replace BK637:=zA (zb BK637 hb);replace BK638:=zA (zb BK638 hb);replace BK639:=zA (zb BK639 hb);replace BK640:=zA (zb BK640 hb);replace HB:=zA (below_step zB hb);(try clear hb);(try clear hb2);(try clear hk);(try clear hi);(try clear ho0);(try clear ho1);obtain ⟨Ao42,co42,eo42⟩:=Kd.R_slice HO648.out;subst eo42;have hnb43:=NB640_637.out;have hnc43:=NB637_640.out;have hnb44:=NB640_638.out;have hnc44:=NB638_640.out;have hnb45:=NB640_639.out;have hnc45:=NB639_640.out;have hcz46_0:w41.cell? ⟨gb640,0,none⟩=some (.slice none 0 0):=(blk_cell BK640.out 0).trans rfl;have hcz46_1:w41.cell? ⟨gb640,1,none⟩=some (.slice none 0 0):=(blk_cell BK640.out 1).trans rfl;have hfz46_0:=blk_frozen BK640.out 0;have hfz46_1:=blk_frozen BK640.out 1;obtain ⟨Ao47,co47,eo47⟩:=Kd.R_slice HO651.out;subst eo47))
    refine bodyPost_ret (results_ct rfl _ _ gb640 29 #[.slice Ao42 t646.length co42,.slice Ao47 t649.length co47] (0,0) _ rfl (by refine zj ?_;refine blk_put (cs:=#[.slice Ao42 t646.length co42,.slice none 0 0]) ?_ 1 _ rfl;refine zj ?_;refine blk_put (cs:=#[.slice none 0 0,.slice none 0 0]) ?_ 0 _ rfl;refine zj ?_;exact BK640.out) Try.underlying29 rfl zK) rfl ?_
    exact ⟨_,_,ze,by refine zr ?_;exact Kd.R_mono (Kd.R_far (p:=⟨gb640,1,none⟩) (Kd.R_far (p:=⟨gb640,0,none⟩) (Kd.R_types HO648.out BK640.out (by decide)) (fun _ hk=>hk.2) (.slice Ao42 t646.length co42)) (fun _ hk=>hk.2) (.slice Ao47 t649.length co47)) (fun _ hk=>hk.1.1),by refine zr ?_;exact Kd.R_mono (Kd.R_far (p:=⟨gb640,1,none⟩) (Kd.R_far (p:=⟨gb640,0,none⟩) (Kd.R_types HO651.out BK640.out (by decide)) (fun _ hk=>hk.2) (.slice Ao42 t646.length co42)) (fun _ hk=>hk.2) (.slice Ao47 t649.length co47)) (fun _ hk=>hk.1.1),by repeat (first|(with_reducible first|exact HB.out|apply below_alloc|apply pw_below_drewN|apply below_drew1|refine below_set ?_ GE637.out|refine below_set ?_ GE638.out|refine below_set ?_ GE639.out|refine below_set ?_ GE640.out)|exact HB.out)⟩
  ·rw [if_neg c23] at H
   have c23b0:(t642 == 0)=false:=beq_eq_false_iff_ne.mpr c23
   have c23b1:(t642 != 0)=true:=bne_iff_ne.mpr c23
   (first|rw [c23b0]|(simp only [i64_w,i32_w];rw [c23b0])|skip)
   (try rw [c23b1])
   simp only [Option.some.injEq,Prod.mk.injEq] at H
   obtain ⟨rfl,rfl,rfl⟩:=H
   have hnb48:=NB640_637.out
   have hnc48:=NB637_640.out
   have hnb49:=NB640_638.out
   have hnc49:=NB638_640.out
   have hnb50:=NB640_639.out
   have hnc50:=NB639_640.out
   have hcz51_0:w22.cell? ⟨gb640,0,none⟩=some (.slice none 0 0):=(blk_cell BK640.out 0).trans rfl
   have hcz51_1:w22.cell? ⟨gb640,1,none⟩=some (.slice none 0 0):=(blk_cell BK640.out 1).trans rfl
   have hfz51_0:=blk_frozen BK640.out 0
   have hfz51_1:=blk_frozen BK640.out 1
   go_wp2
   refine bodyPost_ret (results_ct rfl _ _ gb640 29 #[.slice none 0 0,.slice none 0 0] (0,0) _ rfl (by refine zj ?_;refine blk_put (cs:=#[.slice none 0 0,.slice none 0 0]) ?_ 1 _ rfl;refine zj ?_;refine blk_put (cs:=#[.slice none 0 0,.slice none 0 0]) ?_ 0 _ rfl;refine zj ?_;exact BK640.out) Try.underlying29 rfl zK) rfl ?_
   exact ⟨_,_,ze,by first|exact Kd.R_nil _ _ _ _ _|exact Kd.N_nil _ _ _ _ _|exact Kd.V_nil _ _ _ _ _|exact Kd.Q_nil _ _ _ _ _|exact Kd.S_nil _ _ _ _ _,by first|exact Kd.R_nil _ _ _ _ _|exact Kd.N_nil _ _ _ _ _|exact Kd.V_nil _ _ _ _ _|exact Kd.Q_nil _ _ _ _ _|exact Kd.S_nil _ _ _ _ _,by repeat (first|(with_reducible first|exact HB.out|apply below_alloc|apply pw_below_drewN|apply below_drew1|refine below_set ?_ GE637.out|refine below_set ?_ GE638.out|refine below_set ?_ GE639.out|refine below_set ?_ GE640.out)|exact HB.out)⟩
 ·rw [if_neg c15] at H
  have c15b0:(t641 == 0)=false:=beq_eq_false_iff_ne.mpr c15
  have c15b1:(t641 != 0)=true:=bne_iff_ne.mpr c15
  (first|rw [c15b0]|(simp only [i64_w,i32_w];rw [c15b0])|skip)
  (try rw [c15b1])
  simp only [Option.some.injEq,Prod.mk.injEq] at H
  obtain ⟨rfl,rfl,rfl⟩:=H
  have hnb52:=NB640_637.out
  have hnc52:=NB637_640.out
  have hnb53:=NB640_638.out
  have hnc53:=NB638_640.out
  have hnb54:=NB640_639.out
  have hnc54:=NB639_640.out
  have hcz55_0:w14.cell? ⟨gb640,0,none⟩=some (.slice none 0 0):=(blk_cell BK640.out 0).trans rfl
  have hcz55_1:w14.cell? ⟨gb640,1,none⟩=some (.slice none 0 0):=(blk_cell BK640.out 1).trans rfl
  have hfz55_0:=blk_frozen BK640.out 0
  have hfz55_1:=blk_frozen BK640.out 1
  go_wp2
  refine bodyPost_ret (results_ct rfl _ _ gb640 29 #[.slice none 0 0,.slice none 0 0] (0,0) _ rfl (by refine zj ?_;refine blk_put (cs:=#[.slice none 0 0,.slice none 0 0]) ?_ 1 _ rfl;refine zj ?_;refine blk_put (cs:=#[.slice none 0 0,.slice none 0 0]) ?_ 0 _ rfl;refine zj ?_;exact BK640.out) Try.underlying29 rfl zK) rfl ?_
  exact ⟨_,_,ze,by first|exact Kd.R_nil _ _ _ _ _|exact Kd.N_nil _ _ _ _ _|exact Kd.V_nil _ _ _ _ _|exact Kd.Q_nil _ _ _ _ _|exact Kd.S_nil _ _ _ _ _,by first|exact Kd.R_nil _ _ _ _ _|exact Kd.N_nil _ _ _ _ _|exact Kd.V_nil _ _ _ _ _|exact Kd.Q_nil _ _ _ _ _|exact Kd.S_nil _ _ _ _ _,by repeat (first|(with_reducible first|exact HB.out|apply below_alloc|apply pw_below_drewN|apply below_drew1|refine below_set ?_ GE637.out|refine below_set ?_ GE638.out|refine below_set ?_ GE639.out|refine below_set ?_ GE640.out)|exact HB.out)⟩
def table_Union.f (k:Nat) (l0_0:List Int) (l0_1:List Int) (l1_0:List Int) (l1_1:List Int):Option (List Int×List Int×Int):=(table_combine_table_Union_1.f k l0_0 l0_1 l1_0 l1_1).bind fun bt655=>(some (bt655.1,bt655.2.1,bt655.2.2))
theorem table_Union.mono:∀ a0 a1 a2 a3 k,LeO (table_Union.f k a0 a1 a2 a3) (table_Union.f (k+1) a0 a1 a2 a3):=by
 intro a0 a1 a2 a3 k
 unfold table_Union.f
 repeat' first
   | (with_reducible exact table_combine_table_Union_1.mono _ _ _ _ _)
   | (with_reducible exact LeO.refl _)
   | (with_reducible exact LeO.none _)
   | (with_reducible refine LeO.ite ?_ ?_)
   | (with_reducible refine LeO.bind ?_ (fun _=>?_))
   | exact LeO.none _
   | refine LeO.ite ?_ ?_
   | refine LeO.bind ?_ (fun _=>?_)
set_option maxHeartbeats 8000000 in
set_option maxRecDepth 100000 in
theorem table_Union.calls (k:Nat) (A0_0:Option Addr) (c0_0:Nat) (l0_0:List Int) (A0_1:Option Addr) (c0_1:Nat) (l0_1:List Int) (A1_0:Option Addr) (c1_0:Nat) (l1_0:List Int) (A1_1:Option Addr) (c1_1:Nat) (l1_1:List Int) (r1:List Int) (r2:List Int) (r3:Int) (w:World) (hr0_0:Kd.C (Kd.int .i64) w A0_0 l0_0.length l0_0) (hc0_0:l0_0.length≤c0_0) (hr0_1:Kd.C (Kd.int .i64) w A0_1 l0_1.length l0_1) (hc0_1:l0_1.length≤c0_1) (hr1_0:Kd.C (Kd.int .i64) w A1_0 l1_0.length l1_0) (hc1_0:l1_0.length≤c1_0) (hr1_1:Kd.C (Kd.int .i64) w A1_1 l1_1.length l1_1) (hc1_1:l1_1.length≤c1_1) (h:table_Union.f k l0_0 l0_1 l1_0 l1_1=some (r1,r2,r3)) :
  Calls Try.prog 16 #[.agg #[.slice A0_0 l0_0.length c0_0,.slice A0_1 l0_1.length c0_1],.agg #[.slice A1_0 l1_0.length c1_0,.slice A1_1 l1_1.length c1_1]] w fun e w'=>∃ v0_ v1_:Value,e=.returned (.tuple #[.agg #[v0_,v1_],.int .i64 r3])∧Kd.R (Kd.int .i64) 3 w' w.heap.size (fun k_=>some k_≠(v1_:Value).ownBlock) v0_ r1∧Kd.R (Kd.int .i64) 3 w' w.heap.size (fun k_=>some k_≠(v0_:Value).ownBlock) v1_ r2∧Below w.heap.size w w':=by
 have hu29:=Try.underlying29
 have HR0_0:=zA hr0_0
 have HC0_0:=zA hc0_0
 clear hr0_0 hc0_0
 have HR0_1:=zA hr0_1
 have HC0_1:=zA hc0_1
 clear hr0_1 hc0_1
 have HR1_0:=zA hr1_0
 have HC1_0:=zA hc1_0
 clear hr1_0 hc1_0
 have HR1_1:=zA hr1_1
 have HC1_1:=zA hc1_1
 clear hr1_1 hc1_1
 have HB:=zA (Below.refl w.heap.size w)
 have H:((table_combine_table_Union_1.f k l0_0 l0_1 l1_0 l1_1).bind fun bt655=>(some (bt655.1,bt655.2.1,bt655.2.2)))=some (r1,r2,r3):=h
 clear h
 replace H:=Option.bind_eq_some_iff.mp H
 obtain ⟨⟨t655,t658,t661⟩,A30,H⟩:=H
 replace H:(some (t655,t658,t661))=some (r1,r2,r3):=H
 have A3:=zA A30
 clear A30
 simp only [Option.some.injEq,Prod.mk.injEq] at H
 obtain ⟨rfl,rfl,rfl⟩:=H
 go_enter Try.func16,Try.ntmps16
 go_wp2_with (first|((with_reducible refine gate_dst (N:=2) rfl ?_);refine box_event ?hg (N:=2) ?hd (cs:=#[.slice A0_0 l0_0.length c0_0,.slice A0_1 l0_1.length c0_1]) (t:=29) ?hr ?_;(case hd=>rfl);(case hg=>rfl);(case hr=>first|(go_simp;done)|(go_simp;rfl));intro gb652 hg w4 hbox hb;have BK652:=zA (hbox);have GW652:=zA (zG hg (below_size zB):w.heap.size≤gb652);have GE652:=GW652;replace HB:=zA (below_step zB hb);clear hb hbox hg)|((with_reducible refine gate_dst (N:=3) rfl ?_);refine box_event ?hg (N:=3) ?hd (cs:=#[.slice A1_0 l1_0.length c1_0,.slice A1_1 l1_1.length c1_1]) (t:=29) ?hr ?_;(case hd=>rfl);(case hg=>rfl);(case hr=>first|(go_simp;done)|(go_simp;rfl));intro gb653 hg w5 hbox hb;have BK653:=zA (hbox);have GW653:=zA (zG hg (below_size zB):w.heap.size≤gb653);have GE653:=GW653;have NB652_653:=zA ((zl hg (zk BK652):gb652≠gb653));have NB653_652:=zA ((zg hg (zk BK652):gb653≠gb652));replace BK652:=zA (zb BK652 hb);replace HB:=zA (below_step zB hb);clear hb hbox hg)|((with_reducible refine gate_dst (N:=4) rfl ?_);refine box_event ?hg (N:=4) ?hd (cs:=#[.slice none 0 0,.slice none 0 0]) (t:=29) ?hr ?_;(case hd=>rfl);(case hg=>rfl);(case hr=>first|(go_simp;done)|(go_simp;rfl));intro gb654 hg w6 hbox hb;have BK654:=zA (hbox);have GW654:=zA (zG hg (below_size zB):w.heap.size≤gb654);have GE654:=GW654;have NB652_654:=zA ((zl hg (zk BK652):gb652≠gb654));have NB654_652:=zA ((zg hg (zk BK652):gb654≠gb652));have NB653_654:=zA ((zl hg (zk BK653):gb653≠gb654));have NB654_653:=zA ((zg hg (zk BK653):gb654≠gb653));replace BK652:=zA (zb BK652 hb);replace BK653:=zA (zb BK653 hb);replace HB:=zA (below_step zB hb);clear hb hbox hg;have hnb7:=NB652_653.out;have hnc7:=NB653_652.out;have hnb8:=NB652_654.out;have hnc8:=NB654_652.out;have hcz9_0:w6.cell? ⟨gb652,0,none⟩=some (.slice A0_0 l0_0.length c0_0):=(blk_cell BK652.out 0).trans rfl;have hcz9_1:w6.cell? ⟨gb652,1,none⟩=some (.slice A0_1 l0_1.length c0_1):=(blk_cell BK652.out 1).trans rfl;have hfz9_0:=blk_frozen BK652.out 0;have hfz9_1:=blk_frozen BK652.out 1;have hnb10:=NB653_654.out;have hnc10:=NB654_653.out;have hcz11_0:w6.cell? ⟨gb653,0,none⟩=some (.slice A1_0 l1_0.length c1_0):=(blk_cell BK653.out 0).trans rfl;have hcz11_1:w6.cell? ⟨gb653,1,none⟩=some (.slice A1_1 l1_1.length c1_1):=(blk_cell BK653.out 1).trans rfl;have hfz11_0:=blk_frozen BK653.out 0;have hfz11_1:=blk_frozen BK653.out 1)|((with_reducible refine gate_callee (f:=46) rfl ?_);refine goesL_ (some 8) rfl rfl Try.func46 zK rfl #[.agg #[.slice A0_0 l0_0.length c0_0,.slice A0_1 l0_1.length c0_1],.agg #[.slice A1_0 l1_0.length c1_0,.slice A1_1 l1_1.length c1_1],.func (.func 48) #[] #[]] rfl zM ?_;(with_reducible refine (table_combine_table_Union_1.calls k _ _ l0_0 _ _ l0_1 _ _ l1_0 _ _ l1_1  t655 t658 t661 _ ?side1 ?side2 ?side3 ?side4 ?side5 ?side6 ?side7 ?side8 A3.out).mono ?_);(case side1=>exact zC (Kd.C_below HR0_0.out HB.out));(case side2=>exact HC0_0.out);(case side3=>exact zC (Kd.C_below HR0_1.out HB.out));(case side4=>exact HC0_1.out);(case side5=>exact zC (Kd.C_below HR1_0.out HB.out));(case side6=>exact HC1_0.out);(case side7=>exact zC (Kd.C_below HR1_1.out HB.out));(case side8=>exact HC1_1.out);rintro e w12 ⟨v656,v659,rfl,ho0,ho1,hb⟩;refine ⟨_,rfl,?_⟩;have HO657:=zA (Kd.R_lower ho0 (below_size zB));have HO660:=zA (Kd.R_lower ho1 (below_size zB));replace BK652:=zA (zb BK652 hb);replace BK653:=zA (zb BK653 hb);replace BK654:=zA (zb BK654 hb);replace HB:=zA (below_step zB hb);(try clear hb);(try clear hb2);(try clear hk);(try clear hi);(try clear ho0);(try clear ho1);obtain ⟨Ao13,co13,eo13⟩:=Kd.R_slice HO657.out;subst eo13;have hcz14_0:w12.cell? ⟨gb654,0,none⟩=some (.slice none 0 0):=(blk_cell BK654.out 0).trans rfl;have hcz14_1:w12.cell? ⟨gb654,1,none⟩=some (.slice none 0 0):=(blk_cell BK654.out 1).trans rfl;have hfz14_0:=blk_frozen BK654.out 0;have hfz14_1:=blk_frozen BK654.out 1;obtain ⟨Ao15,co15,eo15⟩:=Kd.R_slice HO660.out;subst eo15))
 refine bodyPost_ret (results_ct rfl _ _ gb654 29 #[.slice Ao13 t655.length co13,.slice Ao15 t658.length co15] (0,0) _ rfl (by refine zj ?_;refine blk_put (cs:=#[.slice Ao13 t655.length co13,.slice none 0 0]) ?_ 1 _ rfl;refine zj ?_;refine blk_put (cs:=#[.slice none 0 0,.slice none 0 0]) ?_ 0 _ rfl;refine zj ?_;exact BK654.out) Try.underlying29 rfl zK) rfl ?_
 exact ⟨_,_,ze,by refine zr ?_;exact Kd.R_mono (Kd.R_far (p:=⟨gb654,1,none⟩) (Kd.R_far (p:=⟨gb654,0,none⟩) (Kd.R_types HO657.out BK654.out (by decide)) (fun _ hk=>hk.2) (.slice Ao13 t655.length co13)) (fun _ hk=>hk.2) (.slice Ao15 t658.length co15)) (fun _ hk=>hk.1),by refine zr ?_;exact Kd.R_mono (Kd.R_far (p:=⟨gb654,1,none⟩) (Kd.R_far (p:=⟨gb654,0,none⟩) (Kd.R_types HO660.out BK654.out (by decide)) (fun _ hk=>hk.2) (.slice Ao13 t655.length co13)) (fun _ hk=>hk.2) (.slice Ao15 t658.length co15)) (fun _ hk=>hk.1),by repeat (first|(with_reducible first|exact HB.out|apply below_alloc|apply pw_below_drewN|apply below_drew1|refine below_set ?_ GE652.out|refine below_set ?_ GE653.out|refine below_set ?_ GE654.out)|exact HB.out)⟩
def table_Minus_1.f (a0:Bool) (a1:Bool):Option (Bool):=if a0=true then (some (!a1)) else (some false)
set_option maxHeartbeats 8000000 in
set_option maxRecDepth 100000 in
theorem table_Minus_1.calls (a0:Bool) (a1:Bool) (r:Bool) (w:World) (h:table_Minus_1.f a0 a1=some r) :
  Calls Try.prog 55 #[.bool a0,.bool a1] w fun e w'=>e=.returned (.bool r)∧Drawn0 w w':=by
 have H:(if a0=true then (some (!a1)) else (some false))=some r:=h
 clear h
 by_cases c3:a0=true
 ·subst c3
  have H1:(some (!a1))=some r:=by rw [if_pos rfl] at H;exact H
  clear H
  have H:=H1
  clear H1
  obtain rfl:=Option.some.inj H
  go_enter Try.func55,Try.ntmps55
  go_wp2
  go_ret
  exact ⟨by first|rfl|(simp;done)|(simp [*];done),by repeat (first|exact Drawn0.refl _|apply Drawn0.step)⟩
 ·replace c3:=Bool.eq_false_iff.mpr c3
  subst c3
  have H1:(some false)=some r:=by rw [if_neg (show ¬ (false=true) by decide)] at H;exact H
  clear H
  have H:=H1
  clear H1
  obtain rfl:=Option.some.inj H
  go_enter Try.func55,Try.ntmps55
  go_wp2
  go_ret
  exact ⟨by first|rfl|(simp;done)|(simp [*];done),by repeat (first|exact Drawn0.refl _|apply Drawn0.step)⟩
def table_combine_1_table_Minus_1.f (k:Nat) (a0:Int)  (l2_0:List Int) (l2_1:List Int) (l3_0:List Int) (l3_1:List Int):Option (Bool):=(table_has.f k l2_0 l2_1 a0).bind fun t665=>((table_has.f k l3_0 l3_1 a0).bind fun t666=>((table_Minus_1.f t665 t666).bind fun t667=>(some t667)))
theorem table_combine_1_table_Minus_1.mono:∀ a0 a1 a2 a3 a4 k,LeO (table_combine_1_table_Minus_1.f k a0 a1 a2 a3 a4) (table_combine_1_table_Minus_1.f (k+1) a0 a1 a2 a3 a4):=by
 intro a0 a1 a2 a3 a4 k
 unfold table_combine_1_table_Minus_1.f
 repeat' first
   | (with_reducible exact table_has.mono _ _ _ _)
   | (with_reducible exact LeO.refl _)
   | (with_reducible exact LeO.none _)
   | (with_reducible refine LeO.ite ?_ ?_)
   | (with_reducible refine LeO.bind ?_ (fun _=>?_))
   | exact LeO.none _
   | refine LeO.ite ?_ ?_
   | refine LeO.bind ?_ (fun _=>?_)
def table_combine_1_table_Minus_1.T1:Bool×List (List Nat×List Nat):=(true,[([],[]),([],[]),([],[]),([1,2],[1,2]),([],[]),([],[]),([4,5,3],[4,5]),([0,3,6,6],[0,3,6]),([7,7,0,1,2,3,4,5,6,7],[7])])
def table_combine_1_table_Minus_1.B1:List Nat:=[0,0,0,6,0,0,62,127,255]
theorem table_combine_1_table_Minus_1.tab1:rtab .any (opsOf Try.f73 1)=table_combine_1_table_Minus_1.T1:=by kernel_rfl
theorem table_combine_1_table_Minus_1.bits1:waitsOk table_combine_1_table_Minus_1.T1.2 table_combine_1_table_Minus_1.B1=true:=by kernel_rfl
set_option maxHeartbeats 8000000 in
set_option maxRecDepth 100000 in
theorem table_combine_1_table_Minus_1.calls (k:Nat) (a0:Int) (gp1_0:Nat)  (gp2_0:Nat) (A2_0:Option Addr) (c2_0:Nat) (l2_0:List Int) (A2_1:Option Addr) (c2_1:Nat) (l2_1:List Int) (gp3_0:Nat) (A3_0:Option Addr) (c3_0:Nat) (l3_0:List Int) (A3_1:Option Addr) (c3_1:Nat) (l3_1:List Int) (r:Bool) (w:World) (hb_gp1_0:w.heap[gp1_0]?=some (.cells #[.func (.func 55) #[] #[]] 60 (0,0))) (hr2_0:Kd.C (Kd.int .i64) w A2_0 l2_0.length l2_0) (hc2_0:l2_0.length≤c2_0) (hr2_1:Kd.C (Kd.int .i64) w A2_1 l2_1.length l2_1) (hc2_1:l2_1.length≤c2_1) (hb_gp2_0:w.heap[gp2_0]?=some (.cells #[.slice A2_0 l2_0.length c2_0,.slice A2_1 l2_1.length c2_1] 29 (0,0))) (hr3_0:Kd.C (Kd.int .i64) w A3_0 l3_0.length l3_0) (hc3_0:l3_0.length≤c3_0) (hr3_1:Kd.C (Kd.int .i64) w A3_1 l3_1.length l3_1) (hc3_1:l3_1.length≤c3_1) (hb_gp3_0:w.heap[gp3_0]?=some (.cells #[.slice A3_0 l3_0.length c3_0,.slice A3_1 l3_1.length c3_1] 29 (0,0))) (h:table_combine_1_table_Minus_1.f k a0 l2_0 l2_1 l3_0 l3_1=some r) :
  Calls Try.prog 73 #[.int .i64 a0,.pointer (some ⟨gp1_0,0,none⟩),.pointer (some ⟨gp2_0,0,none⟩),.pointer (some ⟨gp3_0,0,none⟩)] w fun e w'=>e=.returned (.bool r)∧Below w.heap.size w w':=by
 have hu60:=Try.underlying60
 have hu29:=Try.underlying29
 have HR2_0:=zA hr2_0
 have HC2_0:=zA hc2_0
 clear hr2_0 hc2_0
 have HR2_1:=zA hr2_1
 have HC2_1:=zA hc2_1
 clear hr2_1 hc2_1
 have HR3_0:=zA hr3_0
 have HC3_0:=zA hc3_0
 clear hr3_0 hc3_0
 have HR3_1:=zA hr3_1
 have HC3_1:=zA hc3_1
 clear hr3_1 hc3_1
 have BK662:=zA hb_gp1_0
 clear hb_gp1_0
 have BK663:=zA hb_gp2_0
 clear hb_gp2_0
 have BK664:=zA hb_gp3_0
 clear hb_gp3_0
 have HB:=zA (Below.refl w.heap.size w)
 have H:((table_has.f k l2_0 l2_1 a0).bind fun t665=>((table_has.f k l3_0 l3_1 a0).bind fun t666=>((table_Minus_1.f t665 t666).bind fun t667=>(some t667))))=some r:=h
 clear h
 replace H:=Option.bind_eq_some_iff.mp H
 obtain ⟨t665,A50,H⟩:=H
 replace H:((table_has.f k l3_0 l3_1 a0).bind fun t666=>((table_Minus_1.f t665 t666).bind fun t667=>(some t667)))=some r:=H
 have A5:=zA A50
 clear A50
 replace H:=Option.bind_eq_some_iff.mp H
 obtain ⟨t666,A60,H⟩:=H
 replace H:((table_Minus_1.f t665 t666).bind fun t667=>(some t667))=some r:=H
 have A6:=zA A60
 clear A60
 replace H:=Option.bind_eq_some_iff.mp H
 obtain ⟨t667,A70,H⟩:=H
 replace H:(some t667)=some r:=H
 have A7:=zA A70
 clear A70
 obtain rfl:=Option.some.inj H
 go_enter Try.func73,Try.ntmps73
 try go_wp2
 replace BK662:=zA (blk_drew BK662.out)
 replace BK663:=zA (blk_drew BK663.out)
 replace BK664:=zA (blk_drew BK664.out)
 replace HB:=zA (below_drew1 HB.out)
 refine start_ (n:=9) (S:=fun w'=>w'.cell? ⟨gp1_0,0,none⟩=some (.func (.func 55) #[] #[])∧w'.cell? ⟨gp2_0,0,none⟩=some (.slice A2_0 l2_0.length c2_0)∧w'.cell? ⟨gp2_0,1,none⟩=some (.slice A2_1 l2_1.length c2_1)∧w'.cell? ⟨gp3_0,0,none⟩=some (.slice A3_0 l3_0.length c3_0)∧w'.cell? ⟨gp3_0,1,none⟩=some (.slice A3_1 l3_1.length c3_1)) (ds:=[]) #[false,false,false,false,false,false,false,false,false] zK rfl rfl ⟨(blk_cell BK662.out 0).trans rfl,(blk_cell BK663.out 0).trans rfl,(blk_cell BK663.out 1).trans rfl,(blk_cell BK664.out 0).trans rfl,(blk_cell BK664.out 1).trans rfl⟩ (fun hHeld=>?_);refine with_tabW table_combine_1_table_Minus_1.tab1 table_combine_1_table_Minus_1.bits1 (fun HT_ HW_=>?_)
 generalize w.drew=w8 at BK662 BK663 BK664 HB hHeld ⊢
 refine pure_ (i:=2) (N:=some 8) (v:=?_) (a':=?_) #[false,false,true,false,false,false,false,false,false] rfl rfl (any_of HT_.out zK) (fun _ _ _ h=>h) (Or.inl ⟨by rfl,?_⟩) ?_ ?_
 rotate_left
 ·intro w'
  go_simp
  with_reducible rfl
 rotate_left
 ·simp only [Act.put,zi,zs,zt,i64_w,i32_w]
  rfl
 refine pure_ (i:=5) (N:=some 11) (v:=?_) (a':=?_) #[false,false,true,false,false,true,false,false,false] rfl rfl (any_of HT_.out zK) (fun _ _ _ h=>h) (Or.inl ⟨by rfl,?_⟩) ?_ ?_
 rotate_left
 ·intro w'
  go_simp
  with_reducible rfl
 rotate_left
 ·simp only [Act.put,zi,zs,zt,i64_w,i32_w]
  rfl
 refine take_ (i:=0) (N:=some 6) (v:=?_) (a':=?_) #[true,false,true,false,false,true,false,false,false] rfl rfl (take_ofW HT_.out HW_.out zK) (fun _ _ _ h=>h) (Or.inl ⟨by rfl,?_⟩) hHeld ?_ ?_
 rotate_left
 ·rintro w' ⟨s0,s1,s2,s3,s4⟩
  go_simp
  with_reducible rfl
 rotate_left
 ·simp only [Act.put,zi,zs,zt,i64_w,i32_w]
  rfl
 refine take_ (i:=1) (N:=some 7) (v:=?_) (a':=?_) #[true,true,true,false,false,true,false,false,false] rfl rfl (take_ofW HT_.out HW_.out zK) (fun _ _ _ h=>h) (Or.inl ⟨by rfl,?_⟩) hHeld ?_ ?_
 rotate_left
 ·rintro w' ⟨s0,s1,s2,s3,s4⟩
  go_simp
  with_reducible rfl
 rotate_left
 ·simp only [Act.put,zi,zs,zt,i64_w,i32_w]
  rfl
 refine take_ (i:=4) (N:=some 10) (v:=?_) (a':=?_) #[true,true,true,false,true,true,false,false,false] rfl rfl (take_ofW HT_.out HW_.out zK) (fun _ _ _ h=>h) (Or.inl ⟨by rfl,?_⟩) hHeld ?_ ?_
 rotate_left
 ·rintro w' ⟨s0,s1,s2,s3,s4⟩
  go_simp
  with_reducible rfl
 rotate_left
 ·simp only [Act.put,zi,zs,zt,i64_w,i32_w]
  rfl
 refine one_ (i:=3) (N:=some 9) #[true,true,true,true,true,true,false,false,false] rfl rfl (one_of HT_.out zK) (by decide) (fun K hK=>?_)
 refine goes_ Try.func50 zK rfl #[.agg #[.slice A2_0 l2_0.length c2_0,.slice A2_1 l2_1.length c2_1],.int .i64 a0] (by rfl) rfl rfl zM ?_
 with_reducible refine (table_has.calls k _ _ l2_0 _ _ l2_1 a0 t665 _ ?side1 ?side2 ?side3 ?side4 A5.out).mono ?_
 (case side1=>exact zC (Kd.C_below HR2_0.out HB.out))
 (case side2=>exact HC2_0.out)
 (case side3=>exact zC (Kd.C_below HR2_1.out HB.out))
 (case side4=>exact HC2_1.out)
 rintro e w9 ⟨rfl,hb⟩
 refine ⟨_,rfl,?_⟩
 replace BK662:=zA (zb BK662 hb)
 replace BK663:=zA (zb BK663 hb)
 replace BK664:=zA (zb BK664 hb)
 replace HB:=zA (below_step zB hb)
 (try clear hb)
 (try clear hb2)
 (try clear hk)
 (try clear hi)
 refine hK.out _ _ ⟨(blk_cell BK662.out 0).trans rfl,(blk_cell BK663.out 0).trans rfl,(blk_cell BK663.out 1).trans rfl,(blk_cell BK664.out 0).trans rfl,(blk_cell BK664.out 1).trans rfl⟩ (fun hHeld=>?_)
 clear hK K
 refine norm_ (a':=?_) ?_ ?_
 rotate_left
 ·show Act.put _ (some 9) _=_
  simp only [Act.put,zi,zs,zt,i64_w,i32_w]
  rfl
 refine one_ (i:=6) (N:=some 12) #[true,true,true,true,true,true,true,false,false] rfl rfl (one_of HT_.out zK) (by decide) (fun K hK=>?_)
 refine goes_ Try.func50 zK rfl #[.agg #[.slice A3_0 l3_0.length c3_0,.slice A3_1 l3_1.length c3_1],.int .i64 a0] (by rfl) rfl rfl zM ?_
 with_reducible refine (table_has.calls k _ _ l3_0 _ _ l3_1 a0 t666 _ ?side1 ?side2 ?side3 ?side4 A6.out).mono ?_
 (case side1=>exact zC (Kd.C_below HR3_0.out HB.out))
 (case side2=>exact HC3_0.out)
 (case side3=>exact zC (Kd.C_below HR3_1.out HB.out))
 (case side4=>exact HC3_1.out)
 rintro e w10 ⟨rfl,hb⟩
 refine ⟨_,rfl,?_⟩
 replace BK662:=zA (zb BK662 hb)
 replace BK663:=zA (zb BK663 hb)
 replace BK664:=zA (zb BK664 hb)
 replace HB:=zA (below_step zB hb)
 (try clear hb)
 (try clear hb2)
 (try clear hk)
 (try clear hi)
 refine hK.out _ _ ⟨(blk_cell BK662.out 0).trans rfl,(blk_cell BK663.out 0).trans rfl,(blk_cell BK663.out 1).trans rfl,(blk_cell BK664.out 0).trans rfl,(blk_cell BK664.out 1).trans rfl⟩ (fun hHeld=>?_)
 clear hK K
 refine norm_ (a':=?_) ?_ ?_
 rotate_left
 ·show Act.put _ (some 12) _=_
  simp only [Act.put,zi,zs,zt,i64_w,i32_w]
  rfl
 refine one_ (i:=7) (N:=some 13) #[true,true,true,true,true,true,true,true,false] rfl rfl (one_of HT_.out zK) (by decide) (fun K hK=>?_)
 refine goesV_ Try.func55 zK rfl #[.bool t665,.bool t666] #[] (by rfl) rfl rfl (by rfl) zM ?_
 with_reducible refine (table_Minus_1.calls t665 t666 t667 _ A7.out).mono ?_
 rintro e w' ⟨rfl,⟨nd,rfl⟩⟩
 refine ⟨_,rfl,?_⟩
 refine hK.out _ _ ⟨(blk_cell BK662.out 0).trans rfl,(blk_cell BK663.out 0).trans rfl,(blk_cell BK663.out 1).trans rfl,(blk_cell BK664.out 0).trans rfl,(blk_cell BK664.out 1).trans rfl⟩ (fun hHeld=>?_)
 clear hK K
 refine norm_ (a':=?_) ?_ ?_
 rotate_left
 ·show Act.put _ (some 13) _=_
  simp only [Act.put,zi,zs,zt,i64_w,i32_w]
  rfl
 refine pure_ (i:=8) (N:=some 5) (v:=?_) (a':=?_) #[true,true,true,true,true,true,true,true,true] rfl rfl (any_of HT_.out zK) (fun _ _ _ h=>h) (Or.inl ⟨by rfl,?_⟩) ?_ ?_
 rotate_left
 ·intro w'
  go_simp
  with_reducible rfl
 rotate_left
 ·simp only [Act.put,zi,zs,zt,i64_w,i32_w]
  rfl
 refine done_ (done_of HT_.out zK) ?_
 try go_wp2
 go_ret
 exact ⟨ze,by repeat (first|(with_reducible first|exact HB.out|apply below_alloc|apply pw_below_drewN|apply below_drew1|refine below_set ?_ GE662.out|refine below_set ?_ GE663.out|refine below_set ?_ GE664.out)|exact HB.out)⟩
end Go.Proofs.Ythcfmdkhkikbcaa.T
