import Derived.Test.YtkaalbbbpebpdaaT0
import Derived.Test.YtkaalbbbpebpdaaT2
namespace Go.Proofs.Ytkaalbbbpebpdaa.T
open Go.RowKit Go.Proofs.YtkaalbbbpebpdaaW.PrintWords Go.Proofs.YtkaalbbbpebpdaaW.PrintLast Go.Proofs.YtkaalbbbpebpdaaW.PrintMore
attribute [local go_sem] max2_int min2_int max_two min_two max_three min_three max_four min_four Try.underlying3
set_option linter.unusedVariables false
set_option linter.unusedSimpArgs false
def slices_IndexFunc_int_int_solve_choices_fails_1.l0:Nat→List Int→Int→Int→Int→Int→Option (Int)
 | 0,_,_,_,_,_=>none
 | k+1,x0,x7,x8,x10,x11=>if x8<x7 then (if 0≤x8 then (if x8<(x0.length:Int) then ((solve_choices_fails_1_v1.f (rd x0 x8) x10 x11).bind fun t13=>(if t13=true then (some x8) else (slices_IndexFunc_int_int_solve_choices_fails_1.l0 k x0 x7 (wrap64 (x8+1)) x10 x11))) else (none)) else (none)) else (some (-1))
def slices_IndexFunc_int_int_solve_choices_fails_1.f (k:Nat) (l0:List Int) (a1_0:Int) (a1_1:Int):Option (Int):=slices_IndexFunc_int_int_solve_choices_fails_1.l0 k l0 (l0.length:Int) 0 a1_0 a1_1
theorem slices_IndexFunc_int_int_solve_choices_fails_1.mono_l:∀ k,(∀ y0 y1 y2 y3 y4,LeO (slices_IndexFunc_int_int_solve_choices_fails_1.l0 k y0 y1 y2 y3 y4) (slices_IndexFunc_int_int_solve_choices_fails_1.l0 (k+1) y0 y1 y2 y3 y4))
 | 0=>fun _ _ _ _ _ r h=>by simp [slices_IndexFunc_int_int_solve_choices_fails_1.l0] at h
 | k+1=>by
  have ih0:=slices_IndexFunc_int_int_solve_choices_fails_1.mono_l k
  ·intro y0 y1 y2 y3 y4
   unfold slices_IndexFunc_int_int_solve_choices_fails_1.l0
   repeat' first
   | (with_reducible exact ih0 _ _ _ _ _)
   | (with_reducible exact LeO.refl _)
   | (with_reducible exact LeO.none _)
   | (with_reducible refine LeO.ite ?_ ?_)
   | (with_reducible refine LeO.bind ?_ (fun _=>?_))
   | exact LeO.none _
   | refine LeO.ite ?_ ?_
   | refine LeO.bind ?_ (fun _=>?_)
theorem slices_IndexFunc_int_int_solve_choices_fails_1.mono:∀ a0 a1 a2 k,LeO (slices_IndexFunc_int_int_solve_choices_fails_1.f k a0 a1 a2) (slices_IndexFunc_int_int_solve_choices_fails_1.f (k+1) a0 a1 a2):=by
 intro a0 a1 a2 k;have ih0:=slices_IndexFunc_int_int_solve_choices_fails_1.mono_l k
 unfold slices_IndexFunc_int_int_solve_choices_fails_1.f
 repeat' first
   | (with_reducible exact ih0 _ _ _ _ _)
   | (with_reducible exact LeO.refl _)
   | (with_reducible exact LeO.none _)
   | (with_reducible refine LeO.ite ?_ ?_)
   | (with_reducible refine LeO.bind ?_ (fun _=>?_))
   | exact LeO.none _
   | refine LeO.ite ?_ ?_
   | refine LeO.bind ?_ (fun _=>?_)
set_option maxHeartbeats 8000000 in
set_option maxRecDepth 100000 in
theorem slices_IndexFunc_int_int_solve_choices_fails_1.calls (k:Nat) (A0:Option Addr) (c0:Nat) (l0:List Int) (gp1_0:Nat) (gp1_1:Nat) (a1_0:Int) (a1_1:Int) (r:Int) (w:World) (hr0:Kd.C (Kd.int .i64) w A0 l0.length l0) (hc0:l0.length≤c0) (hb_gp1_0:w.heap[gp1_0]?=some (.cells #[.int .i64 a1_0] 3 (0,0))) (hb_gp1_1:w.heap[gp1_1]?=some (.cells #[.int .i64 a1_1] 3 (0,0))) (h:slices_IndexFunc_int_int_solve_choices_fails_1.f k l0 a1_0 a1_1=some r) :
  Calls Try.prog 52 #[.slice A0 l0.length c0,.func (.func 47) #[] #[.pointer (some ⟨gp1_0,0,none⟩),.pointer (some ⟨gp1_1,0,none⟩)]] w fun e w'=>e=.returned (.int .i64 r)∧Below w.heap.size w w':=by
 have HR0:=zA hr0;have HC0:=zA hc0;clear hr0 hc0;have BK14:=zA hb_gp1_0;clear hb_gp1_0;have BK15:=zA hb_gp1_1;clear hb_gp1_1;have HB:=zA (Below.refl w.heap.size w);have H:(slices_IndexFunc_int_int_solve_choices_fails_1.l0 k l0 (l0.length:Int) 0 a1_0 a1_1)=some r:=h;clear h;have H':=zA H;clear H
 go_enter Try.func52,Try.ntmps52
 go_wp2
 go_loopg [8] k (fun kq v8 w'=>∃ (x8_1:Int),v8=.int .i64 x8_1∧Aside0 (slices_IndexFunc_int_int_solve_choices_fails_1.l0 kq l0 (l0.length:Int) x8_1 a1_0 a1_1=some r)∧Aside0 (kq≤k)∧Aside0 (w'.heap[gp1_0]?=some (.cells #[.int .i64 a1_0] 3 (0,0)))∧Aside0 (w'.heap[gp1_1]?=some (.cells #[.int .i64 a1_1] 3 (0,0)))∧Aside0 (Below w.heap.size w w'))
 case atStart=>exact ⟨(0),zT,H',⟨Nat.le_refl _⟩,⟨by refine zj ?_;exact BK14.out⟩,⟨by refine zj ?_;exact BK15.out⟩,⟨zv0 HB⟩⟩
 case round=>
  clear H';obtain ⟨x8_1,rfl,HA,HK1,BK14,BK15,HB⟩:=hrel
  cases gk with
  | zero=>exact absurd HA.out (by simp [slices_IndexFunc_int_int_solve_choices_fails_1.l0])
  | succ k1=>
   have H:=HA.out;clear HA;simp only [slices_IndexFunc_int_int_solve_choices_fails_1.l0] at H
   rcases ifd H with ⟨c3b0,H⟩|⟨c3b0,H⟩
   ·obtain ⟨c4b0,H⟩:=ifd1 H;obtain ⟨c5b0,H⟩:=ifd1 H;obtain ⟨t13,A6,H⟩:=zo H;have HC7:=zA H;clear H;obtain ⟨p9,q9,ad9,e9,hx9_0⟩:=zp (Kd.at_int HR0.out x8_1)
    cases e9
    replace hx9_0:=zd HB hx9_0;replace p9:=eq_true p9;replace q9:=eq_true q9
    go_upto_if 16 with (first|(go_at_call 47;(with_reducible refine (solve_choices_fails_1_v1.calls (rd l0 x8_1) gp1_0 a1_0 gp1_1 a1_1 t13 _ ?side1 ?side2 A6.out).mono ?_);(case side1=>refine zj ?_;exact BK14.out);(case side2=>refine zj ?_;exact BK15.out);rintro e w' ⟨rfl,⟨nd,rfl⟩⟩))
    (try simp only [Act.put,zi,zs,zt]);have H:=HC7.out;clear HC7
    by_cases c8:t13=true
    ·subst c8
     have H1:(some x8_1)=some r:=by rw [if_pos rfl] at H;exact H
     clear H;have H:=H1;clear H1;obtain rfl:=Option.some.inj H
     go_wp2
     go_ret
     exact ⟨ze,zv0 HB⟩
    ·replace c8:=Bool.eq_false_iff.mpr c8;subst c8
     have H1:(slices_IndexFunc_int_int_solve_choices_fails_1.l0 k1 l0 (l0.length:Int) (wrap64 (x8_1+1)) a1_0 a1_1)=some r:=by rw [if_neg (show ¬ (false=true) by decide)] at H;exact H
     clear H;have H:=H1;clear H1;have H':=zA H;clear H
     go_wp2
     go_roundg k1
     case measure=>have:=HK1.out;omega
     case rel=>exact ⟨(wrap64 (x8_1+1)),zT,H',⟨by have:=HK1.out;omega⟩,⟨by refine zj ?_;exact BK14.out⟩,⟨by refine zj ?_;exact BK15.out⟩,⟨zv0 HB⟩⟩
   ·obtain rfl:=Option.some.inj H
    go_wp2
    go_ret
    exact ⟨ze,zv0 HB⟩
def slices_ContainsFunc_int_int_solve_choices_fails_1.f (k:Nat) (l0:List Int) (a1_0:Int) (a1_1:Int):Option (Bool):=(slices_IndexFunc_int_int_solve_choices_fails_1.f k l0 a1_0 a1_1).bind fun t12=>(some (decide (t12≥0)))
theorem slices_ContainsFunc_int_int_solve_choices_fails_1.mono:∀ a0 a1 a2 k,LeO (slices_ContainsFunc_int_int_solve_choices_fails_1.f k a0 a1 a2) (slices_ContainsFunc_int_int_solve_choices_fails_1.f (k+1) a0 a1 a2):=by
 intro a0 a1 a2 k
 unfold slices_ContainsFunc_int_int_solve_choices_fails_1.f
 repeat' first
   | (with_reducible exact slices_IndexFunc_int_int_solve_choices_fails_1.mono _ _ _ _)
   | (with_reducible exact LeO.refl _)
   | (with_reducible exact LeO.none _)
   | (with_reducible refine LeO.ite ?_ ?_)
   | (with_reducible refine LeO.bind ?_ (fun _=>?_))
   | exact LeO.none _
   | refine LeO.ite ?_ ?_
   | refine LeO.bind ?_ (fun _=>?_)
set_option maxHeartbeats 8000000 in
set_option maxRecDepth 100000 in
theorem slices_ContainsFunc_int_int_solve_choices_fails_1.calls (k:Nat) (A0:Option Addr) (c0:Nat) (l0:List Int) (gp1_0:Nat) (gp1_1:Nat) (a1_0:Int) (a1_1:Int) (r:Bool) (w:World) (hr0:Kd.C (Kd.int .i64) w A0 l0.length l0) (hc0:l0.length≤c0) (hb_gp1_0:w.heap[gp1_0]?=some (.cells #[.int .i64 a1_0] 3 (0,0))) (hb_gp1_1:w.heap[gp1_1]?=some (.cells #[.int .i64 a1_1] 3 (0,0))) (h:slices_ContainsFunc_int_int_solve_choices_fails_1.f k l0 a1_0 a1_1=some r) :
  Calls Try.prog 46 #[.slice A0 l0.length c0,.func (.func 47) #[] #[.pointer (some ⟨gp1_0,0,none⟩),.pointer (some ⟨gp1_1,0,none⟩)]] w fun e w'=>e=.returned (.bool r)∧Below w.heap.size w w':=by
 have HR0:=zA hr0;have HC0:=zA hc0;clear hr0 hc0;have BK16:=zA hb_gp1_0;clear hb_gp1_0;have BK17:=zA hb_gp1_1;clear hb_gp1_1;have HB:=zA (Below.refl w.heap.size w);have H:((slices_IndexFunc_int_int_solve_choices_fails_1.f k l0 a1_0 a1_1).bind fun t12=>(some (decide (t12≥0))))=some r:=h;clear h;obtain ⟨t12,A3,H⟩:=zo H;obtain rfl:=Option.some.inj H
 go_enter Try.func46,Try.ntmps46
 go_wp2_with (first|((with_reducible refine gate_callee (f:=52) rfl ?_);refine zgo 7 Try.func52 #[.slice A0 l0.length c0,.func (.func 47) #[] #[.pointer (some ⟨gp1_0,0,none⟩),.pointer (some ⟨gp1_1,0,none⟩)]] ?_;(with_reducible refine (slices_IndexFunc_int_int_solve_choices_fails_1.calls k _ _ l0 gp1_0 gp1_1 a1_0 a1_1 t12 _ ?side1 HC0.out ?side3 ?side4 A3.out).mono ?_);(case side1=>repeat (first|exact HR0.out|(with_reducible refine Kd.C_alloc ?_ _)|(with_reducible refine Kd.C_drewN ?_ _)|(with_reducible refine Kd.C_drew ?_)));(case side3=>refine zj ?_;exact BK16.out);(case side4=>refine zj ?_;exact BK17.out);rintro e w4 ⟨rfl,hb⟩;refine ⟨_,rfl,?_⟩;replace BK16:=zw BK16 hb;replace BK17:=zw BK17 hb;replace HB:=zu hb;clear hb))
 go_ret
 exact ⟨ze,zv0 HB⟩
end Go.Proofs.Ytkaalbbbpebpdaa.T
