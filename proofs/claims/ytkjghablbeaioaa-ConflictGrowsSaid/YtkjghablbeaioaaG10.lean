import Derived.Test.YtkjghablbeaioaaG0
import Derived.Test.YtkjghablbeaioaaG1
import Derived.Test.YtkjghablbeaioaaG9
namespace Go.Proofs.Ytkjghablbeaioaa.G
open Go.RowKit Go.Proofs.YtkjghablbeaioaaW.PrintWords Go.Proofs.YtkjghablbeaioaaW.PrintLast Go.Proofs.YtkjghablbeaioaaW.PrintMore
attribute [local go_sem] max2_int min2_int max_two min_two max_three min_three max_four min_four
set_option linter.unusedVariables false
set_option linter.unusedSimpArgs false
def ancepsref42_Few.f (k:Nat) (l0:List (S50)):Option (Bool):=(ancepsref40_Few.f k l0).bind fun t528=>(if t528=true then ((ancepsref42_Valid.f k l0).bind fun t529=>(if t529=0 then (if (l0.length:Int)≤6 then ((ancepsref40_Vars.f k l0).bind fun t530=>(some (decide ((t530.length:Int)≤8)))) else (some false)) else (some true))) else (some false))
theorem ancepsref42_Few.mono:∀ a0 k,LeO (ancepsref42_Few.f k a0) (ancepsref42_Few.f (k+1) a0):=by
 intro a0 k
 unfold ancepsref42_Few.f
 repeat' first
   | (with_reducible exact ancepsref40_Few.mono _ _)
   | (with_reducible exact ancepsref40_Vars.mono _ _)
   | (with_reducible exact ancepsref42_Valid.mono _ _)
   | (with_reducible exact LeO.refl _)
   | (with_reducible exact LeO.none _)
   | (with_reducible refine LeO.ite ?_ ?_)
   | (with_reducible refine LeO.bind ?_ (fun _=>?_))
   | exact LeO.none _
   | refine LeO.ite ?_ ?_
   | refine LeO.bind ?_ (fun _=>?_)
set_option maxHeartbeats 8000000 in
set_option maxRecDepth 100000 in
theorem ancepsref42_Few.calls (k:Nat) (A0:Option Addr) (c0:Nat) (l0:List (S50)) (r:Bool) (w:World) (hr0:Kd.C k50 w A0 l0.length l0) (hc0:l0.length≤c0) (h:ancepsref42_Few.f k l0=some r) :
  Calls Try.prog 10 #[.slice A0 l0.length c0] w fun e w'=>e=.returned (.bool r)∧Below w.heap.size w w':=by
 have HR0:=zA hr0
 have HC0:=zA hc0
 clear hr0 hc0
 have HB:=zA (Below.refl w.heap.size w)
 have H:((ancepsref40_Few.f k l0).bind fun t528=>(if t528=true then ((ancepsref42_Valid.f k l0).bind fun t529=>(if t529=0 then (if (l0.length:Int)≤6 then ((ancepsref40_Vars.f k l0).bind fun t530=>(some (decide ((t530.length:Int)≤8)))) else (some false)) else (some true))) else (some false)))=some r:=h
 clear h
 obtain ⟨t528,A2,H⟩:=zo H
 have HC3:=zA H
 clear H
 go_enter Try.func10,Try.ntmps10
 go_upto_if 5 with (first|((with_reducible refine gate_callee (f:=38) rfl ?_);refine goesL_ (some 4) rfl rfl Try.func38 zK rfl #[.slice A0 l0.length c0] rfl zM ?_;(with_reducible refine (ancepsref40_Few.calls k _ _ l0 t528 _ ?side1 HC0.out A2.out).mono ?_);(case side1=>repeat (first|exact HR0.out|(with_reducible refine Kd.C_alloc ?_ _)|(with_reducible refine Kd.C_drewN ?_ _)|(with_reducible refine Kd.C_drew ?_)));rintro e w4 ⟨rfl,hb⟩;refine ⟨_,rfl,?_⟩;replace HB:=zu hb;clear hb))
 (try simp only [Act.put,zi,zs,zt])
 have H:=HC3.out
 clear HC3
 by_cases c5:t528=true
 ·subst c5
  have H1:((ancepsref42_Valid.f k l0).bind fun t529=>(if t529=0 then (if (l0.length:Int)≤6 then ((ancepsref40_Vars.f k l0).bind fun t530=>(some (decide ((t530.length:Int)≤8)))) else (some false)) else (some true)))=some r:=by rw [if_pos rfl] at H;exact H
  clear H
  have H:=H1
  clear H1
  obtain ⟨t529,A6,H⟩:=zo H
  rcases ife H with ⟨c7b0,c7b1,H⟩|⟨c7,c7b0,c7b1,H⟩
  ·(first|rw [c7b0]|(simp only [i64_w,i32_w];rw [c7b0])|skip)
   (try rw [c7b1])
   rcases if0 H with ⟨c8,H⟩|⟨c8,H⟩
   ·have c8b0:decide ((l0.length:Int)≤6)=true:=decide_eq_true c8
    have c8b1:decide (l0.length≤6)=true:=decide_eq_true (by omega)
    clear c8
    obtain ⟨t530,A9,H⟩:=zo H
    obtain rfl:=Option.some.inj H
    go_wp2_with (first|((with_reducible refine gate_callee (f:=26) rfl ?_);refine goesL_ (some 7) rfl rfl Try.func26 zK rfl #[.slice A0 l0.length c0] rfl zM ?_;(with_reducible refine (ancepsref42_Valid.calls k _ _ l0 t529 _ (zD HR0 HB) HC0.out A6.out).mono ?_);rintro e w10 ⟨rfl,hb⟩;refine ⟨_,rfl,?_⟩;replace HB:=zu hb;clear hb)|(go_at_call 39;(with_reducible refine (ancepsref40_Vars.calls k _ _ l0 t530 _ (zD HR0 HB) HC0.out A9.out).mono ?_);rintro e w11 ⟨v531,rfl,ho0,hb⟩;have HO532:=zA (Kd.R_lower ho0 (below_size zB));replace HB:=zu hb;clear hb;(try clear ho0);obtain ⟨Ao12,co12,eo12⟩:=Kd.R_slice HO532.out;subst eo12))
    go_ret
    exact ⟨ze,by repeat (first|(with_reducible first|exact HB.out|apply below_alloc|apply pw_below_drewN|apply below_drew1)|exact HB.out)⟩
   ·have c8b0:decide ((l0.length:Int)≤6)=false:=decide_eq_false c8
    have c8b1:decide (l0.length≤6)=false:=decide_eq_false (by omega)
    clear c8
    obtain rfl:=Option.some.inj H
    go_wp2_with (first|((with_reducible refine gate_callee (f:=26) rfl ?_);refine goesL_ (some 7) rfl rfl Try.func26 zK rfl #[.slice A0 l0.length c0] rfl zM ?_;(with_reducible refine (ancepsref42_Valid.calls k _ _ l0 t529 _ (zD HR0 HB) HC0.out A6.out).mono ?_);rintro e w13 ⟨rfl,hb⟩;refine ⟨_,rfl,?_⟩;replace HB:=zu hb;clear hb))
    go_ret
    exact ⟨ze,by repeat (first|(with_reducible first|exact HB.out|apply below_alloc|apply pw_below_drewN|apply below_drew1)|exact HB.out)⟩
  ·(first|rw [c7b0]|(simp only [i64_w,i32_w];rw [c7b0])|skip)
   (try rw [c7b1])
   obtain rfl:=Option.some.inj H
   go_wp2_with (first|((with_reducible refine gate_callee (f:=26) rfl ?_);refine goesL_ (some 7) rfl rfl Try.func26 zK rfl #[.slice A0 l0.length c0] rfl zM ?_;(with_reducible refine (ancepsref42_Valid.calls k _ _ l0 t529 _ (zD HR0 HB) HC0.out A6.out).mono ?_);rintro e w14 ⟨rfl,hb⟩;refine ⟨_,rfl,?_⟩;replace HB:=zu hb;clear hb))
   go_ret
   exact ⟨ze,by repeat (first|(with_reducible first|exact HB.out|apply below_alloc|apply pw_below_drewN|apply below_drew1)|exact HB.out)⟩
 ·replace c5:=Bool.eq_false_iff.mpr c5
  subst c5
  have H1:(some false)=some r:=by rw [if_neg (show ¬ (false=true) by decide)] at H;exact H
  clear H
  have H:=H1
  clear H1
  obtain rfl:=Option.some.inj H
  go_wp2
  go_ret
  exact ⟨ze,by repeat (first|(with_reducible first|exact HB.out|apply below_alloc|apply pw_below_drewN|apply below_drew1)|exact HB.out)⟩
def ancepslaw42_copied.l0:Nat→List (S50)→List (S50)→Int→Int→Option ((List (S50)))
 | 0,_,_,_,_=>none
 | k+1,x3,x6,x7,x8=>if x8<x7 then (if 0≤x8 then (if x8<(x6.length:Int) then ((slices_Clone_int_int_21.f ((rd_T50 x6 x8).f0)).bind fun t535=>((slices_Clone_int_int_21.f ((rd_T50 x6 x8).f1)).bind fun t538=>(if x3.length<2932031007402 then (ancepslaw42_copied.l0 k (x3++[(⟨t535,t538⟩:S50)]) x6 x7 (wrap64 (x8+1))) else (none)))) else (none)) else (none)) else (some x3)
def ancepslaw42_copied.f (k:Nat) (l0:List (S50)):Option ((List (S50))):=ancepslaw42_copied.l0 k ([]:List (S50)) l0 (l0.length:Int) 0
theorem ancepslaw42_copied.mono_l:∀ k,(∀ y0 y1 y2 y3,LeO (ancepslaw42_copied.l0 k y0 y1 y2 y3) (ancepslaw42_copied.l0 (k+1) y0 y1 y2 y3))
 | 0=>fun _ _ _ _ r h=>by simp [ancepslaw42_copied.l0] at h
 | k+1=>by
  have ih0:=ancepslaw42_copied.mono_l k
  ·intro y0 y1 y2 y3
   unfold ancepslaw42_copied.l0
   repeat' first
   | (with_reducible exact ih0 _ _ _ _)
   | (with_reducible exact LeO.refl _)
   | (with_reducible exact LeO.none _)
   | (with_reducible refine LeO.ite ?_ ?_)
   | (with_reducible refine LeO.bind ?_ (fun _=>?_))
   | exact LeO.none _
   | refine LeO.ite ?_ ?_
   | refine LeO.bind ?_ (fun _=>?_)
theorem ancepslaw42_copied.mono:∀ a0 k,LeO (ancepslaw42_copied.f k a0) (ancepslaw42_copied.f (k+1) a0):=by
 intro a0 k
 have ih0:=ancepslaw42_copied.mono_l k
 unfold ancepslaw42_copied.f
 repeat' first
   | (with_reducible exact ih0 _ _ _ _)
   | (with_reducible exact LeO.refl _)
   | (with_reducible exact LeO.none _)
   | (with_reducible refine LeO.ite ?_ ?_)
   | (with_reducible refine LeO.bind ?_ (fun _=>?_))
   | exact LeO.none _
   | refine LeO.ite ?_ ?_
   | refine LeO.bind ?_ (fun _=>?_)
def ancepslaw42_copied.T5:Bool×List (List Nat×List Nat):=(true,[([],[]),([],[]),([1],[1]),([2],[2]),([],[]),([4],[4]),([5,3],[5]),([3,6],[3,6]),([7],[7]),([0,8,6],[0,8]),([9,9,0,1,2,3,4,5,6,7,8,9],[0,9])])
def ancepslaw42_copied.B5:List Nat:=[0,0,2,6,0,16,62,126,254,511,1023]
theorem ancepslaw42_copied.tab5:rtab .any (opsOf Try.f12 5)=ancepslaw42_copied.T5:=by kernel_rfl
theorem ancepslaw42_copied.bits5:waitsOk ancepslaw42_copied.T5.2 ancepslaw42_copied.B5=true:=by kernel_rfl
set_option maxHeartbeats 8000000 in
set_option maxRecDepth 100000 in
theorem ancepslaw42_copied.calls (k:Nat) (A0:Option Addr) (c0:Nat) (l0:List (S50)) (r:List (S50)) (w:World) (hr0:Kd.C k50 w A0 l0.length l0) (hc0:l0.length≤c0) (h:ancepslaw42_copied.f k l0=some r) :
  Calls Try.prog 12 #[.slice A0 l0.length c0] w fun e w'=>∃ v0_:Value,e=.returned (v0_)∧Kd.S k50 50 w' w.heap.size (fun _=>True) v0_ r∧Below w.heap.size w w':=by
 have hu50:=Try.underlying50
 have hu30:=Try.underlying30
 have HR0:=zA hr0
 have HC0:=zA hc0
 clear hr0 hc0
 have HB:=zA (Below.refl w.heap.size w)
 have H:(ancepslaw42_copied.l0 k ([]:List (S50)) l0 (l0.length:Int) 0)=some r:=h
 clear h
 have H':=zA H
 clear H
 go_enter Try.func12,Try.ntmps12
 go_wp2
 go_loopg [3,8] k (fun kq v3 v8 w'=>∃ (x3_1:List (S50)) (x8_1:Int),v8=.int .i64 x8_1∧Aside0 (ancepslaw42_copied.l0 kq x3_1 l0 (l0.length:Int) x8_1=some r)∧Aside0 (kq≤k)∧Aside0 (Kd.S k50 50 w' w.heap.size (fun _=>True) v3 x3_1)∧Aside0 (Below w.heap.size w w'))
 case atStart=>exact ⟨(([]:List (S50))),(0),zT,H',⟨Nat.le_refl _⟩,⟨by first|exact Kd.S_nil _ _ _ _ _|exact Kd.N_nil _ _ _ _ _|exact Kd.V_nil _ _ _ _ _|exact Kd.Q_nil _ _ _ _ _|exact Kd.R_nil _ _ _ _ _⟩,⟨by repeat (first|(with_reducible first|exact HB.out|apply below_alloc|apply pw_below_drewN|apply below_drew1)|exact HB.out)⟩⟩
 case round=>
  clear H'
  obtain ⟨x3_1,x8_1,rfl,HA,HK1,HO_3,HB⟩:=hrel
  cases gk with
  | zero=>exact absurd HA.out (by simp [ancepslaw42_copied.l0])
  | succ k1=>
   have H:=HA.out
   clear HA
   simp only [ancepslaw42_copied.l0] at H
   rcases ifd H with ⟨c2b0,H⟩|⟨c2b0,H⟩
   ·obtain ⟨c3b0,H⟩:=ifd1 H
    obtain ⟨c4b0,H⟩:=ifd1 H
    obtain ⟨t535,A5,H⟩:=zo H
    obtain ⟨t538,A6,H⟩:=zo H
    obtain ⟨c7,H⟩:=if1 H
    have LMc7:=zA c7
    clear c7
    first|(replace H:=zyb (x3_1++[(⟨t535,t538⟩:S50)]) H;obtain ⟨y541,Ny541,H⟩:=H)|(obtain ⟨y541,hy541⟩:=zY (x3_1++[(⟨t535,t538⟩:S50)]);(try rw (occs:=.pos [1]) [← hy541] at H);have Ny541:=zA hy541;clear hy541)
    have H':=zA H
    clear H
    obtain ⟨p533,q533,ad533,A533_0,c533_0,A533_1,c533_1,e533,hx533_0,hx533_1,hl533_0,hi533_0,hl533_1,hi533_1⟩:=zp (at_T50 HR0.out x8_1)
    cases e533
    replace hx533_0:=zd HB hx533_0
    replace hx533_1:=zd HB hx533_1
    have HR533_0:=zA hi533_0
    have HC533_0:=zA hl533_0
    clear hi533_0 hl533_0
    have HR533_1:=zA hi533_1
    have HC533_1:=zA hl533_1
    clear hi533_1 hl533_1
    replace p533:=eq_true p533
    replace q533:=eq_true q533
    try go_wp2_with (first|((with_reducible refine gd 5 rfl ?_);refine zx #[.slice none 0 0,.slice none 0 0] 50 (h:=?_);intro gb534 hg w8 BK534 hb GW534 HB1;have GE534:=GW534;replace HO_3:=zA (Kd.S_below (Kd.S_elderB (zS HO_3) gb534 (Nat.le_of_eq hg.symm)) hb);clear HB hb hg;have HB:=HB1;clear HB1;have hcz9_0:=zc0 BK534;have hcz9_1:=zc1 BK534;have hfz9_0:=zf BK534 0;have hfz9_1:=zf BK534 1))
    have n0_:Aside0 (Kd.S k50 50 ((w8.setCell ⟨gb534,0,none⟩ (.slice A533_0 ((rd_T50 l0 x8_1).f0).length c533_0)).setCell ⟨gb534,1,none⟩ (.slice A533_1 ((rd_T50 l0 x8_1).f1).length c533_1)) w.heap.size (fun k_=>k_≠gb534) u3 x3_1):=⟨by (with_reducible repeat (first|apply Kd.S_alloc|apply Kd.S_drewN|apply Kd.S_drew));exact Kd.S_mono (Kd.S_far (p:=⟨gb534,1,none⟩) (Kd.S_far (p:=⟨gb534,0,none⟩) (Kd.S_mono HO_3.out (fun k_ hk=>(⟨hk,hk.2⟩:_∧k_≠gb534))) (fun _ hk=>hk.2) (.slice A533_0 ((rd_T50 l0 x8_1).f0).length c533_0)) (fun _ hk=>hk.2) (.slice A533_1 ((rd_T50 l0 x8_1).f1).length c533_1)) (fun _ hk=>hk.1.2)⟩
    have n1_:Aside0 (((w8.setCell ⟨gb534,0,none⟩ (.slice A533_0 ((rd_T50 l0 x8_1).f0).length c533_0)).setCell ⟨gb534,1,none⟩ (.slice A533_1 ((rd_T50 l0 x8_1).f1).length c533_1)).heap[gb534]?=some (.cells #[.slice A533_0 ((rd_T50 l0 x8_1).f0).length c533_0,.slice A533_1 ((rd_T50 l0 x8_1).f1).length c533_1] 50 (0,0))):=⟨by refine zj ?_;refine blk_put (cs:=#[.slice A533_0 ((rd_T50 l0 x8_1).f0).length c533_0,.slice none 0 0]) ?_ 1 _ rfl;refine zj ?_;refine blk_put (cs:=#[.slice none 0 0,.slice none 0 0]) ?_ 0 _ rfl;refine zj ?_;exact BK534.out⟩
    have n2_:Aside0 (Below w.heap.size w ((w8.setCell ⟨gb534,0,none⟩ (.slice A533_0 ((rd_T50 l0 x8_1).f0).length c533_0)).setCell ⟨gb534,1,none⟩ (.slice A533_1 ((rd_T50 l0 x8_1).f1).length c533_1))):=⟨by repeat (first|(with_reducible first|exact HB.out|apply below_alloc|apply pw_below_drewN|apply below_drew1|refine below_set ?_ GE534.out)|exact HB.out)⟩
    (try clear HO_3)
    (try clear BK534)
    (try clear HB)
    generalize ((w8.setCell ⟨gb534,0,none⟩ (.slice A533_0 ((rd_T50 l0 x8_1).f0).length c533_0)).setCell ⟨gb534,1,none⟩ (.slice A533_1 ((rd_T50 l0 x8_1).f1).length c533_1))=w10 at n0_ n1_ n2_ ⊢
    have HO_3:=n0_
    have BK534:=n1_
    have HB:=n2_
    clear n0_ n1_ n2_
    replace HO_3:=zA (Kd.S_drew HO_3.out)
    replace BK534:=zA (blk_drew BK534.out)
    replace HB:=zA (below_drew1 HB.out)
    refine start_ (n:=11) (S:=fun w'=>w'.cell? ⟨gb534,0,none⟩=some (.slice A533_0 ((rd_T50 l0 x8_1).f0).length c533_0)∧w'.cell? ⟨gb534,1,none⟩=some (.slice A533_1 ((rd_T50 l0 x8_1).f1).length c533_1)) (ds:=[]) (bz 11 0) zK rfl rfl ⟨(blk_cell BK534.out 0).trans rfl,(blk_cell BK534.out 1).trans rfl⟩ (fun hHeld=>?_);refine with_tabW ancepslaw42_copied.tab5 ancepslaw42_copied.bits5 (fun HT_ HW_=>?_)
    generalize w10.drew=w11 at HO_3 BK534 HB hHeld ⊢
    refine zP 0 12 (bz 11 1) HT_ (h:=?_)
    refine zP 1 13 (bz 11 3) HT_ (h:=?_)
    refine zP 4 16 (bz 11 19) HT_ (h:=?_)
    refine zQ 2 14 (bz 11 23) HT_ HW_ hHeld (h:=?_)
    refine zQ 5 17 (bz 11 55) HT_ HW_ hHeld (h:=?_)
    refine one_ (i:=3) (N:=some 15) (bz 11 63) rfl rfl (one_of HT_.out zK) (by decide) (fun K hK=>?_)
    refine goes_ Try.func21 zK rfl #[.slice A533_0 ((rd_T50 l0 x8_1).f0).length c533_0] (by rfl) rfl rfl zM ?_
    with_reducible refine (slices_Clone_int_int_21.calls _ _ ((rd_T50 l0 x8_1).f0) t535 _ ?side1 ?side2 A5.out).mono ?_
    (case side1=>exact zC (Kd.C_below HR533_0.out HB.out))
    (case side2=>exact HC533_0.out)
    rintro e w12 ⟨v536,rfl,ho0,hb⟩
    refine ⟨_,rfl,?_⟩
    have HO537:=zA (Kd.R_lower ho0 (below_size zB))
    replace HO_3:=zA (Kd.S_elder' (zS HO_3) (Kd.R_base ho0) hb)
    replace BK534:=zw BK534 hb
    replace HB:=zu hb
    (try clear hb)
    (try clear hb2)
    (try clear hk)
    (try clear hi)
    (try clear ho0)
    refine hK.out _ _ ⟨(blk_cell BK534.out 0).trans rfl,(blk_cell BK534.out 1).trans rfl⟩ (fun hHeld=>?_)
    clear hK K
    refine norm_ (a':=?_) ?_ ?_
    rotate_left
    ·show Act.put _ (some 15) _=_
     simp only [Act.put,zi,zs,zt,i64_w,i32_w]
     rfl
    refine one_ (i:=6) (N:=some 18) (bz 11 127) rfl rfl (one_of HT_.out zK) (by decide) (fun K hK=>?_)
    refine goes_ Try.func21 zK rfl #[.slice A533_1 ((rd_T50 l0 x8_1).f1).length c533_1] (by rfl) rfl rfl zM ?_
    with_reducible refine (slices_Clone_int_int_21.calls _ _ ((rd_T50 l0 x8_1).f1) t538 _ ?side1 ?side2 A6.out).mono ?_
    (case side1=>exact zC (Kd.C_below HR533_1.out HB.out))
    (case side2=>exact HC533_1.out)
    rintro e w13 ⟨v539,rfl,ho0,hb⟩
    refine ⟨_,rfl,?_⟩
    have HO540:=zA (Kd.R_lower (Kd.R_new' ho0 (Kd.R_lt (zR HO537))) (below_size zB))
    replace HO_3:=zA (Kd.S_elder' (zS HO_3) (Kd.R_base ho0) hb)
    replace HO537:=zA (Kd.R_elder' (zR HO537) (Kd.R_base ho0) hb)
    replace BK534:=zw BK534 hb
    replace HB:=zu hb
    (try clear hb)
    (try clear hb2)
    (try clear hk)
    (try clear hi)
    (try clear ho0)
    obtain ⟨Ao14,co14,eo14⟩:=Kd.R_slice HO540.out
    (first|subst eo14|(injection eo14 with f1_ f2_ f3_;have f4_:=f1_.symm;have f5_:=f3_.symm;clear f1_ f2_ f3_;subst f4_;subst f5_))
    obtain ⟨Ao15,co15,eo15⟩:=Kd.R_slice HO537.out
    (first|subst eo15|(injection eo15 with f1_ f2_ f3_;have f4_:=f1_.symm;have f5_:=f3_.symm;clear f1_ f2_ f3_;subst f4_;subst f5_))
    refine hK.out _ _ ⟨(blk_cell BK534.out 0).trans rfl,(blk_cell BK534.out 1).trans rfl⟩ (fun hHeld=>?_)
    clear hK K
    refine norm_ (a':=?_) ?_ ?_
    rotate_left
    ·show Act.put _ (some 18) _=_
     simp only [Act.put,zi,zs,zt,i64_w,i32_w]
     rfl
    refine zP 7 19 (bz 11 255) HT_ (h:=?_)
    refine one_ (i:=8) (N:=some 20) (bz 11 511) rfl rfl (one_of HT_.out zK) (by decide) (fun K hK=>?_)
    refine value_ (w1:=?_) (v:=?_) (by rfl) rfl ?_ ?_
    rotate_left 2
    ·go_simp
     constructor
     ·rfl
     ·rfl
    refine hK.out _ _ ⟨(blk_cell (blk_alloc BK534.out _) 0).trans rfl,(blk_cell (blk_alloc BK534.out _) 1).trans rfl⟩ (fun hHeld=>?_)
    clear hK K
    refine norm_ (a':=?_) ?_ ?_
    rotate_left
    ·show Act.put _ (some 20) _=_
     simp only [Act.put,zi,zs,zt,i64_w,i32_w]
     rfl
    refine one_ (i:=9) (N:=some 21) (bz 11 1023) rfl rfl (one_of HT_.out zK) (by decide) (fun K hK=>?_)
    refine Kd.S_append_step k50 (w0:=w) w.heap.size (by rfl) (.tmp 12) (.tmp 20) 22 50 (.agg #[(.slice none 0 0),(.slice none 0 0)]) 48 rfl Try.underlying22 info50 rfl (by decide) (by omega) u3 x3_1 (⟨t535,t538⟩:S50) [.slice Ao15 t535.length co15,.slice Ao14 t538.length co14] (fun k_=>k_≠gb534) (fun k_=>some k_=(.slice Ao15 t535.length co15:Value).ownBlock∨some k_=(.slice Ao14 t538.length co14:Value).ownBlock) rfl rfl ?aP (fun k_ hk_=>hk_.elim (fun h_=>((Kd.R_mono (ok':=fun k_=>((fun k_=>k_≠gb534)) k_∧some k_≠(u3:Value).ownBlock) (Kd.R_types (Kd.R_apart' (HO537.out) (Kd.S_typed HO_3.out) (by decide)) BK534.out (by decide)) (fun k_ hk=>⟨hk.2,hk.1.2⟩))).1 k_ h_.symm) (fun h_=>((Kd.R_mono (ok':=fun k_=>((fun k_=>k_≠gb534)) k_∧some k_≠(u3:Value).ownBlock) (Kd.R_types (Kd.R_apart' (HO540.out) (Kd.S_typed HO_3.out) (by decide)) BK534.out (by decide)) (fun k_ hk=>⟨hk.2,hk.1.2⟩))).1 k_ h_.symm)) ?aF ?aO ?aB ?aS ?aL ?_
    (case aP=>exact k50_mkM _ _ _ (⟨t535,t538⟩:S50) (Kd.R_mono (Kd.R_tight rfl (Kd.R_mono (ok':=fun k_=>((fun k_=>k_≠gb534)) k_∧some k_≠(u3:Value).ownBlock) (Kd.R_types (Kd.R_apart' (HO537.out) (Kd.S_typed HO_3.out) (by decide)) BK534.out (by decide)) (fun k_ hk=>⟨hk.2,hk.1.2⟩))) (fun _ h_=>Or.inl h_)) (Kd.R_mono (Kd.R_tight rfl (Kd.R_mono (ok':=fun k_=>((fun k_=>k_≠gb534)) k_∧some k_≠(u3:Value).ownBlock) (Kd.R_types (Kd.R_apart' (HO540.out) (Kd.S_typed HO_3.out) (by decide)) BK534.out (by decide)) (fun k_ hk=>⟨hk.2,hk.1.2⟩))) (fun _ h_=>Or.inr (h_))))
    (case aB=>exact zB)
    (case aF=>exact (fun k_ hk=>Kd.freshB (g:=gb534) (o:=.cells #[.slice A533_0 ((rd_T50 l0 x8_1).f0).length c533_0,.slice A533_1 ((rd_T50 l0 x8_1).f1).length c533_1] 50 (0,0)) (zk BK534) k_ hk))
    (case aO=>exact (by (with_reducible repeat (first|apply Kd.S_alloc|apply Kd.S_drewN|apply Kd.S_drew));exact Kd.S_mono HO_3.out (fun k_ hk=>⟨hk.1.1,fun e_=>e_.elim (fun h_=>hk.1.2 h_) (fun h_=>hk.2 h_)⟩)))
    (case aS=>exact (below_size zB))
    (case aL=>have:=LMc7.out;omega)
    intro v542 w16 ho hb hg hat
    rw [← Ny541.out] at ho
    have HO543:=zA (ho)
    replace BK534:=zA (blk_grown (g:=gb534) (o:=.cells #[.slice A533_0 ((rd_T50 l0 x8_1).f0).length c533_0,.slice A533_1 ((rd_T50 l0 x8_1).f1).length c533_1] 50 (0,0)) (zk BK534) hg (Kd.S_away HO_3.out (fun _ hk=>hk.1.1)))
    replace HB:=zA (hb)
    clear HO_3 HO537 HO540
    clear ho hb hg hat
    refine hK.out _ _ ⟨(blk_cell BK534.out 0).trans rfl,(blk_cell BK534.out 1).trans rfl⟩ (fun hHeld=>?_)
    clear hK K
    refine norm_ (a':=?_) ?_ ?_
    rotate_left
    ·show Act.put _ (some 21) _=_
     simp only [Act.put,zi,zs,zt,i64_w,i32_w]
     rfl
    refine zP 10 3 (bz 11 2047) HT_ (h:=?_)
    refine done_ (done_of HT_.out zK) ?_
    try go_wp2
    go_roundg k1
    case measure=>have:=HK1.out;omega
    case rel=>exact ⟨(y541),(wrap64 (x8_1+1)),zT,H',⟨by have:=HK1.out;omega⟩,⟨by (with_reducible repeat (first|apply Kd.S_alloc|apply Kd.S_drewN|apply Kd.S_drew));exact Kd.S_mono HO543.out (fun _ hk=>trivial)⟩,⟨by repeat (first|(with_reducible first|exact HB.out|apply below_alloc|apply pw_below_drewN|apply below_drew1|refine below_set ?_ GE534.out)|exact HB.out)⟩⟩
   ·obtain rfl:=Option.some.inj H
    go_wp2
    go_ret
    exact ⟨_,ze,by (with_reducible repeat (first|apply Kd.S_alloc|apply Kd.S_drewN|apply Kd.S_drew));exact HO_3.out,by repeat (first|(with_reducible first|exact HB.out|apply below_alloc|apply pw_below_drewN|apply below_drew1)|exact HB.out)⟩
mutual
def ancepsref38_Made.l0:Nat→Int→Int→Int→List Int→Option (List Int×List Int)
 | 0,_,_,_,_=>none
 | k+1,x4,x545000,x545001,x547000=>if x4<24 then (if (x547000.length:Int)<6 then (if 0≤x4 then (if (Int.tmod (shr .u32 x545000 x4) 2)=1 then (if x547000.length<17592186044416 then (ancepsref38_Made.l0 k (wrap64 (x4+1)) x545000 x545001 (x547000++[x4])) else (none)) else (ancepsref38_Made.l0 k (wrap64 (x4+1)) x545000 x545001 x547000)) else (none)) else (ancepsref38_Made.l1 k 0 x545000 x545001 x547000 ([]:List Int))) else (ancepsref38_Made.l1 k 0 x545000 x545001 x547000 ([]:List Int))
def ancepsref38_Made.l1:Nat→Int→Int→Int→List Int→List Int→Option (List Int×List Int)
 | 0,_,_,_,_,_=>none
 | k+1,x5,x545000,x545001,x547000,x547001=>if x5<(shl .i64 1 (x547000.length:Int)) then (if 0≤x5 then (if (Int.tmod (shr .u64 x545001 x5) 2)=1 then (if x547001.length<17592186044416 then (ancepsref38_Made.l1 k (wrap64 (x5+1)) x545000 x545001 x547000 (x547001++[x5])) else (none)) else (ancepsref38_Made.l1 k (wrap64 (x5+1)) x545000 x545001 x547000 x547001)) else (none)) else (some (x547000,x547001))
end
def ancepsref38_Made.f (k:Nat) (a0_0:Int) (a0_1:Int):Option (List Int×List Int):=ancepsref38_Made.l0 k 0 a0_0 a0_1 ([]:List Int)
theorem ancepsref38_Made.mono_l:∀ k,(∀ y0 y1 y2 y3,LeO (ancepsref38_Made.l0 k y0 y1 y2 y3) (ancepsref38_Made.l0 (k+1) y0 y1 y2 y3))∧(∀ y0 y1 y2 y3 y4,LeO (ancepsref38_Made.l1 k y0 y1 y2 y3 y4) (ancepsref38_Made.l1 (k+1) y0 y1 y2 y3 y4))
 | 0=>⟨fun _ _ _ _ r h=>by simp [ancepsref38_Made.l0] at h,fun _ _ _ _ _ r h=>by simp [ancepsref38_Made.l1] at h⟩
 | k+1=>by
  obtain ⟨ih0,ih1⟩:=ancepsref38_Made.mono_l k
  refine ⟨?_,?_⟩
  ·intro y0 y1 y2 y3
   unfold ancepsref38_Made.l0
   repeat' first
   | (with_reducible exact ih0 _ _ _ _)
   | (with_reducible exact ih1 _ _ _ _ _)
   | (with_reducible exact LeO.refl _)
   | (with_reducible exact LeO.none _)
   | (with_reducible refine LeO.ite ?_ ?_)
   | (with_reducible refine LeO.bind ?_ (fun _=>?_))
   | exact LeO.none _
   | refine LeO.ite ?_ ?_
   | refine LeO.bind ?_ (fun _=>?_)
  ·intro y0 y1 y2 y3 y4
   unfold ancepsref38_Made.l1
   repeat' first
   | (with_reducible exact ih0 _ _ _ _)
   | (with_reducible exact ih1 _ _ _ _ _)
   | (with_reducible exact LeO.refl _)
   | (with_reducible exact LeO.none _)
   | (with_reducible refine LeO.ite ?_ ?_)
   | (with_reducible refine LeO.bind ?_ (fun _=>?_))
   | exact LeO.none _
   | refine LeO.ite ?_ ?_
   | refine LeO.bind ?_ (fun _=>?_)
theorem ancepsref38_Made.mono:∀ a0 a1 k,LeO (ancepsref38_Made.f k a0 a1) (ancepsref38_Made.f (k+1) a0 a1):=by
 intro a0 a1 k
 obtain ⟨ih0,ih1⟩:=ancepsref38_Made.mono_l k
 unfold ancepsref38_Made.f
 repeat' first
   | (with_reducible exact ih0 _ _ _ _)
   | (with_reducible exact ih1 _ _ _ _ _)
   | (with_reducible exact LeO.refl _)
   | (with_reducible exact LeO.none _)
   | (with_reducible refine LeO.ite ?_ ?_)
   | (with_reducible refine LeO.bind ?_ (fun _=>?_))
   | exact LeO.none _
   | refine LeO.ite ?_ ?_
   | refine LeO.bind ?_ (fun _=>?_)
set_option maxHeartbeats 8000000 in
set_option maxRecDepth 100000 in
theorem ancepsref38_Made.calls (k:Nat) (a0_0:Int) (a0_1:Int) (r1:List Int) (r2:List Int) (w:World) (h:ancepsref38_Made.f k a0_0 a0_1=some (r1,r2)) :
  Calls Try.prog 31 #[.agg #[.int .u32 a0_0,.int .u64 a0_1]] w fun e w'=>∃ v0_ v1_:Value,e=.returned (.agg #[v0_,v1_])∧Kd.R (Kd.int .i64) 3 w' w.heap.size (fun k_=>some k_≠(v1_:Value).ownBlock) v0_ r1∧Kd.R (Kd.int .i64) 3 w' w.heap.size (fun k_=>some k_≠(v0_:Value).ownBlock) v1_ r2∧Below w.heap.size w w':=by
 have hu54:=Try.underlying54
 have hu50:=Try.underlying50
 have hu30:=Try.underlying30
 have hu51:=Try.underlying51
 have hu52:=Try.underlying52
 have HB:=zA (Below.refl w.heap.size w)
 have H:(ancepsref38_Made.l0 k 0 a0_0 a0_1 ([]:List Int))=some (r1,r2):=h
 clear h
 have H':=zA H
 clear H
 go_enter Try.func31,Try.ntmps31
 go_wp2_with (first|((with_reducible refine gd 1 rfl ?_);(try (refine gate_guard (by rfl) ?_;dsimp only));refine zx #[.int .u32 a0_0,.int .u64 a0_1] 54 (h:=?_);intro gb544 hg w2 BK544 hb GW544 HB1;have GE544:=GW544;clear HB hb hg;have HB:=HB1;clear HB1)|((with_reducible refine gd 2 rfl ?_);(try (refine gate_guard (by rfl) ?_;dsimp only));refine zx #[.slice none 0 0,.slice none 0 0] 50 (h:=?_);intro gb545 hg w3 BK545 hb GW545 HB1;have GE545:=GW545;have NB544_545:=zL hg BK544;have NB545_544:=zLs NB544_545;replace BK544:=zw BK544 hb;clear HB hb hg;have HB:=HB1;clear HB1)|((with_reducible refine gd 3 rfl ?_);(try (refine gate_guard (by rfl) ?_;dsimp only));refine zx #[.slice none 0 0,.slice none 0 0] 50 (h:=?_);intro gb546 hg w4 BK546 hb GW546 HB1;have GE546:=GW546;have NB544_546:=zL hg BK544;have NB546_544:=zLs NB544_546;have NB545_546:=zL hg BK545;have NB546_545:=zLs NB545_546;replace BK544:=zw BK544 hb;replace BK545:=zw BK545 hb;clear HB hb hg;have HB:=HB1;clear HB1))
 go_loopg [4] k (fun kq v4 w'=>∃ (x4_1:Int) (x547000_1:List Int) (u547000:Value),v4=.int .i64 x4_1∧Aside0 (ancepsref38_Made.l0 kq x4_1 a0_0 a0_1 x547000_1=some (r1,r2))∧Aside0 (kq≤k)∧Aside0 (Kd.R (Kd.int .i64) 3 w' w.heap.size (fun _=>True) u547000 x547000_1)∧Aside0 (w'.heap[gb544]?=some (.cells #[.int .u32 a0_0,.int .u64 a0_1] 54 (0,0)))∧Aside0 (w'.heap[gb545]?=some (.cells #[(.slice none 0 0),(.slice none 0 0)] 50 (0,0)))∧Aside0 (w'.heap[gb546]?=some (.cells #[u547000,(.slice none 0 0)] 50 (0,0)))∧Aside0 (Below w.heap.size w w'))
 case atStart=>exact ⟨(0),(([]:List Int)),(.slice none 0 0),zT,H',⟨Nat.le_refl _⟩,⟨by first|exact Kd.R_nil _ _ _ _ _|exact Kd.N_nil _ _ _ _ _|exact Kd.V_nil _ _ _ _ _|exact Kd.Q_nil _ _ _ _ _|exact Kd.S_nil _ _ _ _ _⟩,⟨by refine zj ?_;exact BK544.out⟩,⟨by refine zj ?_;exact BK545.out⟩,⟨by refine zj ?_;exact BK546.out⟩,⟨by repeat (first|(with_reducible first|exact HB.out|apply below_alloc|apply pw_below_drewN|apply below_drew1|refine below_set ?_ GE544.out|refine below_set ?_ GE545.out|refine below_set ?_ GE546.out)|exact HB.out)⟩⟩
 case round=>
  clear H'
  obtain ⟨x4_1,x547000_1,u547000,rfl,HA,HK1,HO_547000,BK544,BK545,BK546,HB⟩:=hrel
  cases gk with
  | zero=>exact absurd HA.out (by simp [ancepsref38_Made.l0])
  | succ k1=>
   have H:=HA.out
   clear HA
   simp only [ancepsref38_Made.l0] at H
   rcases ifd H with ⟨c5b0,H⟩|⟨c5b0,H⟩
   ·rcases if0 H with ⟨c6,H⟩|⟨c6,H⟩
    ·have c6b0:decide ((x547000_1.length:Int)<6)=true:=decide_eq_true c6
     have c6b1:decide (x547000_1.length<6)=true:=decide_eq_true (by omega)
     clear c6
     obtain ⟨c7,H⟩:=if1 H
     have c7b0:=eq_true c7
     have c7b1:decide (0≤x4_1)=true:=decide_eq_true c7
     clear c7
     obtain ⟨ji8,hji8⟩:=zZ (shr .u32 a0_0 x4_1)
     first|rw [hji8] at H|simp only [hji8] at H
     have hji8_:(a0_0 / 2 ^ min x4_1.toNat 32)=ji8:=hji8
     have hji8z:x4_1≤32→(a0_0 / 2 ^ x4_1.toNat)=ji8:=shr_small hji8
     rcases ife H with ⟨c9b0,c9b1,H⟩|⟨c9,c9b0,c9b1,H⟩
     ·obtain ⟨c10,H⟩:=if1 H
      have LMc10:=zA c10
      clear c10
      first|(replace H:=zyb (x547000_1++[x4_1]) H;obtain ⟨y547,Ny547,H⟩:=H)|(obtain ⟨y547,hy547⟩:=zY (x547000_1++[x4_1]);(try rw (occs:=.pos [1]) [← hy547] at H);have Ny547:=zA hy547;clear hy547)
      have H':=zA H
      clear H
      have hnb11:=NB546_544.out
      have hnc11:=NB544_546.out
      have hnb12:=NB546_545.out
      have hnc12:=NB545_546.out
      have hcz13_0:=zc0 BK546
      have hcz13_1:=zc1 BK546
      have hfz13_0:=zf BK546 0
      have hfz13_1:=zf BK546 1
      obtain ⟨Ao14,co14,eo14⟩:=Kd.R_slice HO_547000.out
      subst eo14
      have hnb15:=NB544_545.out
      have hnc15:=NB545_544.out
      have hcz16_0:=zc0 BK544
      have hcz16_1:=zc1 BK544
      have hfz16_0:=zf BK544 0
      have hfz16_1:=zf BK544 1
      go_wp2_with (first|((with_reducible refine gate_builtin (b:=.append) (xs:=#[.tmp 23,.tmp 25]) rfl ?_);(try (refine gate_guard (by rfl) ?_;dsimp only));at_builtin;refine Kd.R_append (Kd.int .i64) (w0:=w) w.heap.size rfl (.tmp 23) (.tmp 25) 30 3 (.int .i64 0) 8 rfl Try.underlying30 info3 rfl (by decide) (by omega) (.slice Ao14 x547000_1.length co14) x547000_1 x4_1 [.int .i64 x4_1] (fun _=>True) (fun _=>False) rfl rfl ?aP (fun _ hk=>hk.elim) ?aF ?aO ?aB ?aS ?aL ?_;(case aP=>exact rfl);(case aB=>exact zB);(case aF=>exact (fun _ _=>trivial));(case aO=>exact (zR HO_547000));(case aS=>exact (below_size zB));(case aL=>have:=LMc10.out;omega);intro v548 w17 ho hb hg hat;rw [← Ny547.out] at ho;have HO549:=zA (ho);replace BK544:=zA (blk_grown (g:=gb544) (o:=.cells #[.int .u32 a0_0,.int .u64 a0_1] 54 (0,0)) (zk BK544) hg (Kd.R_ne HO_547000.out BK544.out (by decide)));replace BK545:=zA (blk_grown (g:=gb545) (o:=.cells #[.slice none 0 0,.slice none 0 0] 50 (0,0)) (zk BK545) hg (Kd.R_ne HO_547000.out BK545.out (by decide)));replace BK546:=zA (blk_grown (g:=gb546) (o:=.cells #[.slice Ao14 x547000_1.length co14,.slice none 0 0] 50 (0,0)) (zk BK546) hg (Kd.R_ne HO_547000.out BK546.out (by decide)));replace HB:=zA (hb);clear HO_547000;clear ho hb hg hat;obtain ⟨Ao18,co18,eo18⟩:=Kd.R_slice HO549.out;subst eo18;have hcz19_0:=zc0 BK546;have hcz19_1:=zc1 BK546;have hfz19_0:=zf BK546 0;have hfz19_1:=zf BK546 1))
      go_roundg k1
      case measure=>have:=HK1.out;omega
      case rel=>exact ⟨(wrap64 (x4_1+1)),(y547),(.slice Ao18 y547.length co18),zT,H',⟨by have:=HK1.out;omega⟩,⟨by refine zr ?_;exact Kd.R_mono (Kd.R_far (p:=⟨gb546,0,none⟩) (Kd.R_types HO549.out BK546.out (by decide)) (fun _ hk=>hk.2) (.slice Ao18 y547.length co18)) (fun _ hk=>trivial)⟩,⟨by refine zj ?_;refine blk_far ?_ NB544_546.out _;refine zj ?_;exact BK544.out⟩,⟨by refine zj ?_;refine blk_far ?_ NB545_546.out _;refine zj ?_;exact BK545.out⟩,⟨by refine zj ?_;refine blk_put (cs:=#[.slice Ao14 x547000_1.length co14,.slice none 0 0]) ?_ 0 _ rfl;refine zj ?_;exact BK546.out⟩,⟨by repeat (first|(with_reducible first|exact HB.out|apply below_alloc|apply pw_below_drewN|apply below_drew1|refine below_set ?_ GE544.out|refine below_set ?_ GE545.out|refine below_set ?_ GE546.out)|exact HB.out)⟩⟩
     ·have H':=zA H
      clear H
      have hnb20:=NB546_544.out
      have hnc20:=NB544_546.out
      have hnb21:=NB546_545.out
      have hnc21:=NB545_546.out
      have hcz22_0:=zc0 BK546
      have hcz22_1:=zc1 BK546
      have hfz22_0:=zf BK546 0
      have hfz22_1:=zf BK546 1
      obtain ⟨Ao23,co23,eo23⟩:=Kd.R_slice HO_547000.out
      subst eo23
      have hnb24:=NB544_545.out
      have hnc24:=NB545_544.out
      have hcz25_0:=zc0 BK544
      have hcz25_1:=zc1 BK544
      have hfz25_0:=zf BK544 0
      have hfz25_1:=zf BK544 1
      go_wp2
      go_roundg k1
      case measure=>have:=HK1.out;omega
      case rel=>exact ⟨(wrap64 (x4_1+1)),(x547000_1),(.slice Ao23 x547000_1.length co23),zT,H',⟨by have:=HK1.out;omega⟩,⟨by refine zr ?_;exact HO_547000.out⟩,⟨by refine zj ?_;exact BK544.out⟩,⟨by refine zj ?_;exact BK545.out⟩,⟨by refine zj ?_;exact BK546.out⟩,⟨by repeat (first|(with_reducible first|exact HB.out|apply below_alloc|apply pw_below_drewN|apply below_drew1|refine below_set ?_ GE544.out|refine below_set ?_ GE545.out|refine below_set ?_ GE546.out)|exact HB.out)⟩⟩
    ·have c6b0:decide ((x547000_1.length:Int)<6)=false:=decide_eq_false c6
     have c6b1:decide (x547000_1.length<6)=false:=decide_eq_false (by omega)
     clear c6
     have H':=zA H
     clear H
     have hnb26:=NB546_544.out
     have hnc26:=NB544_546.out
     have hnb27:=NB546_545.out
     have hnc27:=NB545_546.out
     have hcz28_0:=zc0 BK546
     have hcz28_1:=zc1 BK546
     have hfz28_0:=zf BK546 0
     have hfz28_1:=zf BK546 1
     obtain ⟨Ao29,co29,eo29⟩:=Kd.R_slice HO_547000.out
     subst eo29
     go_wp2
     go_loopg [5] k1 (fun kq v5 w'=>∃ (x5_2:Int) (x547001_2:List Int) (u547001:Value),v5=.int .i64 x5_2∧Aside0 (ancepsref38_Made.l1 kq x5_2 a0_0 a0_1 x547000_1 x547001_2=some (r1,r2))∧Aside0 (kq≤k1)∧Aside0 (Kd.R (Kd.int .i64) 3 w' w.heap.size (fun k_=>some k_≠(u547001:Value).ownBlock) (.slice Ao29 x547000_1.length co29) x547000_1)∧Aside0 (Kd.R (Kd.int .i64) 3 w' w.heap.size (fun k_=>some k_≠((.slice Ao29 x547000_1.length co29):Value).ownBlock) u547001 x547001_2)∧Aside0 (w'.heap[gb544]?=some (.cells #[.int .u32 a0_0,.int .u64 a0_1] 54 (0,0)))∧Aside0 (w'.heap[gb545]?=some (.cells #[(.slice none 0 0),(.slice none 0 0)] 50 (0,0)))∧Aside0 (w'.heap[gb546]?=some (.cells #[(.slice Ao29 x547000_1.length co29),u547001] 50 (0,0)))∧Aside0 (Below w.heap.size w w'))
     case atStart=>exact ⟨(0),(([]:List Int)),(.slice none 0 0),zT,H',⟨Nat.le_refl _⟩,⟨by refine zr ?_;exact Kd.R_mono HO_547000.out (fun _ hk=>(by simp [Value.ownBlock]))⟩,⟨by first|exact Kd.R_nil _ _ _ _ _|exact Kd.N_nil _ _ _ _ _|exact Kd.V_nil _ _ _ _ _|exact Kd.Q_nil _ _ _ _ _|exact Kd.S_nil _ _ _ _ _⟩,⟨by refine zj ?_;exact BK544.out⟩,⟨by refine zj ?_;exact BK545.out⟩,⟨by refine zj ?_;exact BK546.out⟩,⟨by repeat (first|(with_reducible first|exact HB.out|apply below_alloc|apply pw_below_drewN|apply below_drew1|refine below_set ?_ GE544.out|refine below_set ?_ GE545.out|refine below_set ?_ GE546.out)|exact HB.out)⟩⟩
     case round=>
      clear H'
      try clear c5
      try clear c5b0
      try clear c6
      try clear c6b0
      try clear c6b1
      try clear hcz28_0
      try clear hcz28_1
      try clear hfz28_0
      try clear hfz28_1
      obtain ⟨x5_2,x547001_2,u547001,rfl,HA,HK2,HO_547000,HO_547001,BK544,BK545,BK546,HB⟩:=hrel
      cases gk with
      | zero=>exact absurd HA.out (by simp [ancepsref38_Made.l1])
      | succ k2=>
       have H:=HA.out
       clear HA
       simp only [ancepsref38_Made.l1] at H
       obtain ⟨ji30,hji30⟩:=zZ (shl .i64 1 (x547000_1.length:Int))
       first|rw [hji30] at H|simp only [hji30] at H
       have hji30_:(IntKind.i64.wrap (1 * 2 ^ min (x547000_1.length:Int).toNat 64))=ji30:=hji30
       have hji30z:(x547000_1.length:Int)≤64→(IntKind.i64.wrap (1 * 2 ^ (x547000_1.length:Int).toNat))=ji30:=shl_small hji30
       have hji30p:(IntKind.i64.wrap (1 * 2 ^ min x547000_1.length 64))=ji30:=hji30_
       have hji30q:(x547000_1.length:Int)≤64→(IntKind.i64.wrap (1 * 2 ^ x547000_1.length))=ji30:=hji30z
       have hji30r:(IntKind.i64.wrap (2 ^ min x547000_1.length 64))=ji30:=by have h_:=hji30p;rw [Int.one_mul] at h_;exact h_
       have hji30s:(x547000_1.length:Int)≤64→(IntKind.i64.wrap (2 ^ x547000_1.length))=ji30:=fun hle_=>by have h_:=hji30q hle_;rw [Int.one_mul] at h_;exact h_
       have hji30u:(IntKind.i64.wrap (2 ^ min (x547000_1.length:Int).toNat 64))=ji30:=by have h_:=hji30_;rw [Int.one_mul] at h_;exact h_
       have hji30v:(x547000_1.length:Int)≤64→(IntKind.i64.wrap (2 ^ (x547000_1.length:Int).toNat))=ji30:=fun hle_=>by have h_:=hji30z hle_;rw [Int.one_mul] at h_;exact h_
       have hji30y:(wrap64 (1 * 2 ^ min (x547000_1.length:Int).toNat 64))=ji30:=(i64_w _).symm.trans hji30_
       have hji30x:(x547000_1.length:Int)≤64→(wrap64 (1 * 2 ^ (x547000_1.length:Int).toNat))=ji30:=fun h_=>(i64_w _).symm.trans (hji30z h_)
       rcases ifd H with ⟨c31b0,H⟩|⟨c31b0,H⟩
       ·obtain ⟨c32,H⟩:=if1 H
        have c32b0:=eq_true c32
        have c32b1:decide (0≤x5_2)=true:=decide_eq_true c32
        clear c32
        obtain ⟨ji33,hji33⟩:=zZ (shr .u64 a0_1 x5_2)
        first|rw [hji33] at H|simp only [hji33] at H
        have hji33_:(a0_1 / 2 ^ min x5_2.toNat 64)=ji33:=hji33
        have hji33z:x5_2≤64→(a0_1 / 2 ^ x5_2.toNat)=ji33:=shr_small hji33
        rcases ife H with ⟨c34b0,c34b1,H⟩|⟨c34,c34b0,c34b1,H⟩
        ·obtain ⟨c35,H⟩:=if1 H
         have LMc35:=zA c35
         clear c35
         first|(replace H:=zyb (x547001_2++[x5_2]) H;obtain ⟨y550,Ny550,H⟩:=H)|(obtain ⟨y550,hy550⟩:=zY (x547001_2++[x5_2]);(try rw (occs:=.pos [1]) [← hy550] at H);have Ny550:=zA hy550;clear hy550)
         have H':=zA H
         clear H
         have hnb36:=NB546_544.out
         have hnc36:=NB544_546.out
         have hnb37:=NB546_545.out
         have hnc37:=NB545_546.out
         have hcz38_0:=zc0 BK546
         have hcz38_1:=zc1 BK546
         have hfz38_0:=zf BK546 0
         have hfz38_1:=zf BK546 1
         have hnb39:=NB544_545.out
         have hnc39:=NB545_544.out
         have hcz40_0:=zc0 BK544
         have hcz40_1:=zc1 BK544
         have hfz40_0:=zf BK544 0
         have hfz40_1:=zf BK544 1
         go_wp2_with (first|((with_reducible refine gate_builtin (b:=.append) (xs:=#[.tmp 43,.tmp 45]) rfl ?_);(try (refine gate_guard (by rfl) ?_;dsimp only));at_builtin;refine Kd.R_append (Kd.int .i64) (w0:=w) w.heap.size rfl (.tmp 43) (.tmp 45) 30 3 (.int .i64 0) 8 rfl Try.underlying30 info3 rfl (by decide) (by omega) u547001 x547001_2 x5_2 [.int .i64 x5_2] (fun k_=>some k_≠(.slice Ao29 x547000_1.length co29:Value).ownBlock) (fun _=>False) rfl rfl ?aP (fun _ hk=>hk.elim) ?aF ?aO ?aB ?aS ?aL ?_;(case aP=>exact rfl);(case aB=>exact zB);(case aF=>exact (fun k_ hk=>Kd.fresh' (Kd.R_lt (zR HO_547000)) k_ hk));(case aO=>exact (zR HO_547001));(case aS=>exact (below_size zB));(case aL=>have:=LMc35.out;omega);intro v551 w41 ho hb hg hat;rw [← Ny550.out] at ho;have HO552:=zA (ho);replace HO_547000:=zA (Kd.R_after (ok:=(fun _=>True)) (by refine zr ?_;exact Kd.R_mono HO_547000.out (fun _ hk=>⟨trivial,hk⟩)) hg hat);replace BK544:=zA (blk_grown (g:=gb544) (o:=.cells #[.int .u32 a0_0,.int .u64 a0_1] 54 (0,0)) (zk BK544) hg (Kd.R_ne HO_547001.out BK544.out (by decide)));replace BK545:=zA (blk_grown (g:=gb545) (o:=.cells #[.slice none 0 0,.slice none 0 0] 50 (0,0)) (zk BK545) hg (Kd.R_ne HO_547001.out BK545.out (by decide)));replace BK546:=zA (blk_grown (g:=gb546) (o:=.cells #[.slice Ao29 x547000_1.length co29,u547001] 50 (0,0)) (zk BK546) hg (Kd.R_ne HO_547001.out BK546.out (by decide)));replace HB:=zA (hb);clear HO_547001;clear ho hb hg hat;obtain ⟨Ao42,co42,eo42⟩:=Kd.R_slice HO552.out;subst eo42;have hcz43_0:=zc0 BK546;have hcz43_1:=zc1 BK546;have hfz43_0:=zf BK546 0;have hfz43_1:=zf BK546 1))
         go_roundg k2
         case measure=>have:=HK1.out;have:=HK2.out;omega
         case rel=>exact ⟨(wrap64 (x5_2+1)),(y550),(.slice Ao42 y550.length co42),zT,H',⟨by have:=HK1.out;have:=HK2.out;omega⟩,⟨by refine zr ?_;exact Kd.R_mono (Kd.R_far (p:=⟨gb546,1,none⟩) (Kd.R_types HO_547000.out BK546.out (by decide)) (fun _ hk=>hk.2) (.slice Ao42 y550.length co42)) (fun _ hk=>hk.1.2)⟩,⟨by refine zr ?_;exact Kd.R_mono (Kd.R_far (p:=⟨gb546,1,none⟩) (Kd.R_types HO552.out BK546.out (by decide)) (fun _ hk=>hk.2) (.slice Ao42 y550.length co42)) (fun _ hk=>hk.1)⟩,⟨by refine zj ?_;refine blk_far ?_ NB544_546.out _;refine zj ?_;exact BK544.out⟩,⟨by refine zj ?_;refine blk_far ?_ NB545_546.out _;refine zj ?_;exact BK545.out⟩,⟨by refine zj ?_;refine blk_put (cs:=#[.slice Ao29 x547000_1.length co29,u547001]) ?_ 1 _ rfl;refine zj ?_;exact BK546.out⟩,⟨by repeat (first|(with_reducible first|exact HB.out|apply below_alloc|apply pw_below_drewN|apply below_drew1|refine below_set ?_ GE544.out|refine below_set ?_ GE545.out|refine below_set ?_ GE546.out)|exact HB.out)⟩⟩
        ·have H':=zA H
         clear H
         have hnb44:=NB546_544.out
         have hnc44:=NB544_546.out
         have hnb45:=NB546_545.out
         have hnc45:=NB545_546.out
         have hcz46_0:=zc0 BK546
         have hcz46_1:=zc1 BK546
         have hfz46_0:=zf BK546 0
         have hfz46_1:=zf BK546 1
         have hnb47:=NB544_545.out
         have hnc47:=NB545_544.out
         have hcz48_0:=zc0 BK544
         have hcz48_1:=zc1 BK544
         have hfz48_0:=zf BK544 0
         have hfz48_1:=zf BK544 1
         go_wp2
         go_roundg k2
         case measure=>have:=HK1.out;have:=HK2.out;omega
         case rel=>exact ⟨(wrap64 (x5_2+1)),(x547001_2),(u547001),zT,H',⟨by have:=HK1.out;have:=HK2.out;omega⟩,⟨by refine zr ?_;exact HO_547000.out⟩,⟨by refine zr ?_;exact HO_547001.out⟩,⟨by refine zj ?_;exact BK544.out⟩,⟨by refine zj ?_;exact BK545.out⟩,⟨by refine zj ?_;exact BK546.out⟩,⟨by repeat (first|(with_reducible first|exact HB.out|apply below_alloc|apply pw_below_drewN|apply below_drew1|refine below_set ?_ GE544.out|refine below_set ?_ GE545.out|refine below_set ?_ GE546.out)|exact HB.out)⟩⟩
       ·simp only [Option.some.injEq,Prod.mk.injEq] at H
        obtain ⟨rfl,rfl⟩:=H
        have hnb49:=NB546_544.out
        have hnc49:=NB544_546.out
        have hnb50:=NB546_545.out
        have hnc50:=NB545_546.out
        have hcz51_0:=zc0 BK546
        have hcz51_1:=zc1 BK546
        have hfz51_0:=zf BK546 0
        have hfz51_1:=zf BK546 1
        have hnb52:=NB545_544.out
        have hnc52:=NB544_545.out
        have hcz53_0:=zc0 BK545
        have hcz53_1:=zc1 BK545
        have hfz53_0:=zf BK545 0
        have hfz53_1:=zf BK545 1
        obtain ⟨Ao54,co54,eo54⟩:=Kd.R_slice HO_547001.out
        subst eo54
        go_wp2
        refine bodyPost_ret (results_cell_row rfl _ _ gb545 50 #[.slice Ao29 x547000_1.length co29,.slice Ao54 x547001_2.length co54] (0,0) _ rfl (by refine zj ?_;refine blk_put (cs:=#[.slice Ao29 x547000_1.length co29,.slice none 0 0]) ?_ 1 _ rfl;refine zj ?_;refine blk_put (cs:=#[.slice none 0 0,.slice none 0 0]) ?_ 0 _ rfl;refine zj ?_;exact BK545.out) Try.underlying50 rfl zK) rfl ?_
        exact ⟨_,_,by first|rfl|(simp [errW_none,errW_some] <;> rfl)|(simp only [← hji30];first|rfl|(simp [errW_none,errW_some] <;> rfl))|(simp [*,errW_none,errW_some] <;> rfl),by refine zr ?_;exact Kd.R_mono (Kd.R_far (p:=⟨gb545,1,none⟩) (Kd.R_far (p:=⟨gb545,0,none⟩) (Kd.R_types HO_547000.out BK545.out (by decide)) (fun _ hk=>hk.2) (.slice Ao29 x547000_1.length co29)) (fun _ hk=>hk.2) (.slice Ao54 x547001_2.length co54)) (fun _ hk=>hk.1),by refine zr ?_;exact Kd.R_mono (Kd.R_far (p:=⟨gb545,1,none⟩) (Kd.R_far (p:=⟨gb545,0,none⟩) (Kd.R_types HO_547001.out BK545.out (by decide)) (fun _ hk=>hk.2) (.slice Ao29 x547000_1.length co29)) (fun _ hk=>hk.2) (.slice Ao54 x547001_2.length co54)) (fun _ hk=>hk.1),by repeat (first|(with_reducible first|exact HB.out|apply below_alloc|apply pw_below_drewN|apply below_drew1|refine below_set ?_ GE544.out|refine below_set ?_ GE545.out|refine below_set ?_ GE546.out)|exact HB.out)⟩
   ·have H':=zA H
    clear H
    go_wp2
    go_loopg [5] k1 (fun kq v5 w'=>∃ (x5_2:Int) (x547001_2:List Int) (u547001:Value),v5=.int .i64 x5_2∧Aside0 (ancepsref38_Made.l1 kq x5_2 a0_0 a0_1 x547000_1 x547001_2=some (r1,r2))∧Aside0 (kq≤k1)∧Aside0 (Kd.R (Kd.int .i64) 3 w' w.heap.size (fun k_=>some k_≠(u547001:Value).ownBlock) u547000 x547000_1)∧Aside0 (Kd.R (Kd.int .i64) 3 w' w.heap.size (fun k_=>some k_≠(u547000:Value).ownBlock) u547001 x547001_2)∧Aside0 (w'.heap[gb544]?=some (.cells #[.int .u32 a0_0,.int .u64 a0_1] 54 (0,0)))∧Aside0 (w'.heap[gb545]?=some (.cells #[(.slice none 0 0),(.slice none 0 0)] 50 (0,0)))∧Aside0 (w'.heap[gb546]?=some (.cells #[u547000,u547001] 50 (0,0)))∧Aside0 (Below w.heap.size w w'))
    case atStart=>exact ⟨(0),(([]:List Int)),(.slice none 0 0),zT,H',⟨Nat.le_refl _⟩,⟨by refine zr ?_;exact Kd.R_mono HO_547000.out (fun _ hk=>(by simp [Value.ownBlock]))⟩,⟨by first|exact Kd.R_nil _ _ _ _ _|exact Kd.N_nil _ _ _ _ _|exact Kd.V_nil _ _ _ _ _|exact Kd.Q_nil _ _ _ _ _|exact Kd.S_nil _ _ _ _ _⟩,⟨by refine zj ?_;exact BK544.out⟩,⟨by refine zj ?_;exact BK545.out⟩,⟨by refine zj ?_;exact BK546.out⟩,⟨by repeat (first|(with_reducible first|exact HB.out|apply below_alloc|apply pw_below_drewN|apply below_drew1|refine below_set ?_ GE544.out|refine below_set ?_ GE545.out|refine below_set ?_ GE546.out)|exact HB.out)⟩⟩
    case round=>
     clear H'
     try clear c5
     try clear c5b0
     obtain ⟨x5_2,x547001_2,u547001,rfl,HA,HK2,HO_547000,HO_547001,BK544,BK545,BK546,HB⟩:=hrel
     cases gk with
     | zero=>exact absurd HA.out (by simp [ancepsref38_Made.l1])
     | succ k2=>
      have H:=HA.out
      clear HA
      simp only [ancepsref38_Made.l1] at H
      obtain ⟨ji55,hji55⟩:=zZ (shl .i64 1 (x547000_1.length:Int))
      first|rw [hji55] at H|simp only [hji55] at H
      have hji55_:(IntKind.i64.wrap (1 * 2 ^ min (x547000_1.length:Int).toNat 64))=ji55:=hji55
      have hji55z:(x547000_1.length:Int)≤64→(IntKind.i64.wrap (1 * 2 ^ (x547000_1.length:Int).toNat))=ji55:=shl_small hji55
      have hji55p:(IntKind.i64.wrap (1 * 2 ^ min x547000_1.length 64))=ji55:=hji55_
      have hji55q:(x547000_1.length:Int)≤64→(IntKind.i64.wrap (1 * 2 ^ x547000_1.length))=ji55:=hji55z
      have hji55r:(IntKind.i64.wrap (2 ^ min x547000_1.length 64))=ji55:=by have h_:=hji55p;rw [Int.one_mul] at h_;exact h_
      have hji55s:(x547000_1.length:Int)≤64→(IntKind.i64.wrap (2 ^ x547000_1.length))=ji55:=fun hle_=>by have h_:=hji55q hle_;rw [Int.one_mul] at h_;exact h_
      have hji55u:(IntKind.i64.wrap (2 ^ min (x547000_1.length:Int).toNat 64))=ji55:=by have h_:=hji55_;rw [Int.one_mul] at h_;exact h_
      have hji55v:(x547000_1.length:Int)≤64→(IntKind.i64.wrap (2 ^ (x547000_1.length:Int).toNat))=ji55:=fun hle_=>by have h_:=hji55z hle_;rw [Int.one_mul] at h_;exact h_
      have hji55y:(wrap64 (1 * 2 ^ min (x547000_1.length:Int).toNat 64))=ji55:=(i64_w _).symm.trans hji55_
      have hji55x:(x547000_1.length:Int)≤64→(wrap64 (1 * 2 ^ (x547000_1.length:Int).toNat))=ji55:=fun h_=>(i64_w _).symm.trans (hji55z h_)
      rcases ifd H with ⟨c56b0,H⟩|⟨c56b0,H⟩
      ·obtain ⟨c57,H⟩:=if1 H
       have c57b0:=eq_true c57
       have c57b1:decide (0≤x5_2)=true:=decide_eq_true c57
       clear c57
       obtain ⟨ji58,hji58⟩:=zZ (shr .u64 a0_1 x5_2)
       first|rw [hji58] at H|simp only [hji58] at H
       have hji58_:(a0_1 / 2 ^ min x5_2.toNat 64)=ji58:=hji58
       have hji58z:x5_2≤64→(a0_1 / 2 ^ x5_2.toNat)=ji58:=shr_small hji58
       rcases ife H with ⟨c59b0,c59b1,H⟩|⟨c59,c59b0,c59b1,H⟩
       ·obtain ⟨c60,H⟩:=if1 H
        have LMc60:=zA c60
        clear c60
        first|(replace H:=zyb (x547001_2++[x5_2]) H;obtain ⟨y550,Ny550,H⟩:=H)|(obtain ⟨y550,hy550⟩:=zY (x547001_2++[x5_2]);(try rw (occs:=.pos [1]) [← hy550] at H);have Ny550:=zA hy550;clear hy550)
        have H':=zA H
        clear H
        have hnb61:=NB546_544.out
        have hnc61:=NB544_546.out
        have hnb62:=NB546_545.out
        have hnc62:=NB545_546.out
        have hcz63_0:=zc0 BK546
        have hcz63_1:=zc1 BK546
        have hfz63_0:=zf BK546 0
        have hfz63_1:=zf BK546 1
        obtain ⟨Ao64,co64,eo64⟩:=Kd.R_slice HO_547000.out
        subst eo64
        have hnb65:=NB544_545.out
        have hnc65:=NB545_544.out
        have hcz66_0:=zc0 BK544
        have hcz66_1:=zc1 BK544
        have hfz66_0:=zf BK544 0
        have hfz66_1:=zf BK544 1
        go_wp2_with (first|((with_reducible refine gate_builtin (b:=.append) (xs:=#[.tmp 43,.tmp 45]) rfl ?_);(try (refine gate_guard (by rfl) ?_;dsimp only));at_builtin;refine Kd.R_append (Kd.int .i64) (w0:=w) w.heap.size rfl (.tmp 43) (.tmp 45) 30 3 (.int .i64 0) 8 rfl Try.underlying30 info3 rfl (by decide) (by omega) u547001 x547001_2 x5_2 [.int .i64 x5_2] (fun k_=>some k_≠(.slice Ao64 x547000_1.length co64:Value).ownBlock) (fun _=>False) rfl rfl ?aP (fun _ hk=>hk.elim) ?aF ?aO ?aB ?aS ?aL ?_;(case aP=>exact rfl);(case aB=>exact zB);(case aF=>exact (fun k_ hk=>Kd.fresh' (Kd.R_lt (zR HO_547000)) k_ hk));(case aO=>exact (zR HO_547001));(case aS=>exact (below_size zB));(case aL=>have:=LMc60.out;omega);intro v551 w67 ho hb hg hat;rw [← Ny550.out] at ho;have HO552:=zA (ho);replace HO_547000:=zA (Kd.R_after (ok:=(fun _=>True)) (by refine zr ?_;exact Kd.R_mono HO_547000.out (fun _ hk=>⟨trivial,hk⟩)) hg hat);replace BK544:=zA (blk_grown (g:=gb544) (o:=.cells #[.int .u32 a0_0,.int .u64 a0_1] 54 (0,0)) (zk BK544) hg (Kd.R_ne HO_547001.out BK544.out (by decide)));replace BK545:=zA (blk_grown (g:=gb545) (o:=.cells #[.slice none 0 0,.slice none 0 0] 50 (0,0)) (zk BK545) hg (Kd.R_ne HO_547001.out BK545.out (by decide)));replace BK546:=zA (blk_grown (g:=gb546) (o:=.cells #[.slice Ao64 x547000_1.length co64,u547001] 50 (0,0)) (zk BK546) hg (Kd.R_ne HO_547001.out BK546.out (by decide)));replace HB:=zA (hb);clear HO_547001;clear ho hb hg hat;obtain ⟨Ao68,co68,eo68⟩:=Kd.R_slice HO552.out;subst eo68;have hcz69_0:=zc0 BK546;have hcz69_1:=zc1 BK546;have hfz69_0:=zf BK546 0;have hfz69_1:=zf BK546 1))
        go_roundg k2
        case measure=>have:=HK1.out;have:=HK2.out;omega
        case rel=>exact ⟨(wrap64 (x5_2+1)),(y550),(.slice Ao68 y550.length co68),zT,H',⟨by have:=HK1.out;have:=HK2.out;omega⟩,⟨by refine zr ?_;exact Kd.R_mono (Kd.R_far (p:=⟨gb546,1,none⟩) (Kd.R_types HO_547000.out BK546.out (by decide)) (fun _ hk=>hk.2) (.slice Ao68 y550.length co68)) (fun _ hk=>hk.1.2)⟩,⟨by refine zr ?_;exact Kd.R_mono (Kd.R_far (p:=⟨gb546,1,none⟩) (Kd.R_types HO552.out BK546.out (by decide)) (fun _ hk=>hk.2) (.slice Ao68 y550.length co68)) (fun _ hk=>hk.1)⟩,⟨by refine zj ?_;refine blk_far ?_ NB544_546.out _;refine zj ?_;exact BK544.out⟩,⟨by refine zj ?_;refine blk_far ?_ NB545_546.out _;refine zj ?_;exact BK545.out⟩,⟨by refine zj ?_;refine blk_put (cs:=#[.slice Ao64 x547000_1.length co64,u547001]) ?_ 1 _ rfl;refine zj ?_;exact BK546.out⟩,⟨by repeat (first|(with_reducible first|exact HB.out|apply below_alloc|apply pw_below_drewN|apply below_drew1|refine below_set ?_ GE544.out|refine below_set ?_ GE545.out|refine below_set ?_ GE546.out)|exact HB.out)⟩⟩
       ·have H':=zA H
        clear H
        have hnb70:=NB546_544.out
        have hnc70:=NB544_546.out
        have hnb71:=NB546_545.out
        have hnc71:=NB545_546.out
        have hcz72_0:=zc0 BK546
        have hcz72_1:=zc1 BK546
        have hfz72_0:=zf BK546 0
        have hfz72_1:=zf BK546 1
        obtain ⟨Ao73,co73,eo73⟩:=Kd.R_slice HO_547000.out
        subst eo73
        have hnb74:=NB544_545.out
        have hnc74:=NB545_544.out
        have hcz75_0:=zc0 BK544
        have hcz75_1:=zc1 BK544
        have hfz75_0:=zf BK544 0
        have hfz75_1:=zf BK544 1
        go_wp2
        go_roundg k2
        case measure=>have:=HK1.out;have:=HK2.out;omega
        case rel=>exact ⟨(wrap64 (x5_2+1)),(x547001_2),(u547001),zT,H',⟨by have:=HK1.out;have:=HK2.out;omega⟩,⟨by refine zr ?_;exact HO_547000.out⟩,⟨by refine zr ?_;exact HO_547001.out⟩,⟨by refine zj ?_;exact BK544.out⟩,⟨by refine zj ?_;exact BK545.out⟩,⟨by refine zj ?_;exact BK546.out⟩,⟨by repeat (first|(with_reducible first|exact HB.out|apply below_alloc|apply pw_below_drewN|apply below_drew1|refine below_set ?_ GE544.out|refine below_set ?_ GE545.out|refine below_set ?_ GE546.out)|exact HB.out)⟩⟩
      ·simp only [Option.some.injEq,Prod.mk.injEq] at H
       obtain ⟨rfl,rfl⟩:=H
       have hnb76:=NB546_544.out
       have hnc76:=NB544_546.out
       have hnb77:=NB546_545.out
       have hnc77:=NB545_546.out
       have hcz78_0:=zc0 BK546
       have hcz78_1:=zc1 BK546
       have hfz78_0:=zf BK546 0
       have hfz78_1:=zf BK546 1
       obtain ⟨Ao79,co79,eo79⟩:=Kd.R_slice HO_547000.out
       subst eo79
       have hnb80:=NB545_544.out
       have hnc80:=NB544_545.out
       have hcz81_0:=zc0 BK545
       have hcz81_1:=zc1 BK545
       have hfz81_0:=zf BK545 0
       have hfz81_1:=zf BK545 1
       obtain ⟨Ao82,co82,eo82⟩:=Kd.R_slice HO_547001.out
       subst eo82
       go_wp2
       refine bodyPost_ret (results_cell_row rfl _ _ gb545 50 #[.slice Ao79 x547000_1.length co79,.slice Ao82 x547001_2.length co82] (0,0) _ rfl (by refine zj ?_;refine blk_put (cs:=#[.slice Ao79 x547000_1.length co79,.slice none 0 0]) ?_ 1 _ rfl;refine zj ?_;refine blk_put (cs:=#[.slice none 0 0,.slice none 0 0]) ?_ 0 _ rfl;refine zj ?_;exact BK545.out) Try.underlying50 rfl zK) rfl ?_
       exact ⟨_,_,by first|rfl|(simp [errW_none,errW_some] <;> rfl)|(simp only [← hji55];first|rfl|(simp [errW_none,errW_some] <;> rfl))|(simp [*,errW_none,errW_some] <;> rfl),by refine zr ?_;exact Kd.R_mono (Kd.R_far (p:=⟨gb545,1,none⟩) (Kd.R_far (p:=⟨gb545,0,none⟩) (Kd.R_types HO_547000.out BK545.out (by decide)) (fun _ hk=>hk.2) (.slice Ao79 x547000_1.length co79)) (fun _ hk=>hk.2) (.slice Ao82 x547001_2.length co82)) (fun _ hk=>hk.1),by refine zr ?_;exact Kd.R_mono (Kd.R_far (p:=⟨gb545,1,none⟩) (Kd.R_far (p:=⟨gb545,0,none⟩) (Kd.R_types HO_547001.out BK545.out (by decide)) (fun _ hk=>hk.2) (.slice Ao79 x547000_1.length co79)) (fun _ hk=>hk.2) (.slice Ao82 x547001_2.length co82)) (fun _ hk=>hk.1),by repeat (first|(with_reducible first|exact HB.out|apply below_alloc|apply pw_below_drewN|apply below_drew1|refine below_set ?_ GE544.out|refine below_set ?_ GE545.out|refine below_set ?_ GE546.out)|exact HB.out)⟩
def ancepsref40_Made.l0:Nat→List (S54)→List (S50)→Int→Option ((List (S50)))
 | 0,_,_,_=>none
 | k+1,x0,x3,x4=>if x4<(x0.length:Int) then (if x4<6 then (if 0≤x4 then ((ancepsref38_Made.f k (Int.tmod ((rd_T54 x0 x4).f0) 256) ((rd_T54 x0 x4).f1)).bind fun bt555=>(if x3.length<2932031007402 then (ancepsref40_Made.l0 k x0 (x3++[(⟨bt555.1,bt555.2⟩:S50)]) (wrap64 (x4+1))) else (none))) else (none)) else (some x3)) else (some x3)
def ancepsref40_Made.f (k:Nat) (l0:List (S54)):Option ((List (S50))):=ancepsref40_Made.l0 k l0 ([]:List (S50)) 0
theorem ancepsref40_Made.mono_l:∀ k,(∀ y0 y1 y2,LeO (ancepsref40_Made.l0 k y0 y1 y2) (ancepsref40_Made.l0 (k+1) y0 y1 y2))
 | 0=>fun _ _ _ r h=>by simp [ancepsref40_Made.l0] at h
 | k+1=>by
  have ih0:=ancepsref40_Made.mono_l k
  ·intro y0 y1 y2
   unfold ancepsref40_Made.l0
   repeat' first
   | (with_reducible exact ih0 _ _ _)
   | (with_reducible exact ancepsref38_Made.mono _ _ _)
   | (with_reducible exact LeO.refl _)
   | (with_reducible exact LeO.none _)
   | (with_reducible refine LeO.ite ?_ ?_)
   | (with_reducible refine LeO.bind ?_ (fun _=>?_))
   | exact LeO.none _
   | refine LeO.ite ?_ ?_
   | refine LeO.bind ?_ (fun _=>?_)
theorem ancepsref40_Made.mono:∀ a0 k,LeO (ancepsref40_Made.f k a0) (ancepsref40_Made.f (k+1) a0):=by
 intro a0 k
 have ih0:=ancepsref40_Made.mono_l k
 unfold ancepsref40_Made.f
 repeat' first
   | (with_reducible exact ih0 _ _ _)
   | (with_reducible exact ancepsref38_Made.mono _ _ _)
   | (with_reducible exact LeO.refl _)
   | (with_reducible exact LeO.none _)
   | (with_reducible refine LeO.ite ?_ ?_)
   | (with_reducible refine LeO.bind ?_ (fun _=>?_))
   | exact LeO.none _
   | refine LeO.ite ?_ ?_
   | refine LeO.bind ?_ (fun _=>?_)
set_option maxHeartbeats 8000000 in
set_option maxRecDepth 100000 in
theorem ancepsref40_Made.calls (k:Nat) (A0:Option Addr) (c0:Nat) (l0:List (S54)) (r:List (S50)) (w:World) (hr0:Kd.C k54 w A0 l0.length l0) (hc0:l0.length≤c0) (h:ancepsref40_Made.f k l0=some r) :
  Calls Try.prog 25 #[.slice A0 l0.length c0] w fun e w'=>∃ v0_:Value,e=.returned (v0_)∧Kd.S k50 50 w' w.heap.size (fun _=>True) v0_ r∧Below w.heap.size w w':=by
 have hu54:=Try.underlying54
 have hu51:=Try.underlying51
 have HR0:=zA hr0
 have HC0:=zA hc0
 clear hr0 hc0
 have HB:=zA (Below.refl w.heap.size w)
 have H:(ancepsref40_Made.l0 k l0 ([]:List (S50)) 0)=some r:=h
 clear h
 have H':=zA H
 clear H
 go_enter Try.func25,Try.ntmps25
 go_wp2
 go_loopg [3,4] k (fun kq v3 v4 w'=>∃ (x3_1:List (S50)) (x4_1:Int),v4=.int .i64 x4_1∧Aside0 (ancepsref40_Made.l0 kq l0 x3_1 x4_1=some r)∧Aside0 (kq≤k)∧Aside0 (Kd.S k50 50 w' w.heap.size (fun _=>True) v3 x3_1)∧Aside0 (Below w.heap.size w w'))
 case atStart=>exact ⟨(([]:List (S50))),(0),zT,H',⟨Nat.le_refl _⟩,⟨by first|exact Kd.S_nil _ _ _ _ _|exact Kd.N_nil _ _ _ _ _|exact Kd.V_nil _ _ _ _ _|exact Kd.Q_nil _ _ _ _ _|exact Kd.R_nil _ _ _ _ _⟩,⟨by repeat (first|(with_reducible first|exact HB.out|apply below_alloc|apply pw_below_drewN|apply below_drew1)|exact HB.out)⟩⟩
 case round=>
  clear H'
  obtain ⟨x3_1,x4_1,rfl,HA,HK1,HO_3,HB⟩:=hrel
  cases gk with
  | zero=>exact absurd HA.out (by simp [ancepsref40_Made.l0])
  | succ k1=>
   have H:=HA.out
   clear HA
   simp only [ancepsref40_Made.l0] at H
   rcases ifd H with ⟨c2b0,H⟩|⟨c2b0,H⟩
   ·rcases ifd H with ⟨c3b0,H⟩|⟨c3b0,H⟩
    ·obtain ⟨c4b0,H⟩:=ifd1 H
     obtain ⟨t555,t558,A5,H⟩:=zO H
     dsimp only at H
     obtain ⟨c6,H⟩:=if1 H
     have LMc6:=zA c6
     clear c6
     first|(replace H:=zyb (x3_1++[(⟨t555,t558⟩:S50)]) H;obtain ⟨y561,Ny561,H⟩:=H)|(obtain ⟨y561,hy561⟩:=zY (x3_1++[(⟨t555,t558⟩:S50)]);(try rw (occs:=.pos [1]) [← hy561] at H);have Ny561:=zA hy561;clear hy561)
     have H':=zA H
     clear H
     obtain ⟨p553,q553,ad553,e553,hx553_0,hx553_1⟩:=zp (at_T54 HR0.out x4_1)
     cases e553
     replace hx553_0:=zd HB hx553_0
     replace hx553_1:=zd HB hx553_1
     replace p553:=eq_true p553
     replace q553:=eq_true q553
     go_wp2_with (first|((with_reducible refine gd 5 rfl ?_);refine zx #[.int .u32 0,.int .u64 0] 54 (h:=?_);intro gb554 hg w7 BK554 hb GW554 HB1;have GE554:=GW554;replace HO_3:=zA (Kd.S_below (zS HO_3) hb);clear HB hb hg;have HB:=HB1;clear HB1;have hcz8_0:=zc0 BK554;have hcz8_1:=zc1 BK554;have hfz8_0:=zf BK554 0;have hfz8_1:=zf BK554 1)|((with_reducible refine gate_callee (f:=31) rfl ?_);refine goesL_ (some 26) rfl rfl Try.func31 zK rfl #[.agg #[.int .u32 (Int.tmod ((rd_T54 l0 x4_1).f0) 256),.int .u64 ((rd_T54 l0 x4_1).f1)]] rfl zM ?_;(with_reducible refine (ancepsref38_Made.calls k1 (Int.tmod ((rd_T54 l0 x4_1).f0) 256) ((rd_T54 l0 x4_1).f1) t555 t558 _ A5.out).mono ?_);rintro e w9 ⟨v556,v559,rfl,ho0,ho1,hb⟩;refine ⟨_,rfl,?_⟩;have HO557:=zA (Kd.R_lower ho0 (below_size zB));have HO560:=zA (Kd.R_lower ho1 (below_size zB));replace HO_3:=zA (Kd.S_mono (Kd.S_told (Kd.S_told (Kd.S_old (by (with_reducible repeat (first|apply Kd.S_alloc|apply Kd.S_drewN|apply Kd.S_drew));exact (Kd.S_mono (Kd.S_far (p:=⟨gb554,0,none⟩) (Kd.S_far (p:=⟨gb554,1,none⟩) (Kd.S_far (p:=⟨gb554,0,none⟩) (Kd.S_types HO_3.out BK554.out (by decide)) (fun _ hk=>hk.2) (.int .u32 ((rd_T54 l0 x4_1).f0))) (fun _ hk=>hk.2) (.int .u64 ((rd_T54 l0 x4_1).f1))) (fun _ hk=>hk.2) (.int .u32 (Int.tmod ((rd_T54 l0 x4_1).f0) 256))) (fun _ h_=>h_.1))) hb) (Kd.R_base ho0)) (Kd.R_base ho1)) (fun _ h_=>h_.1));replace BK554:=zA (blk_below (g:=gb554) (o:=.cells #[.int .u32 (Int.tmod ((rd_T54 l0 x4_1).f0) 256),.int .u64 ((rd_T54 l0 x4_1).f1)] 54 (0,0)) (by refine zj ?_;refine blk_put (cs:=#[.int .u32 ((rd_T54 l0 x4_1).f0),.int .u64 ((rd_T54 l0 x4_1).f1)]) ?_ 0 _ rfl;refine zj ?_;refine blk_put (cs:=#[.int .u32 ((rd_T54 l0 x4_1).f0),.int .u64 0]) ?_ 1 _ rfl;refine zj ?_;refine blk_put (cs:=#[.int .u32 0,.int .u64 0]) ?_ 0 _ rfl;refine zj ?_;exact BK554.out) hb);replace HB:=zu hb;clear hb;(try clear ho0);(try clear ho1);obtain ⟨Ao11,co11,eo11⟩:=Kd.R_slice HO557.out;subst eo11;obtain ⟨Ao12,co12,eo12⟩:=Kd.R_slice HO560.out;subst eo12)|((with_reducible refine gate_builtin (b:=.append) (xs:=#[.tmp 24,.tmp 27]) rfl ?_);at_builtin;refine Kd.S_append k50 (w0:=w) w.heap.size rfl (.tmp 24) (.tmp 27) 22 50 (.agg #[(.slice none 0 0),(.slice none 0 0)]) 48 rfl Try.underlying22 info50 rfl (by decide) (by omega) u3 x3_1 (⟨t555,t558⟩:S50) [.slice Ao11 t555.length co11,.slice Ao12 t558.length co12] (fun _=>True) (fun k_=>some k_=(.slice Ao11 t555.length co11:Value).ownBlock∨some k_=(.slice Ao12 t558.length co12:Value).ownBlock) rfl rfl ?aP (fun k_ hk_=>hk_.elim (fun h_=>((Kd.R_mono (ok':=fun k_=>((fun _=>True)) k_∧some k_≠(u3:Value).ownBlock) (Kd.R_apart' (HO557.out) (Kd.S_typed HO_3.out) (by decide)) (fun k_ hk=>⟨trivial,hk.2⟩))).1 k_ h_.symm) (fun h_=>((Kd.R_mono (ok':=fun k_=>((fun _=>True)) k_∧some k_≠(u3:Value).ownBlock) (Kd.R_apart' (HO560.out) (Kd.S_typed HO_3.out) (by decide)) (fun k_ hk=>⟨trivial,hk.2⟩))).1 k_ h_.symm)) ?aF ?aO ?aB ?aS ?aL ?_;(case aP=>exact k50_mkM _ _ _ (⟨t555,t558⟩:S50) (Kd.R_mono (Kd.R_tight rfl (Kd.R_mono (ok':=fun k_=>((fun _=>True)) k_∧some k_≠(u3:Value).ownBlock) (Kd.R_apart' (HO557.out) (Kd.S_typed HO_3.out) (by decide)) (fun k_ hk=>⟨trivial,hk.2⟩))) (fun _ h_=>Or.inl h_)) (Kd.R_mono (Kd.R_tight rfl (Kd.R_mono (ok':=fun k_=>((fun _=>True)) k_∧some k_≠(u3:Value).ownBlock) (Kd.R_apart' (HO560.out) (Kd.S_typed HO_3.out) (by decide)) (fun k_ hk=>⟨trivial,hk.2⟩))) (fun _ h_=>Or.inr (h_))));(case aB=>exact zB);(case aF=>exact (fun _ _=>trivial));(case aO=>exact (by (with_reducible repeat (first|apply Kd.S_alloc|apply Kd.S_drewN|apply Kd.S_drew));exact Kd.S_mono HO_3.out (fun k_ hk=>⟨trivial,fun e_=>e_.elim (fun h_=>hk.1.2 h_) (fun h_=>hk.2 h_)⟩)));(case aS=>exact (below_size zB));(case aL=>have:=LMc6.out;omega);intro v562 w10 ho hb hg hat;rw [← Ny561.out] at ho;have HO563:=zA (ho);replace BK554:=zA (blk_grown (g:=gb554) (o:=.cells #[.int .u32 (Int.tmod ((rd_T54 l0 x4_1).f0) 256),.int .u64 ((rd_T54 l0 x4_1).f1)] 54 (0,0)) (zk BK554) hg (Kd.S_ne HO_3.out BK554.out (by decide)));replace HB:=zA (hb);clear HO_3 HO557 HO560;clear ho hb hg hat))
     go_roundg k1
     case measure=>have:=HK1.out;omega
     case rel=>exact ⟨(y561),(wrap64 (x4_1+1)),zT,H',⟨by have:=HK1.out;omega⟩,⟨by (with_reducible repeat (first|apply Kd.S_alloc|apply Kd.S_drewN|apply Kd.S_drew));exact HO563.out⟩,⟨by repeat (first|(with_reducible first|exact HB.out|apply below_alloc|apply pw_below_drewN|apply below_drew1|refine below_set ?_ GE554.out)|exact HB.out)⟩⟩
    ·obtain rfl:=Option.some.inj H
     go_wp2
     go_ret
     exact ⟨_,ze,by (with_reducible repeat (first|apply Kd.S_alloc|apply Kd.S_drewN|apply Kd.S_drew));exact HO_3.out,by repeat (first|(with_reducible first|exact HB.out|apply below_alloc|apply pw_below_drewN|apply below_drew1)|exact HB.out)⟩
   ·obtain rfl:=Option.some.inj H
    go_wp2
    go_ret
    exact ⟨_,ze,by (with_reducible repeat (first|apply Kd.S_alloc|apply Kd.S_drewN|apply Kd.S_drew));exact HO_3.out,by repeat (first|(with_reducible first|exact HB.out|apply below_alloc|apply pw_below_drewN|apply below_drew1)|exact HB.out)⟩
def slices_Clone_int_int_33.f (l0:List (List Int)):Option ((List (List Int))):=(some (([]:List (List Int)):List (List Int))).bind fun y564=>(if y564.length+l0.length<5864062014805 then (some (y564++l0)) else (none))
set_option maxHeartbeats 8000000 in
set_option maxRecDepth 100000 in
theorem slices_Clone_int_int_33.calls (P0_:Nat→Prop) (A0:Option Addr) (c0:Nat) (l0:List (List Int)) (r:List (List Int)) (w:World) (hs0:Kd.V (Kd.slice 3 (Kd.int .i64)) 30 w w.heap.size (fun k_=>P0_ k_) (.slice A0 l0.length c0) l0) (h:slices_Clone_int_int_33.f l0=some r) :
  Calls Try.prog 33 #[.slice A0 l0.length c0] w fun e w'=>∃ v0_:Value,e=.returned (v0_)∧Kd.N (Kd.slice 3 (Kd.int .i64)) 30 w' w.heap.size (fun k_=>(P0_ k_∨w.heap.size≤k_)) v0_ r∧Below w.heap.size w w':=by
 have HO0:=zA (show Kd.V (Kd.slice 3 (Kd.int .i64)) 30 w w.heap.size (fun k_=>(P0_ k_∨w.heap.size≤k_)) (.slice A0 l0.length c0) l0 from Kd.V_mono hs0 (fun k_ hk=>.inl hk))
 have HB:=zA (Below.refl w.heap.size w)
 have H:((some (([]:List (List Int)):List (List Int))).bind fun y564=>(if y564.length+l0.length<5864062014805 then (some (y564++l0)) else (none)))=some r:=h
 clear h
 have hnq_:∀ (w:World) (a:Option Addr) (n c n' c':Nat),(binOp .eql 25 (.slice a n c) (.slice none n' c')).run Try.prog w=.ok (.bool a.isNone) w:=fun w a n c n' c'=>Lib.run_eql_slice_nil w _ _ a n c n' c' Try.underlying25
 rcases A0 with _|adn0
 ·obtain rfl:l0=[]:=(by rcases l0 with _|⟨x_,xs_⟩;(· rfl);(· obtain ⟨_,_,e_,_⟩:=Kd.C_get (Kd.V_reads' HO0.out).2.2 [] 0 (by omega) (by simp);cases e_))
  simp only [List.length_nil,List.nil_append] at H
  (first|rw [if_pos (by omega)] at H|simp at H)
  try simp only [Option.some.injEq] at H
  subst H
  go_enter Try.func33,Try.ntmps33
  go_wp2
  go_ret
  first|exact ⟨_,rfl,Kd.R_nil _ _ _ _ _,Below.refl _ _⟩|exact ⟨_,rfl,Kd.S_nil _ _ _ _ _,Below.refl _ _⟩|exact ⟨_,rfl,Kd.V_nil _ _ _ _ _,Below.refl _ _⟩|exact ⟨_,rfl,Kd.N_nil _ _ _ _ _,Below.refl _ _⟩
 ·replace H:=H
  first|(replace H:=zyb (([]:List (List Int))) H;obtain ⟨y564,Ny564,H⟩:=H)|(obtain ⟨y564,hy564⟩:=zY (([]:List (List Int)));(try rw (occs:=.pos [1]) [← hy564] at H);have Ny564:=zA hy564;clear hy564)
  obtain ⟨c2,H⟩:=if1 H
  have LMc2:=zA c2
  clear c2
  first|(replace H:=zyb (y564++l0) H;obtain ⟨y567,Ny567,H⟩:=H)|(obtain ⟨y567,hy567⟩:=zY (y564++l0);(try rw (occs:=.pos [1]) [← hy567] at H);have Ny567:=zA hy567;clear hy567)
  obtain rfl:=Option.some.inj H
  go_enter Try.func33,Try.ntmps33
  go_wp2_with (first|((with_reducible refine gate_dst (N:=5) rfl ?_);refine Kd.N_lit (Kd.slice 3 (Kd.int .i64)) _ 30 ?hg (N':=5) ?hd (xs:=([]:List (List Int))) (inner:=[]) (ok:=(fun k_=>(P0_ k_∨w.heap.size≤k_))) (okp:=(fun k_=>(P0_ k_∨w.heap.size≤k_))) ?hr ?hp (fun _ hk=>hk) ((show ∀ k_,w.heap.size≤k_→(fun k_=>(P0_ k_∨w.heap.size≤k_)) k_ from fun k_ hk=>(.inr (Nat.le_trans (below_size zB) hk))) _ (Nat.le_refl _)) (Below.refl _ _) (Nat.le_refl _) (by simp) ?_;(case hd=>rfl);(case hg=>rfl);(case hr=>first|(go_simp;done)|(go_simp;rfl));(case hp=>exact (Reps.none _ _));intro v565 w3 ho4 hb hg_ hnew_;clear hg_ hnew_;(first|rw [← Ny564.out] at ho4|(simp only [Int.reduceToNat] at ho4;rw [← Ny564.out] at ho4));have HO566:=zA (Kd.N_lower ho4 (below_size zB));replace HO0:=zA (Kd.V_elder' (zV HO0) (Kd.N_base ho4) hb);replace HB:=zu hb;clear hb ho4)|((with_reducible refine gate_builtin (b:=.append) (xs:=#[.tmp 5,.tmp 6]) rfl ?_);at_builtin;refine Kd.N_append_rows (Kd.slice 3 (Kd.int .i64)) (w0:=w) w.heap.size rfl (.tmp 5) (.tmp 6) 25 30 (.slice none 0 0) 24 rfl Try.underlying25 info30 rfl (by decide) (by omega) v565 y564 l0 _ _ _ (fun k_=>(P0_ k_∨w.heap.size≤k_)) (fun k_=>((fun k_=>(P0_ k_∨w.heap.size≤k_))) k_∧some k_≠(v565:Value).ownBlock) rfl rfl ?aO ?aR (fun _ hk=>hk) ?aF ?aB ?aS ?aL ?_;(case aR=>exact (by skip;exact Kd.V_F (Kd.V_mono (ok':=(fun k_=>((fun k_=>(P0_ k_∨w.heap.size≤k_))) k_∧some k_≠(v565:Value).ownBlock)) (HO0.out) (fun k_ hk=>⟨hk.1,hk.2⟩))));(case aB=>exact zB);(case aF=>exact (fun k_ hk=>(.inr (Nat.le_trans (below_size zB) hk))));(case aO=>exact (zN HO566));(case aS=>exact (below_size zB));(case aL=>have:=LMc2.out;omega);intro v568 w5 ho hb hg hat;rw [← Ny567.out] at ho;have HO569:=zA (ho);replace HO0:=zA (Kd.V_afterv (ok:=(fun k_=>(P0_ k_∨w.heap.size≤k_))) (zV HO0) hg hat);replace HB:=zA (hb);clear HO566;clear ho hb hg hat))
  go_ret
  exact ⟨_,ze,by (with_reducible repeat (first|apply Kd.N_alloc|apply Kd.N_drewN|apply Kd.N_drew));exact HO569.out,by repeat (first|(with_reducible first|exact HB.out|apply below_alloc|apply pw_below_drewN|apply below_drew1)|exact HB.out)⟩
def ancepslaw42_ConflictGrows_1_v1.f (k:Nat) (l0:List Int) (l1_0:List (S50)):Option (Bool):=(slices_Contains_int_int.f k l0 (l1_0.length:Int)).bind fun t571=>(some t571)
theorem ancepslaw42_ConflictGrows_1_v1.mono:∀ a0 a1 k,LeO (ancepslaw42_ConflictGrows_1_v1.f k a0 a1) (ancepslaw42_ConflictGrows_1_v1.f (k+1) a0 a1):=by
 intro a0 a1 k
 unfold ancepslaw42_ConflictGrows_1_v1.f
 repeat' first
   | (with_reducible exact slices_Contains_int_int.mono _ _ _)
   | (with_reducible exact LeO.refl _)
   | (with_reducible exact LeO.none _)
   | (with_reducible refine LeO.ite ?_ ?_)
   | (with_reducible refine LeO.bind ?_ (fun _=>?_))
   | exact LeO.none _
   | refine LeO.ite ?_ ?_
   | refine LeO.bind ?_ (fun _=>?_)
set_option maxHeartbeats 8000000 in
set_option maxRecDepth 100000 in
theorem ancepslaw42_ConflictGrows_1_v1.calls (k:Nat) (A0:Option Addr) (c0:Nat) (l0:List Int) (gp1_0:Nat) (A1_0:Option Addr) (c1_0:Nat) (l1_0:List (S50)) (r:Bool) (w:World) (hr0:Kd.C (Kd.int .i64) w A0 l0.length l0) (hc0:l0.length≤c0) (hr1_0:Kd.C k50 w A1_0 l1_0.length l1_0) (hc1_0:l1_0.length≤c1_0) (hb_gp1_0:w.heap[gp1_0]?=some (.cells #[.slice A1_0 l1_0.length c1_0] 22 (0,0))) (h:ancepslaw42_ConflictGrows_1_v1.f k l0 l1_0=some r) :
  Calls Try.prog 34 #[.slice A0 l0.length c0,.pointer (some ⟨gp1_0,0,none⟩)] w fun e w'=>e=.returned (.bool r)∧Drawn0 w w':=by
 have hu22:=Try.underlying22
 have HR0:=zA hr0
 have HC0:=zA hc0
 clear hr0 hc0
 have HR1_0:=zA hr1_0
 have HC1_0:=zA hc1_0
 clear hr1_0 hc1_0
 have BK570:=zA hb_gp1_0
 clear hb_gp1_0
 have H:((slices_Contains_int_int.f k l0 (l1_0.length:Int)).bind fun t571=>(some t571))=some r:=h
 clear h
 obtain ⟨t571,A3,H⟩:=zo H
 obtain rfl:=Option.some.inj H
 have hcz4_0:w.cell? ⟨gp1_0,0,none⟩=some (.slice A1_0 l1_0.length c1_0):=(blk_cell BK570.out 0).trans rfl
 have hfz4_0:=zf BK570 0
 go_enter Try.func34,Try.ntmps34
 go_wp2_with (first|((with_reducible refine gate_callee (f:=30) rfl ?_);refine goesL_ (some 7) rfl rfl Try.func30 zK rfl #[.slice A0 l0.length c0,.int .i64 (l1_0.length:Int)] rfl zM ?_;(with_reducible refine (slices_Contains_int_int.calls k _ _ l0 (l1_0.length:Int) t571 _ ?side1 HC0.out A3.out).mono ?_);(case side1=>repeat (first|exact HR0.out|(with_reducible refine Kd.C_alloc ?_ _)|(with_reducible refine Kd.C_drewN ?_ _)|(with_reducible refine Kd.C_drew ?_)));rintro e w' ⟨rfl,⟨nd,rfl⟩⟩;refine ⟨_,rfl,?_⟩))
 go_ret
 exact ⟨by first|rfl|(simp;done)|(simp [*];done),by repeat (first|exact Drawn0.refl _|apply Drawn0.step)⟩
section
def laysDelG_ren:Go.Shelf.Ren:=⟨fun|10=>32|6=>59|n=>n,fun|22=>25|23=>30|25=>38|3=>3|4=>4|0=>0|n=>n,fun|n=>n⟩
theorem laysDelG:Go.Proofs.SlLaysH.n10 Try.prog laysDelG_ren:={
 mixed:=by kernel_rfl,
 f6:=⟨Try.f59.name,by decide,Try.func59.trans (congrArg some zK)⟩,
 f10:=⟨Try.f32.name,by decide,Try.func32.trans (congrArg some zK)⟩,
 t0:=Try.underlying0,
 a0:=Try.isAgg0,
 z0:=Try.sizeOf0,
 v0:=Try.zeroValue0,
 t3:=Try.underlying3,
 a3:=Try.isAgg3,
 z3:=Try.sizeOf3,
 v3:=Try.zeroValue3,
 t4:=Try.underlying4,
 a4:=Try.isAgg4,
 z4:=Try.sizeOf4,
 v4:=Try.zeroValue4,
 t22:=Try.underlying25,
 a22:=Try.isAgg25,
 z22:=Try.sizeOf25,
 v22:=Try.zeroValue25,
 a23:=Try.isAgg30,
 z23:=Try.sizeOf30,
 t25:=Try.underlying38,
 a25:=Try.isAgg38,
 z25:=Try.sizeOf38,
 v25:=Try.zeroValue38}
theorem idx_ex (l:List Int) (a:Int) (hl:l.length≤1000000):∀ d i:Nat,i+d=l.length→∃ q,slices_Index_int_int.l0 (d+1) l a (l.length:Int) (i:Int)=some q∧(q≥0↔a∈l.drop i)
 | 0,i,h=>⟨-1,by rw [slices_Index_int_int.l0,if_neg (by omega)],by rw [List.drop_eq_nil_of_le (by omega)];simp⟩
 | d+1,i,h=>by
  have hi:i<l.length:=by omega
  have hr:rd l (i:Int)=l[i]:=by
   unfold rd
   simp [hi]
  rw [slices_Index_int_int.l0,if_pos (by omega),if_pos (by omega),if_pos (by omega),List.drop_eq_getElem_cons hi,hr]
  by_cases e:a=l[i]
  ·exact ⟨i,by rw [if_pos e],⟨fun _=>by rw [e];exact List.mem_cons_self,fun _=>by omega⟩⟩
  ·obtain ⟨q,h1,h2⟩:=idx_ex l a hl d (i+1) (by omega)
   refine ⟨q,by rw [if_neg e,show wrap64 ((i:Int)+1)=((i+1:Nat):Int) by unfold Go.RowKit.wrap64;omega];exact h1,?_⟩
   rw [h2,List.mem_cons]
   exact ⟨.inr,fun h=>h.resolve_left e⟩
theorem grows_ex (x:List Int) (l:List S50) (hl:x.length≤1000000):∃ k,ancepslaw42_ConflictGrows_1_v1.f k x l=some (decide ((l.length:Int)∈x)):=by
 obtain ⟨q,h1,h2⟩:=idx_ex x (l.length:Int) hl x.length 0 (by omega)
 refine ⟨x.length+1,?_⟩
 unfold ancepslaw42_ConflictGrows_1_v1.f slices_Contains_int_int.f slices_Index_int_int.f
 rw [show ((0:Nat):Int)=0 from rfl] at h1
 rw [h1]
 simp only [Option.bind_some,List.drop_zero] at h2 ⊢
 rw [decide_eq_decide.2 h2]
open Go.Lib Go.Sort Go.Shelf
/-- A cell of the row: a slice that is read as the list,whatever becomes of the row. -/
structure GC (w:World) (ok:Nat→Prop) where
 v:Value
 x:List Int
 h:Kd.FK (Kd.slice 3 (Kd.int .i64)) w ok x [v]
 s:x.length≤1000000
theorem GC.form {w:World} {ok:Nat→Prop} (a:GC w ok) {W:World} (h:∀ k,ok k→k<w.heap.size→W.heap[k]?=w.heap[k]?):∃ A c,a.v=.slice A a.x.length c∧a.x.length≤c∧(Kd.int .i64).C W A a.x.length a.x:=by
 obtain ⟨A,c,e,h1,h2⟩:=a.h W h
 injection e with e _
 exact ⟨A,c,e,h1,h2⟩
theorem gc_list {w:World} {ok:Nat→Prop}:∀ (xs:List (List Int)) (rows:List (List Value)),rows.length=xs.length→(∀ x,x∈xs→x.length≤1000000)→(∀ (j:Nat) (x:List Int) (c:List Value),xs[j]?=some x→rows[j]?=some c→Kd.FK (Kd.slice 3 (Kd.int .i64)) w ok x c)→∃ L:List (GC w ok),L.map (fun a=>a.x)=xs∧L.map (fun a=>[a.v])=rows
 | [],rows,hl,_,_=>⟨[],rfl,by cases rows with|nil=>rfl|cons _ _=>simp at hl⟩
 | x :: xs,[],hl,_,_=>by simp at hl
 | x :: xs,c :: rows,hl,hx,h=>by
  obtain ⟨L,h1,h2⟩:=gc_list xs rows (by simpa using hl) (fun y hy=>hx y (List.mem_cons_of_mem _ hy)) (fun j y d hy hd=>h (j+1) y d (by simpa using hy) (by simpa using hd))
  have h0:=h 0 x c rfl rfl
  obtain ⟨A,n,e,_⟩:=h0 w (fun _ _ _=>rfl)
  subst e
  exact ⟨⟨.slice A x.length n,x,h0,hx x (List.mem_cons_self)⟩ :: L,by rw [List.map_cons,h1],by rw [List.map_cons,h2]⟩
theorem flat_of {w:World} {ok:Nat→Prop} {rows:List (List Value)} {inner:List Value} {L:List (GC w ok)} (hL:L.map (fun a=>[a.v])=rows) (h:Reps (fun x cs=>cs=x∧cs.length=1∧∀ u∈cs,u.oneCell'=true) 1 rows inner):inner=L.map fun a=>a.v:=by
 subst hL
 obtain ⟨h1,h2⟩:=h
 rw [List.length_map,Nat.mul_one] at h1
 apply List.ext_getElem (by rw [h1,List.length_map])
 intro j hj hj'
 have hjl:j<L.length:=by omega
 have h3:=(h2 j [L[j].v] (by rw [List.getElem?_map,List.getElem?_eq_getElem hjl];rfl)).1
 rw [Nat.mul_one,List.drop_eq_getElem_cons hj,List.take_succ_cons] at h3
 injection h3 with h3 _
 rw [h3,List.getElem_map]
theorem raw_reps {w:World} {ok:Nat→Prop} (L:List (GC w ok)) (h1:∀ a:GC w ok,a.v.oneCell'=true):Reps (fun x cs=>cs=x∧cs.length=1∧∀ u∈cs,u.oneCell'=true) 1 (L.map fun a=>[a.v]) (L.map fun a=>a.v):=by
 refine ⟨by simp,fun j p hp=>?_⟩
 rw [List.getElem?_map] at hp
 obtain ⟨a,ha,rfl⟩:=Option.map_eq_some_iff.1 hp
 obtain ⟨hj,rfl⟩:=List.getElem?_eq_some_iff.1 ha
 rw [Nat.mul_one,List.drop_eq_getElem_cons (by simpa using hj),List.take_succ_cons,List.take_zero,List.getElem_map]
 exact ⟨rfl,rfl,fun u hu=>by simp at hu;subst hu;exact h1 _⟩
def slices_DeleteFunc_int_int_ancepslaw42_ConflictGrows_1.f (l0:List (List Int)) (l1_0:List S50):Option (List (List Int)):=if (l0.all fun x=>decide (x.length≤1000000))=true then some (l0.filter fun x=>!decide ((l1_0.length:Int)∈x)) else none
theorem slices_DeleteFunc_int_int_ancepslaw42_ConflictGrows_1.calls (P0_:Nat→Prop) (u9000_:Value) (l0:List (List Int)) (gp1_0:Nat) (A1_0:Option Addr) (c1_0:Nat) (l1_0:List S50) (r:List (List Int)) (w0 w:World) (hB:Below w0.heap.size w0 w) (ho0:Kd.N (Kd.slice 3 (Kd.int .i64)) 30 w w0.heap.size P0_ u9000_ l0) (hr1_0:∀ W',Kept w W' (fun k_=>some k_=u9000_.ownBlock)→Kd.C k50 W' A1_0 l1_0.length l1_0) (hc1_0:l1_0.length≤c1_0) (hb_gp1_0:w.heap[gp1_0]?=some (.cells #[.slice A1_0 l1_0.length c1_0] 22 (0,0))) (hap:∀ k_,some k_=u9000_.ownBlock→k_≠gp1_0) (h:slices_DeleteFunc_int_int_ancepslaw42_ConflictGrows_1.f l0 l1_0=some r) :
 Calls Try.prog 32 #[u9000_,.func (.func 34) #[] #[.pointer (some ⟨gp1_0,0,none⟩)]] w fun e w'=>∃ v0_:Value,e=.returned (v0_)∧Kd.N (Kd.slice 3 (Kd.int .i64)) 30 w' w0.heap.size P0_ v0_ r∧Below w0.heap.size w0 w'∧Kept w w' (fun k_=>some k_=u9000_.ownBlock)∧v0_.ownBlock=u9000_.ownBlock:=by
 unfold slices_DeleteFunc_int_int_ancepslaw42_ConflictGrows_1.f at h
 by_cases hall:(l0.all fun x=>decide (x.length≤1000000))=true
 case neg=>rw [if_neg hall] at h;cases h
 rw [if_pos hall] at h
 obtain rfl:=Option.some.inj h
 have hsm:∀ x,x∈l0→x.length≤1000000:=fun x hx=>by simpa using List.all_eq_true.1 hall x hx
 obtain ⟨h0,rows,hl,hR,hf⟩:=ho0
 obtain ⟨hR1,inner,ho,hr⟩:=hR
 have hgp:gp1_0<w.heap.size:=(Array.getElem?_eq_some_iff.1 hb_gp1_0).1
 rcases ho.2 with ⟨rfl,h3⟩|⟨g,cap,cur,rfl,_⟩
 ·obtain rfl:l0=[]:=List.eq_nil_of_length_eq_zero (by omega)
  obtain rfl:rows=[]:=List.eq_nil_of_length_eq_zero (by simpa using hl)
  refine (deleteFunc_nil laysDelG 0 _ w).mono ?_
  rintro e w' ⟨rfl,rfl⟩
  exact ⟨_,rfl,⟨h0,[],rfl,⟨hR1,inner,ho,hr⟩,fun j x c hx=>by simp at hx⟩,hB,Kept.refl _ _,rfl⟩
 obtain ⟨L,hL1,hL2⟩:=gc_list l0 rows hl hsm hf
 obtain rfl:=flat_of hL2 hr
 have hone:∀ a:GC w (fun k=>P0_ k∧some k≠(Value.slice (some ⟨g,0,none⟩) rows.length cap).ownBlock),a.v.oneCell'=true:=fun a=>by
  obtain ⟨A,c,e,_⟩:=a.form (W:=w) (fun _ _ _=>rfl)
  rw [e]
  rfl
 have hrl:L.length=rows.length:=by
  have h_:=congrArg List.length hL2
  rw [List.length_map] at h_
  exact h_
 let zr:GC w (fun k=>P0_ k∧some k≠(Value.slice (some ⟨g,0,none⟩) rows.length cap).ownBlock):=⟨.slice none 0 0,[],fun W _=>⟨none,0,rfl,Nat.le_refl _,Kd.C_nil _ _⟩,by simp⟩
 have inh:Inhabited (GC w (fun k=>P0_ k∧some k≠(Value.slice (some ⟨g,0,none⟩) rows.length cap).ownBlock)):=⟨zr⟩
 obtain ⟨g',cap',e1,hg1,hg2,hg3,hg4,hg5,hH⟩:=Lib.holds_of_ownsRow (enc:=fun a:GC w (fun k=>P0_ k∧some k≠(Value.slice (some ⟨g,0,none⟩) rows.length cap).ownBlock)=>a.v) (zs:=L) ho (by simp)
 injection e1 with e1 _ e3
 injection e1 with e1
 injection e1 with e1
 subst e1 e3
 have hne:gp1_0≠g:=fun e=>hap g rfl e.symm
 have gives:∀ (W:World) (x:GC w (fun k=>P0_ k∧some k≠(Value.slice (some ⟨g,0,none⟩) rows.length cap).ownBlock)),(∀ k,k<w.heap.size→k≠g→W.heap[k]?=w.heap[k]?)→w.heap.size≤W.heap.size→FnGives Try.prog 34 #[.pointer (some ⟨gp1_0,0,none⟩)] #[x.v] (.bool (decide ((l1_0.length:Int)∈x.x))) W:=by
  intro W x hW hs
  obtain ⟨A,c,e,hc,hC⟩:=x.form (W:=W) (fun k hk hlt=>hW k hlt (fun h=>hk.2 (by rw [h];rfl)))
  obtain ⟨k,hk⟩:=grows_ex x.x l1_0 x.s
  rw [e]
  refine (ancepslaw42_ConflictGrows_1_v1.calls k A c x.x gp1_0 A1_0 c1_0 l1_0 _ W hC hc (hr1_0 W ⟨hs,fun i hi hn=>hW i hi (fun h=>hn (by rw [h];rfl))⟩) hc1_0 ((hW gp1_0 hgp hne).trans hb_gp1_0) hk).mono ?_
  rintro e w' ⟨rfl,hd⟩
  exact ⟨rfl,hd.out⟩
 have hp:PredAt Try.prog 34 #[.pointer (some ⟨gp1_0,0,none⟩)] (fun a:GC w (fun k=>P0_ k∧some k≠(Value.slice (some ⟨g,0,none⟩) rows.length cap).ownBlock)=>a.v) (fun a=>decide ((l1_0.length:Int)∈a.x)) w:=fun W x hb=>gives W x (fun k hk _=>hb.block k hk) hb.size
 have hpo:PredOver Try.prog 34 #[.pointer (some ⟨gp1_0,0,none⟩)] (fun a:GC w (fun k=>P0_ k∧some k≠(Value.slice (some ⟨g,0,none⟩) rows.length cap).ownBlock)=>a.v) (fun a=>decide ((l1_0.length:Int)∈a.x)) g 0 L.toArray.size w:=by
  intro n os dk x _
  refine gives _ x (fun k hk hkg=>?_) ?_
  ·show (grow (putRow (fun a:GC w _=>a.v) (Sort.ahead w n) g 0 dk) os).heap[k]?=_
   rw [heap_grow_old _ _ (by simpa [putRow,mapBlock,Sort.ahead] using hk)]
   simp [putRow,mapBlock,Sort.ahead,Array.getElem?_modify,Ne.symm hkg]
  ·show w.heap.size≤(grow (putRow (fun a:GC w _=>a.v) (Sort.ahead w n) g 0 dk) os).heap.size
   simp [grow,putRow,mapBlock,Sort.ahead]
 have key:=AnyE.slices_DeleteFunc laysDelG (fun a:GC w (fun k=>P0_ k∧some k≠(Value.slice (some ⟨g,0,none⟩) rows.length cap).ownBlock)=>a.v) hone (fun a=>decide ((l1_0.length:Int)∈a.x)) 34 #[.pointer (some ⟨gp1_0,0,none⟩)] (enters_of Try.func34 zK rfl) zr Try.zeroValue30 g 0 cap L.toArray w hp hpo hH (by simp;unfold maxLen at hg4;omega) (by simp;omega)
 rw [List.size_toArray,hrl,List.toList_toArray] at key
 have hFl:((L.filter fun a=>!decide ((l1_0.length:Int)∈a.x)).map fun a=>a.x)=l0.filter fun x=>!decide ((l1_0.length:Int)∈x):=by
  rw [← hL1,List.filter_map]
  rfl
 have hle:(L.filter fun a=>!decide ((l1_0.length:Int)∈a.x)).length≤rows.length:=hrl ▸ List.length_filter_le _ _
 generalize (L.filter fun a=>!decide ((l1_0.length:Int)∈a.x))=F at key hFl hle
 refine key.mono ?_
 rintro e w' ⟨rfl,q,rfl⟩
 have hown:=Lib.ownsRow_putRow (enc:=fun a:GC w (fun k=>P0_ k∧some k≠(Value.slice (some ⟨g,0,none⟩) rows.length cap).ownBlock)=>a.v) (q:=q) (k:=F.length) (ys:=F++List.replicate (rows.length - F.length) zr) ho (by rw [List.length_append,List.length_replicate];omega) hle
 rw [List.take_left] at hown
 refine ⟨_,rfl,⟨fun k hk=>h0 k hk,F.map (fun a=>[GC.v a]),?_,⟨fun k hk=>hk.symm,F.map (fun a=>GC.v a),?_,raw_reps F hone⟩,?_⟩,Lib.below_putRow hB hg1,⟨?_,?_⟩,rfl⟩
 ·rw [← hFl,List.length_map,List.length_map]
 ·rw [List.length_map]
  exact hown
 ·intro j x c hx hc
  rw [← hFl,List.getElem?_map] at hx
  rw [List.getElem?_map] at hc
  obtain ⟨a,ha,rfl⟩:=Option.map_eq_some_iff.1 hx
  rw [ha] at hc
  obtain rfl:=Option.some.inj hc
  refine Kd.FK_step a.h (fun k hk _=>?_)
  have hkg:g≠k:=fun e=>hk.2 (by subst e;rfl)
  simp [putRow,mapBlock,Sort.ahead,Array.getElem?_modify,hkg]
 ·simp [putRow,mapBlock,Sort.ahead]
 ·intro i hi hn
  have hig:g≠i:=fun e=>hn (by subst e;rfl)
  simp [putRow,mapBlock,Sort.ahead,Array.getElem?_modify,hig]
end
end Go.Proofs.Ytkjghablbeaioaa.G
