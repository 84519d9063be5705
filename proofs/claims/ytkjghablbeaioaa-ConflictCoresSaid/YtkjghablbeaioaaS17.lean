import Derived.Test.YtkjghablbeaioaaS0
import Derived.Test.YtkjghablbeaioaaS5
import Derived.Test.YtkjghablbeaioaaS6
import Derived.Test.YtkjghablbeaioaaS8
import Derived.Test.YtkjghablbeaioaaS9
import Derived.Test.YtkjghablbeaioaaS10
import Derived.Test.YtkjghablbeaioaaS13
import Derived.Test.YtkjghablbeaioaaS14
import Derived.Test.YtkjghablbeaioaaS15
import Derived.Test.YtkjghablbeaioaaS16
import Derived.Test.YtkjghablbeaioaaS18
namespace Go.Proofs.Ytkjghablbeaioaa.S
open Go.RowKit Go.Proofs.YtkjghablbeaioaaW.PrintWords Go.Proofs.YtkjghablbeaioaaW.PrintLast Go.Proofs.YtkjghablbeaioaaW.PrintMore
attribute [local go_sem] max2_int min2_int max_two min_two max_three min_three max_four min_four
set_option linter.unusedVariables false
set_option linter.unusedSimpArgs false
def ancepsref42_core.l0:Nat→List (S50)→List Int→Int→Option (Bool)
 | 0,_,_,_=>none
 | k+1,x0,x1,x5=>if x5<(x1.length:Int) then ((ancepsref42_Without.f x1 x5).bind fun t651=>((ancepsref42_contradictory.f k x0 t651).bind fun t654=>(if t654=true then (some false) else (ancepsref42_core.l0 k x0 x1 (wrap64 (x5+1)))))) else (some true)
def ancepsref42_core.f (k:Nat) (l0:List (S50)) (l1:List Int):Option (Bool):=(ancepsref42_contradictory.f k l0 l1).bind fun t650=>(if t650=true then (ancepsref42_core.l0 k l0 l1 0) else (some false))
theorem ancepsref42_core.mono_l:∀ k,(∀ y0 y1 y2,LeO (ancepsref42_core.l0 k y0 y1 y2) (ancepsref42_core.l0 (k+1) y0 y1 y2))
 | 0=>fun _ _ _ r h=>by simp [ancepsref42_core.l0] at h
 | k+1=>by
  have ih0:=ancepsref42_core.mono_l k
  ·intro y0 y1 y2
   unfold ancepsref42_core.l0
   repeat' first
   | (with_reducible exact ih0 _ _ _)
   | (with_reducible exact ancepsref42_contradictory.mono _ _ _)
   | (with_reducible exact LeO.refl _)
   | (with_reducible exact LeO.none _)
   | (with_reducible refine LeO.ite ?_ ?_)
   | (with_reducible refine LeO.bind ?_ (fun _=>?_))
   | exact LeO.none _
   | refine LeO.ite ?_ ?_
   | refine LeO.bind ?_ (fun _=>?_)
theorem ancepsref42_core.mono:∀ a0 a1 k,LeO (ancepsref42_core.f k a0 a1) (ancepsref42_core.f (k+1) a0 a1):=by
 intro a0 a1 k
 have ih0:=ancepsref42_core.mono_l k
 unfold ancepsref42_core.f
 repeat' first
   | (with_reducible exact ih0 _ _ _)
   | (with_reducible exact ancepsref42_contradictory.mono _ _ _)
   | (with_reducible exact LeO.refl _)
   | (with_reducible exact LeO.none _)
   | (with_reducible refine LeO.ite ?_ ?_)
   | (with_reducible refine LeO.bind ?_ (fun _=>?_))
   | exact LeO.none _
   | refine LeO.ite ?_ ?_
   | refine LeO.bind ?_ (fun _=>?_)
set_option maxHeartbeats 8000000 in
set_option maxRecDepth 100000 in
theorem ancepsref42_core.calls (k:Nat) (A0:Option Addr) (c0:Nat) (l0:List (S50)) (A1:Option Addr) (c1:Nat) (l1:List Int) (r:Bool) (w:World) (hr0:Kd.C k50 w A0 l0.length l0) (hc0:l0.length≤c0) (hr1:Kd.C (Kd.int .i64) w A1 l1.length l1) (hc1:l1.length≤c1) (h:ancepsref42_core.f k l0 l1=some r) :
  Calls Try.prog 45 #[.slice A0 l0.length c0,.slice A1 l1.length c1] w fun e w'=>e=.returned (.bool r)∧Below w.heap.size w w':=by
 have HR0:=zA hr0
 have HC0:=zA hc0
 clear hr0 hc0
 have HR1:=zA hr1
 have HC1:=zA hc1
 clear hr1 hc1
 have HB:=zA (Below.refl w.heap.size w)
 have H:((ancepsref42_contradictory.f k l0 l1).bind fun t650=>(if t650=true then (ancepsref42_core.l0 k l0 l1 0) else (some false)))=some r:=h
 clear h
 replace H:=Option.bind_eq_some_iff.mp H
 obtain ⟨t650,A30,H⟩:=H
 replace H:(if t650=true then (ancepsref42_core.l0 k l0 l1 0) else (some false))=some r:=H
 have A3:=zA A30
 clear A30
 have HC4:=zA H
 clear H
 go_enter Try.func45,Try.ntmps45
 go_upto_if 9 with (first|((with_reducible refine gate_callee (f:=57) rfl ?_);refine goesL_ (some 8) rfl rfl Try.func57 zK rfl #[.slice A0 l0.length c0,.slice A1 l1.length c1] rfl zM ?_;(with_reducible refine (ancepsref42_contradictory.calls k _ _ l0 _ _ l1 t650 _ ?side1 ?side2 ?side3 ?side4 A3.out).mono ?_);(case side1=>repeat (first|exact HR0.out|(with_reducible refine Kd.C_alloc ?_ _)|(with_reducible refine Kd.C_drewN ?_ _)|(with_reducible refine Kd.C_drew ?_)));(case side2=>exact HC0.out);(case side3=>repeat (first|exact HR1.out|(with_reducible refine Kd.C_alloc ?_ _)|(with_reducible refine Kd.C_drewN ?_ _)|(with_reducible refine Kd.C_drew ?_)));(case side4=>exact HC1.out);rintro e w5 ⟨rfl,hb⟩;refine ⟨_,rfl,?_⟩;replace HB:=zA (below_step zB hb);(try clear hb);(try clear hb2);(try clear hk);(try clear hi)))
 (try simp only [Act.put,zi,zs,zt])
 have H:=HC4.out
 clear HC4
 by_cases c6:t650=true
 ·subst c6
  have H1:(ancepsref42_core.l0 k l0 l1 0)=some r:=by rw [if_pos rfl] at H;exact H
  clear H
  have H:=H1
  clear H1
  have H':=zA H
  clear H
  go_wp2
  go_loopg [5] k (fun kq v5 w'=>∃ (x5_1:Int),v5=.int .i64 x5_1∧Aside0 (ancepsref42_core.l0 kq l0 l1 x5_1=some r)∧Aside0 (kq≤k)∧Aside0 (Below w.heap.size w w'))
  case atStart=>exact ⟨(0),zT,H',⟨Nat.le_refl _⟩,⟨by repeat (first|(with_reducible first|exact HB.out|apply below_alloc|apply pw_below_drewN|apply below_drew1)|exact HB.out)⟩⟩
  case round=>
   clear H'
   try clear c1
   try clear c6
   obtain ⟨x5_1,rfl,HA,HK1,HB⟩:=hrel
   cases gk with
   | zero=>exact absurd HA.out (by simp [ancepsref42_core.l0])
   | succ k1=>
    have H:=HA.out
    clear HA
    simp only [ancepsref42_core.l0] at H
    by_cases c7:x5_1<(l1.length:Int)
    ·rw [if_pos c7] at H
     have c7b0:decide (x5_1<(l1.length:Int))=true:=decide_eq_true c7
     clear c7
     (first|rw [c7b0]|(simp only [i64_w,i32_w];rw [c7b0])|skip)
     replace H:=Option.bind_eq_some_iff.mp H
     obtain ⟨t651,A80,H⟩:=H
     replace H:((ancepsref42_contradictory.f k1 l0 t651).bind fun t654=>(if t654=true then (some false) else (ancepsref42_core.l0 k1 l0 l1 (wrap64 (x5_1+1)))))=some r:=H
     have A8:=zA A80
     clear A80
     replace H:=Option.bind_eq_some_iff.mp H
     obtain ⟨t654,A90,H⟩:=H
     replace H:(if t654=true then (some false) else (ancepsref42_core.l0 k1 l0 l1 (wrap64 (x5_1+1))))=some r:=H
     have A9:=zA A90
     clear A90
     have HC10:=zA H
     clear H
     go_upto_if 20 with (first|((with_reducible refine gate_callee (f:=58) rfl ?_);refine goesL_ (some 19) rfl rfl Try.func58 zK rfl #[.slice A1 l1.length c1,.int .i64 x5_1] rfl zM ?_;(with_reducible refine (ancepsref42_Without.calls _ _ l1 x5_1 t651 _ ?side1 ?side2 A8.out).mono ?_);(case side1=>exact zC (Kd.C_below HR1.out HB.out));(case side2=>exact HC1.out);rintro e w11 ⟨v652,rfl,ho0,hb⟩;refine ⟨_,rfl,?_⟩;have HO653:=zA (Kd.R_lower ho0 (below_size zB));replace HB:=zA (below_step zB hb);(try clear hb);(try clear hb2);(try clear hk);(try clear hi);(try clear ho0);obtain ⟨Ao12,co12,eo12⟩:=Kd.R_slice HO653.out;subst eo12)|((with_reducible refine gate_callee (f:=57) rfl ?_);refine goesL_ (some 20) rfl rfl Try.func57 zK rfl #[.slice A0 l0.length c0,.slice Ao12 t651.length co12] rfl zM ?_;(with_reducible refine (ancepsref42_contradictory.calls k1 _ _ l0 _ _ t651 t654 _ ?side1 ?side2 ?side3 ?side4 A9.out).mono ?_);(case side1=>exact zC (Kd.C_below HR0.out HB.out));(case side2=>exact HC0.out);(case side3=>exact zC (Kd.R_reads' HO653.out).2.2);(case side4=>exact (Kd.R_reads' HO653.out).2.1);rintro e w13 ⟨rfl,hb⟩;refine ⟨_,rfl,?_⟩;replace HO653:=zA (Kd.R_below (zR HO653) hb);replace HB:=zA (below_step zB hb);(try clear hb);(try clear hb2);(try clear hk);(try clear hi)))
     (try simp only [Act.put,zi,zs,zt])
     have H:=HC10.out
     clear HC10
     by_cases c14:t654=true
     ·subst c14
      have H1:(some false)=some r:=by rw [if_pos rfl] at H;exact H
      clear H
      have H:=H1
      clear H1
      obtain rfl:=Option.some.inj H
      go_wp2
      go_ret
      exact ⟨ze,by repeat (first|(with_reducible first|exact HB.out|apply below_alloc|apply pw_below_drewN|apply below_drew1)|exact HB.out)⟩
     ·replace c14:=Bool.eq_false_iff.mpr c14
      subst c14
      have H1:(ancepsref42_core.l0 k1 l0 l1 (wrap64 (x5_1+1)))=some r:=by rw [if_neg (show ¬ (false=true) by decide)] at H;exact H
      clear H
      have H:=H1
      clear H1
      have H':=zA H
      clear H
      go_wp2
      go_roundg k1
      case measure=>have:=HK1.out;omega
      case rel=>exact ⟨(wrap64 (x5_1+1)),zT,H',⟨by have:=HK1.out;omega⟩,⟨by repeat (first|(with_reducible first|exact HB.out|apply below_alloc|apply pw_below_drewN|apply below_drew1)|exact HB.out)⟩⟩
    ·rw [if_neg c7] at H
     have c7b0:decide (x5_1<(l1.length:Int))=false:=decide_eq_false c7
     clear c7
     (first|rw [c7b0]|(simp only [i64_w,i32_w];rw [c7b0])|skip)
     obtain rfl:=Option.some.inj H
     go_wp2
     go_ret
     exact ⟨ze,by repeat (first|(with_reducible first|exact HB.out|apply below_alloc|apply pw_below_drewN|apply below_drew1)|exact HB.out)⟩
 ·replace c6:=Bool.eq_false_iff.mpr c6
  subst c6
  have H1:(some false)=some r:=by rw [if_neg (show ¬ (false=true) by decide)] at H;exact H
  clear H
  have H:=H1
  clear H1
  obtain rfl:=Option.some.inj H
  go_wp2
  go_ret
  exact ⟨ze,by repeat (first|(with_reducible first|exact HB.out|apply below_alloc|apply pw_below_drewN|apply below_drew1)|exact HB.out)⟩
mutual
def ancepsref42_Cores.l0:Nat→List (S50)→List (List Int)→Int→Option ((List (List Int))×Int)
 | 0,_,_,_=>none
 | k+1,x0,x5,x6=>if x6≤(x0.length:Int) then ((ancepsref42_Sets.f k (x0.length:Int) x6).bind fun t656=>(ancepsref42_Cores.l1 k x0 x5 x6 t656 0)) else (some (x5,0))
def ancepsref42_Cores.l1:Nat→List (S50)→List (List Int)→Int→List (List Int)→Int→Option ((List (List Int))×Int)
 | 0,_,_,_,_,_=>none
 | k+1,x0,x5,x6,x7,x8=>if x8<(x7.length:Int) then (if 0≤x8 then ((ancepsref42_core.f k x0 (rd_L1 x7 x8)).bind fun t660=>(if t660=true then (if x5.length<5864062014805 then (ancepsref42_Cores.l1 k x0 (x5++[rd_L1 x7 x8]) x6 x7 (wrap64 (x8+1))) else (none)) else (ancepsref42_Cores.l1 k x0 x5 x6 x7 (wrap64 (x8+1))))) else (none)) else (ancepsref42_Cores.l0 k x0 x5 (wrap64 (x6+1)))
end
def ancepsref42_Cores.f (k:Nat) (l0:List (S50)):Option ((List (List Int))×Int):=(ancepsref42_Valid.f k l0).bind fun t655=>(if t655=0 then (ancepsref42_Cores.l0 k l0 ([]:List (List Int)) 0) else (some (([]:List (List Int)),t655)))
theorem ancepsref42_Cores.mono_l:∀ k,(∀ y0 y1 y2,LeO (ancepsref42_Cores.l0 k y0 y1 y2) (ancepsref42_Cores.l0 (k+1) y0 y1 y2))∧(∀ y0 y1 y2 y3 y4,LeO (ancepsref42_Cores.l1 k y0 y1 y2 y3 y4) (ancepsref42_Cores.l1 (k+1) y0 y1 y2 y3 y4))
 | 0=>⟨fun _ _ _ r h=>by simp [ancepsref42_Cores.l0] at h,fun _ _ _ _ _ r h=>by simp [ancepsref42_Cores.l1] at h⟩
 | k+1=>by
  obtain ⟨ih0,ih1⟩:=ancepsref42_Cores.mono_l k
  refine ⟨?_,?_⟩
  ·intro y0 y1 y2
   unfold ancepsref42_Cores.l0
   repeat' first
   | (with_reducible exact ih0 _ _ _)
   | (with_reducible exact ih1 _ _ _ _ _)
   | (with_reducible exact ancepsref42_Sets.mono _ _ _)
   | (with_reducible exact ancepsref42_Valid.mono _ _)
   | (with_reducible exact ancepsref42_core.mono _ _ _)
   | (with_reducible exact LeO.refl _)
   | (with_reducible exact LeO.none _)
   | (with_reducible refine LeO.ite ?_ ?_)
   | (with_reducible refine LeO.bind ?_ (fun _=>?_))
   | exact LeO.none _
   | refine LeO.ite ?_ ?_
   | refine LeO.bind ?_ (fun _=>?_)
  ·intro y0 y1 y2 y3 y4
   unfold ancepsref42_Cores.l1
   repeat' first
   | (with_reducible exact ih0 _ _ _)
   | (with_reducible exact ih1 _ _ _ _ _)
   | (with_reducible exact ancepsref42_Sets.mono _ _ _)
   | (with_reducible exact ancepsref42_Valid.mono _ _)
   | (with_reducible exact ancepsref42_core.mono _ _ _)
   | (with_reducible exact LeO.refl _)
   | (with_reducible exact LeO.none _)
   | (with_reducible refine LeO.ite ?_ ?_)
   | (with_reducible refine LeO.bind ?_ (fun _=>?_))
   | exact LeO.none _
   | refine LeO.ite ?_ ?_
   | refine LeO.bind ?_ (fun _=>?_)
theorem ancepsref42_Cores.mono:∀ a0 k,LeO (ancepsref42_Cores.f k a0) (ancepsref42_Cores.f (k+1) a0):=by
 intro a0 k
 obtain ⟨ih0,ih1⟩:=ancepsref42_Cores.mono_l k
 unfold ancepsref42_Cores.f
 repeat' first
   | (with_reducible exact ih0 _ _ _)
   | (with_reducible exact ih1 _ _ _ _ _)
   | (with_reducible exact ancepsref42_Sets.mono _ _ _)
   | (with_reducible exact ancepsref42_Valid.mono _ _)
   | (with_reducible exact ancepsref42_core.mono _ _ _)
   | (with_reducible exact LeO.refl _)
   | (with_reducible exact LeO.none _)
   | (with_reducible refine LeO.ite ?_ ?_)
   | (with_reducible refine LeO.bind ?_ (fun _=>?_))
   | exact LeO.none _
   | refine LeO.ite ?_ ?_
   | refine LeO.bind ?_ (fun _=>?_)
set_option maxHeartbeats 8000000 in
set_option maxRecDepth 100000 in
theorem ancepsref42_Cores.calls (k:Nat) (A0:Option Addr) (c0:Nat) (l0:List (S50)) (r1:List (List Int)) (r2:Int) (w:World) (hr0:Kd.C k50 w A0 l0.length l0) (hc0:l0.length≤c0) (h:ancepsref42_Cores.f k l0=some (r1,r2)) :
  Calls Try.prog 13 #[.slice A0 l0.length c0] w fun e w'=>∃ v0_:Value,e=.returned (.tuple #[v0_,.int .i64 r2])∧Kd.N (Kd.slice 3 (Kd.int .i64)) 30 w' w.heap.size (fun k_=>(w.heap.size≤k_)) v0_ r1∧Below w.heap.size w w':=by
 have hu30:=Try.underlying30
 have HR0:=zA hr0
 have HC0:=zA hc0
 clear hr0 hc0
 have HB:=zA (Below.refl w.heap.size w)
 have H:((ancepsref42_Valid.f k l0).bind fun t655=>(if t655=0 then (ancepsref42_Cores.l0 k l0 ([]:List (List Int)) 0) else (some (([]:List (List Int)),t655))))=some (r1,r2):=h
 clear h
 replace H:=Option.bind_eq_some_iff.mp H
 obtain ⟨t655,A20,H⟩:=H
 replace H:(if t655=0 then (ancepsref42_Cores.l0 k l0 ([]:List (List Int)) 0) else (some (([]:List (List Int)),t655)))=some (r1,r2):=H
 have A2:=zA A20
 clear A20
 have HC3:=zA H
 clear H
 go_enter Try.func13,Try.ntmps13
 go_upto_if 12 with (first|((with_reducible refine gate_callee (f:=26) rfl ?_);refine goesL_ (some 10) rfl rfl Try.func26 zK rfl #[.slice A0 l0.length c0] rfl zM ?_;(with_reducible refine (ancepsref42_Valid.calls k _ _ l0 t655 _ ?side1 ?side2 A2.out).mono ?_);(case side1=>repeat (first|exact HR0.out|(with_reducible refine Kd.C_alloc ?_ _)|(with_reducible refine Kd.C_drewN ?_ _)|(with_reducible refine Kd.C_drew ?_)));(case side2=>exact HC0.out);rintro e w4 ⟨rfl,hb⟩;refine ⟨_,rfl,?_⟩;replace HB:=zA (below_step zB hb);(try clear hb);(try clear hb2);(try clear hk);(try clear hi)))
 (try simp only [Act.put,zi,zs,zt])
 have H:=HC3.out
 clear HC3
 by_cases c5:t655=0
 ·rw [if_pos c5] at H
  have c5b0:(t655 == 0)=true:=beq_iff_eq.mpr c5
  have c5b1:(t655 != 0)=false:=bne_eq_false_iff_eq.mpr c5
  clear c5
  (first|rw [c5b0]|(simp only [i64_w,i32_w];rw [c5b0])|skip)
  (try rw [c5b1])
  have H':=zA H
  clear H
  go_wp2
  go_loopg [5,6] k (fun kq v5 v6 w'=>∃ (x5_1:List (List Int)) (x6_1:Int),v6=.int .i64 x6_1∧Aside0 (ancepsref42_Cores.l0 kq l0 x5_1 x6_1=some (r1,r2))∧Aside0 (kq≤k)∧Aside0 (Kd.N (Kd.slice 3 (Kd.int .i64)) 30 w' w.heap.size (fun k_=>(w.heap.size≤k_)) v5 x5_1)∧Aside0 (Below w.heap.size w w'))
  case atStart=>exact ⟨(([]:List (List Int))),(0),zT,H',⟨Nat.le_refl _⟩,⟨by first|exact Kd.S_nil _ _ _ _ _|exact Kd.N_nil _ _ _ _ _|exact Kd.V_nil _ _ _ _ _|exact Kd.Q_nil _ _ _ _ _|exact Kd.R_nil _ _ _ _ _⟩,⟨by repeat (first|(with_reducible first|exact HB.out|apply below_alloc|apply pw_below_drewN|apply below_drew1)|exact HB.out)⟩⟩
  case round=>
   clear H'
   try clear c5
   try clear c5b0
   try clear c5b1
   obtain ⟨x5_1,x6_1,rfl,HA,HK1,HO_5,HB⟩:=hrel
   cases gk with
   | zero=>exact absurd HA.out (by simp [ancepsref42_Cores.l0])
   | succ k1=>
    have H:=HA.out
    clear HA
    simp only [ancepsref42_Cores.l0] at H
    by_cases c6:x6_1≤(l0.length:Int)
    ·rw [if_pos c6] at H
     have c6b0:decide (x6_1≤(l0.length:Int))=true:=decide_eq_true c6
     clear c6
     replace H:=Option.bind_eq_some_iff.mp H
     obtain ⟨t656,A70,H⟩:=H
     replace H:(ancepsref42_Cores.l1 k1 l0 x5_1 x6_1 t656 0)=some (r1,r2):=H
     have A7:=zA A70
     clear A70
     have H':=zA H
     clear H
     go_wp2_with (first|((with_reducible refine gate_callee (f:=44) rfl ?_);refine goesL_ (some 23) rfl rfl Try.func44 zK rfl #[.int .i64 (l0.length:Int),.int .i64 x6_1] rfl zM ?_;(with_reducible refine (ancepsref42_Sets.calls k1 (l0.length:Int) x6_1 t656 _ A7.out).mono ?_);rintro e w8 ⟨v657,rfl,ho0,hb⟩;refine ⟨_,rfl,?_⟩;have HO658:=zA (Kd.N_lower (Kd.N_mono (ok':=fun k_=>(w.heap.size≤k_)∧some k_≠(u5:Value).ownBlock) (Kd.S_N (Kd.S_bound ho0)) (fun k_ hk_=>⟨(Nat.le_trans (below_size zB) hk_.2.1),(Kd.fresh' (Kd.N_lt (zN HO_5)) k_ hk_.2.1)⟩)) (below_size zB));replace HO_5:=zA (Kd.N_elder' (zN HO_5) (Kd.N_base (Kd.S_N ho0)) hb);replace HB:=zA (below_step zB hb);(try clear hb);(try clear hb2);(try clear hk);(try clear hi);(try clear ho0)))
     go_loopg [5,8] k1 (fun kq v5 v8 w'=>∃ (x5_2:List (List Int)) (x8_2:Int),v8=.int .i64 x8_2∧Aside0 (ancepsref42_Cores.l1 kq l0 x5_2 x6_1 t656 x8_2=some (r1,r2))∧Aside0 (kq≤k1)∧Aside0 (Kd.N (Kd.slice 3 (Kd.int .i64)) 30 w' w.heap.size (fun k_=>(w.heap.size≤k_)∧some k_≠(v657:Value).ownBlock) v5 x5_2)∧Aside0 (Kd.N (Kd.slice 3 (Kd.int .i64)) 30 w' w.heap.size (fun k_=>(w.heap.size≤k_)∧some k_≠(v5:Value).ownBlock) v657 t656)∧Aside0 (Below w.heap.size w w'))
     case atStart=>exact ⟨(x5_1),(0),zT,H',⟨Nat.le_refl _⟩,⟨by (with_reducible repeat (first|apply Kd.N_alloc|apply Kd.N_drewN|apply Kd.N_drew));exact HO_5.out⟩,⟨by (with_reducible repeat (first|apply Kd.N_alloc|apply Kd.N_drewN|apply Kd.N_drew));exact HO658.out⟩,⟨by repeat (first|(with_reducible first|exact HB.out|apply below_alloc|apply pw_below_drewN|apply below_drew1)|exact HB.out)⟩⟩
     case round=>
      clear H'
      try clear c5
      try clear c5b0
      try clear c5b1
      try clear c6
      try clear c6b0
      obtain ⟨x5_2,x8_2,rfl,HA,HK2,HO_5,HO_7,HB⟩:=hrel
      cases gk with
      | zero=>exact absurd HA.out (by simp [ancepsref42_Cores.l1])
      | succ k2=>
       have H:=HA.out
       clear HA
       simp only [ancepsref42_Cores.l1] at H
       by_cases c9:x8_2<(t656.length:Int)
       ·rw [if_pos c9] at H
        have c9b0:decide (x8_2<(t656.length:Int))=true:=decide_eq_true c9
        clear c9
        by_cases c10:0≤x8_2
        ·rw [if_pos c10] at H
         have c10b0:decide (0≤x8_2)=true:=decide_eq_true c10
         clear c10
         replace H:=Option.bind_eq_some_iff.mp H
         obtain ⟨t660,A110,H⟩:=H
         replace H:(if t660=true then (if x5_2.length<5864062014805 then (ancepsref42_Cores.l1 k2 l0 (x5_2++[rd_L1 t656 x8_2]) x6_1 t656 (wrap64 (x8_2+1))) else (none)) else (ancepsref42_Cores.l1 k2 l0 x5_2 x6_1 t656 (wrap64 (x8_2+1))))=some (r1,r2):=H
         have A11:=zA A110
         clear A110
         have HC12:=zA H
         clear H
         obtain ⟨Ao13,co13,eo13⟩:=Kd.N_slice HO_7.out
         subst eo13
         have p659:0≤(x8_2:Int):=of_decide_eq_true zh
         have q659:x8_2<(t656.length:Int):=of_decide_eq_true zh
         obtain ⟨ad659,A659_0,c659_0,e659,hx659_0,hl659_0,hi659_0⟩:=at_L1 (Kd.N_reads' HO_7.out).2.2 x8_2 p659 q659
         cases e659
         obtain ⟨ce659,hce659,hMe659,hcc659⟩:=Kd.N_get HO_7.out [] x8_2 p659 (by first|exact q659|exact of_decide_eq_true zh|(have e_:=(Kd.N_reads' HO_7.out).1;omega))
         obtain ⟨ua659_0,uc659_0,rfl,ul659_0,ge659_0⟩:=Kd.FK_slice_open hMe659
         have hv659_0:=hcc659 0 _ rfl
         rw [Nat.add_zero,show ((Kd.slice 3 (Kd.int .i64))).sz=1 from rfl,Nat.mul_one] at hv659_0
         replace hv659_0:=Option.some.inj (hv659_0.symm.trans hx659_0)
         injection hv659_0 with hva_ hvn_ hvc_
         rw [hva_] at ge659_0
         rw [hvc_] at ul659_0
         have HL659_0:=zA (show Kd.V (Kd.int .i64) 3 _ w.heap.size _ _ (rd_L1 t656 x8_2) from Kd.V_mk ul659_0 ge659_0)
         clear hva_ hvn_ hvc_ ge659_0 ul659_0
         clear hcc659 hce659
         have HR659_0:=zA hi659_0
         have HC659_0:=zA hl659_0
         clear hi659_0 hl659_0
         replace p659:=eq_true p659
         replace q659:=eq_true q659
         go_upto_if 35 with (first|((with_reducible refine gate_callee (f:=45) rfl ?_);refine goesL_ (some 35) rfl rfl Try.func45 zK rfl #[.slice A0 l0.length c0,.slice A659_0 (rd_L1 t656 x8_2).length c659_0] rfl zM ?_;(with_reducible refine (ancepsref42_core.calls k2 _ _ l0 _ _ (rd_L1 t656 x8_2) t660 _ ?side1 ?side2 ?side3 ?side4 A11.out).mono ?_);(case side1=>exact zC (Kd.C_below HR0.out HB.out));(case side2=>exact HC0.out);(case side3=>exact zC ((Kd.V_reads' HL659_0.out).2.2));(case side4=>exact HC659_0.out);rintro e w14 ⟨rfl,hb⟩;refine ⟨_,rfl,?_⟩;replace HO_5:=zA (Kd.N_below (zN HO_5) hb);replace HO_7:=zA (Kd.N_below (zN HO_7) hb);replace HR659_0:=zA (Kd.C_below ((Kd.V_reads' HL659_0.out).2.2) hb);replace HL659_0:=zA (Kd.V_below (by (with_reducible repeat (first|apply Kd.V_alloc|apply Kd.V_drewN|apply Kd.V_drew));exact HL659_0.out) hb);replace HB:=zA (below_step zB hb);(try clear hb);(try clear hb2);(try clear hk);(try clear hi)))
         (try simp only [Act.put,zi,zs,zt])
         have H:=HC12.out
         clear HC12
         by_cases c15:t660=true
         ·subst c15
          have H1:(if x5_2.length<5864062014805 then (ancepsref42_Cores.l1 k2 l0 (x5_2++[rd_L1 t656 x8_2]) x6_1 t656 (wrap64 (x8_2+1))) else (none))=some (r1,r2):=by rw [if_pos rfl] at H;exact H
          clear H
          have H:=H1
          clear H1
          by_cases c16:x5_2.length<5864062014805
          ·rw [if_pos c16] at H
           have LMc16:=zA c16
           clear c16
           obtain ⟨y662,hy662⟩:∃ y_:List (List Int),y_=(x5_2++[rd_L1 t656 x8_2]):=⟨_,rfl⟩
           replace H:(ancepsref42_Cores.l1 k2 l0 y662 x6_1 t656 (wrap64 (x8_2+1)))=some (r1,r2):=by first|(rw [hy662];with_reducible exact H)|(have H2_:=(Option.bind_some _ _).symm.trans H;rw [hy662];with_reducible exact H2_)|(have H2_:=(Option.bind_some _ _).symm.trans H;with_reducible exact H2_)|with_reducible exact H|(rw [hy662];exact H)|exact H
           have Ny662:=zA hy662
           clear hy662
           have H':=zA H
           clear H
           have p661:0≤(x8_2:Int):=of_decide_eq_true zh
           have q661:x8_2<(t656.length:Int):=of_decide_eq_true zh
           obtain ⟨ad661,A661_0,c661_0,e661,hx661_0,hl661_0,hi661_0⟩:=at_L1 (Kd.N_reads' HO_7.out).2.2 x8_2 p661 q661
           obtain rfl:ad659=ad661:=(by injection e661)
           obtain ⟨ce661,hce661,hMe661,hcc661⟩:=Kd.N_get HO_7.out [] x8_2 p661 (by first|exact q661|exact of_decide_eq_true zh|(have e_:=(Kd.N_reads' HO_7.out).1;omega))
           obtain ⟨ua661_0,uc661_0,rfl,ul661_0,ge661_0⟩:=Kd.FK_slice_open hMe661
           have hv661_0:=hcc661 0 _ rfl
           rw [Nat.add_zero,show ((Kd.slice 3 (Kd.int .i64))).sz=1 from rfl,Nat.mul_one] at hv661_0
           replace hv661_0:=Option.some.inj (hv661_0.symm.trans hx661_0)
           injection hv661_0 with hva_ hvn_ hvc_
           rw [hva_] at ge661_0
           rw [hvc_] at ul661_0
           have HL661_0:=zA (show Kd.V (Kd.int .i64) 3 _ w.heap.size _ _ (rd_L1 t656 x8_2) from Kd.V_mk ul661_0 ge661_0)
           clear hva_ hvn_ hvc_ ge661_0 ul661_0
           clear hcc661 hce661
           have HR661_0:=zA hi661_0
           have HC661_0:=zA hl661_0
           clear hi661_0 hl661_0
           replace p661:=eq_true p661
           replace q661:=eq_true q661
           go_wp2_with (first|((with_reducible refine gate_builtin (b:=.append) (xs:=#[.tmp 36,.tmp 41]) rfl ?_);at_builtin;refine Kd.N_append (Kd.slice 3 (Kd.int .i64)) (w0:=w) w.heap.size rfl (.tmp 36) (.tmp 41) 25 30 (.slice none 0 0) 24 rfl Try.underlying25 info30 rfl (by decide) (by omega) u5 x5_2 (rd_L1 t656 x8_2) [.slice A661_0 (rd_L1 t656 x8_2).length c661_0] (fun k_=>(w.heap.size≤k_)∧some k_≠(.slice (some ad659) t656.length co13:Value).ownBlock) (fun k_=>((fun k_=>(w.heap.size≤k_)∧some k_≠(.slice (some ad659) t656.length co13:Value).ownBlock)) k_∧some k_≠(u5:Value).ownBlock) rfl rfl ?aP (fun _ hk=>hk) ?aF ?aO ?aB ?aS ?aL ?_;(case aP=>exact (Kd.FK_slice_mk (Kd.V_reads' (Kd.V_mono (ok':=(fun k_=>((fun k_=>(w.heap.size≤k_)∧some k_≠(.slice (some ad659) t656.length co13:Value).ownBlock)) k_∧some k_≠(u5:Value).ownBlock)) (HL661_0.out) (fun k_ hk=>⟨⟨hk.1.1,hk.2⟩,hk.1.2⟩))).2.1 (Kd.V_F (Kd.V_mono (ok':=(fun k_=>((fun k_=>(w.heap.size≤k_)∧some k_≠(.slice (some ad659) t656.length co13:Value).ownBlock)) k_∧some k_≠(u5:Value).ownBlock)) (HL661_0.out) (fun k_ hk=>⟨⟨hk.1.1,hk.2⟩,hk.1.2⟩)))));(case aB=>exact zB);(case aF=>exact (fun k_ hk=>⟨(Nat.le_trans (below_size zB) hk),Kd.fresh' (Kd.N_lt (zN HO_7)) k_ hk⟩));(case aO=>exact (zN HO_5));(case aS=>exact (below_size zB));(case aL=>have:=LMc16.out;omega);intro v663 w17 ho hb hg hat;rw [← Ny662.out] at ho;have HO664:=zA (ho);replace HO_7:=zA (Kd.N_afterv (ok:=(fun k_=>(w.heap.size≤k_))) (zN HO_7) hg hat);replace HL659_0:=zA (Kd.V_afterv (ok:=(fun k_=>(w.heap.size≤k_)∧some k_≠(.slice (some ad659) t656.length co13:Value).ownBlock)) (by (with_reducible repeat (first|apply Kd.V_alloc|apply Kd.V_drewN|apply Kd.V_drew));exact Kd.V_mono HL659_0.out (fun _ hk=>⟨⟨hk.1.1,hk.2⟩,hk.1.2⟩)) hg hat);replace HL661_0:=zA (Kd.V_afterv (ok:=(fun k_=>(w.heap.size≤k_)∧some k_≠(.slice (some ad659) t656.length co13:Value).ownBlock)) (by (with_reducible repeat (first|apply Kd.V_alloc|apply Kd.V_drewN|apply Kd.V_drew));exact Kd.V_mono HL661_0.out (fun _ hk=>⟨⟨hk.1.1,hk.2⟩,hk.1.2⟩)) hg hat);replace HB:=zA (hb);clear HO_5;clear ho hb hg hat))
           go_roundg k2
           case measure=>have:=HK1.out;have:=HK2.out;omega
           case rel=>exact ⟨(y662),(wrap64 (x8_2+1)),zT,H',⟨by have:=HK1.out;have:=HK2.out;omega⟩,⟨by (with_reducible repeat (first|apply Kd.N_alloc|apply Kd.N_drewN|apply Kd.N_drew));exact HO664.out⟩,⟨by (with_reducible repeat (first|apply Kd.N_alloc|apply Kd.N_drewN|apply Kd.N_drew));exact HO_7.out⟩,⟨by repeat (first|(with_reducible first|exact HB.out|apply below_alloc|apply pw_below_drewN|apply below_drew1)|exact HB.out)⟩⟩
          ·rw [if_neg c16] at H
           exact absurd H (by simp)
         ·replace c15:=Bool.eq_false_iff.mpr c15
          subst c15
          have H1:(ancepsref42_Cores.l1 k2 l0 x5_2 x6_1 t656 (wrap64 (x8_2+1)))=some (r1,r2):=by rw [if_neg (show ¬ (false=true) by decide)] at H;exact H
          clear H
          have H:=H1
          clear H1
          have H':=zA H
          clear H
          go_wp2
          go_roundg k2
          case measure=>have:=HK1.out;have:=HK2.out;omega
          case rel=>exact ⟨(x5_2),(wrap64 (x8_2+1)),zT,H',⟨by have:=HK1.out;have:=HK2.out;omega⟩,⟨by (with_reducible repeat (first|apply Kd.N_alloc|apply Kd.N_drewN|apply Kd.N_drew));exact HO_5.out⟩,⟨by (with_reducible repeat (first|apply Kd.N_alloc|apply Kd.N_drewN|apply Kd.N_drew));exact HO_7.out⟩,⟨by repeat (first|(with_reducible first|exact HB.out|apply below_alloc|apply pw_below_drewN|apply below_drew1)|exact HB.out)⟩⟩
        ·rw [if_neg c10] at H
         exact absurd H (by simp)
       ·rw [if_neg c9] at H
        have c9b0:decide (x8_2<(t656.length:Int))=false:=decide_eq_false c9
        clear c9
        have H':=zA H
        clear H
        obtain ⟨Ao18,co18,eo18⟩:=Kd.N_slice HO_7.out
        subst eo18
        go_wp2
        go_roundg k2
        case measure=>have:=HK1.out;have:=HK2.out;omega
        case rel=>exact ⟨(x5_2),(wrap64 (x6_1+1)),zT,H',⟨by have:=HK1.out;have:=HK2.out;omega⟩,⟨by (with_reducible repeat (first|apply Kd.N_alloc|apply Kd.N_drewN|apply Kd.N_drew));exact Kd.N_mono HO_5.out (fun _ hk=>hk.1)⟩,⟨by repeat (first|(with_reducible first|exact HB.out|apply below_alloc|apply pw_below_drewN|apply below_drew1)|exact HB.out)⟩⟩
    ·rw [if_neg c6] at H
     have c6b0:decide (x6_1≤(l0.length:Int))=false:=decide_eq_false c6
     clear c6
     simp only [Option.some.injEq,Prod.mk.injEq] at H
     obtain ⟨rfl,rfl⟩:=H
     go_wp2
     go_ret2
     exact ⟨_,ze,by (with_reducible repeat (first|apply Kd.N_alloc|apply Kd.N_drewN|apply Kd.N_drew));exact HO_5.out,by repeat (first|(with_reducible first|exact HB.out|apply below_alloc|apply pw_below_drewN|apply below_drew1)|exact HB.out)⟩
 ·rw [if_neg c5] at H
  have c5b0:(t655 == 0)=false:=beq_eq_false_iff_ne.mpr c5
  have c5b1:(t655 != 0)=true:=bne_iff_ne.mpr c5
  (first|rw [c5b0]|(simp only [i64_w,i32_w];rw [c5b0])|skip)
  (try rw [c5b1])
  simp only [Option.some.injEq,Prod.mk.injEq] at H
  obtain ⟨rfl,rfl⟩:=H
  go_wp2
  go_ret2
  exact ⟨_,ze,by first|exact Kd.S_nil _ _ _ _ _|exact Kd.N_nil _ _ _ _ _|exact Kd.V_nil _ _ _ _ _|exact Kd.Q_nil _ _ _ _ _|exact Kd.R_nil _ _ _ _ _,by repeat (first|(with_reducible first|exact HB.out|apply below_alloc|apply pw_below_drewN|apply below_drew1)|exact HB.out)⟩
def ancepsref42_rest.l0:Nat→Int→List Int→List Int→Int→Option (List Int)
 | 0,_,_,_,_=>none
 | k+1,x0,x1,x5,x6=>if x6<x0 then ((ancepsref42_Has.f k x1 x6).bind fun t666=>(if t666=true then (ancepsref42_rest.l0 k x0 x1 x5 (wrap64 (x6+1))) else (if x5.length<17592186044416 then (ancepsref42_rest.l0 k x0 x1 (x5++[x6]) (wrap64 (x6+1))) else (none)))) else (some x5)
def ancepsref42_rest.f (k:Nat) (a0:Int) (l1:List Int):Option (List Int):=ancepsref42_rest.l0 k a0 l1 ([]:List Int) 0
theorem ancepsref42_rest.mono_l:∀ k,(∀ y0 y1 y2 y3,LeO (ancepsref42_rest.l0 k y0 y1 y2 y3) (ancepsref42_rest.l0 (k+1) y0 y1 y2 y3))
 | 0=>fun _ _ _ _ r h=>by simp [ancepsref42_rest.l0] at h
 | k+1=>by
  have ih0:=ancepsref42_rest.mono_l k
  ·intro y0 y1 y2 y3
   unfold ancepsref42_rest.l0
   repeat' first
   | (with_reducible exact ih0 _ _ _ _)
   | (with_reducible exact ancepsref42_Has.mono _ _ _)
   | (with_reducible exact LeO.refl _)
   | (with_reducible exact LeO.none _)
   | (with_reducible refine LeO.ite ?_ ?_)
   | (with_reducible refine LeO.bind ?_ (fun _=>?_))
   | exact LeO.none _
   | refine LeO.ite ?_ ?_
   | refine LeO.bind ?_ (fun _=>?_)
theorem ancepsref42_rest.mono:∀ a0 a1 k,LeO (ancepsref42_rest.f k a0 a1) (ancepsref42_rest.f (k+1) a0 a1):=by
 intro a0 a1 k
 have ih0:=ancepsref42_rest.mono_l k
 unfold ancepsref42_rest.f
 repeat' first
   | (with_reducible exact ih0 _ _ _ _)
   | (with_reducible exact ancepsref42_Has.mono _ _ _)
   | (with_reducible exact LeO.refl _)
   | (with_reducible exact LeO.none _)
   | (with_reducible refine LeO.ite ?_ ?_)
   | (with_reducible refine LeO.bind ?_ (fun _=>?_))
   | exact LeO.none _
   | refine LeO.ite ?_ ?_
   | refine LeO.bind ?_ (fun _=>?_)
set_option maxHeartbeats 8000000 in
set_option maxRecDepth 100000 in
theorem ancepsref42_rest.calls (k:Nat) (a0:Int) (A1:Option Addr) (c1:Nat) (l1:List Int) (r:List Int) (w:World) (hr1:Kd.C (Kd.int .i64) w A1 l1.length l1) (hc1:l1.length≤c1) (h:ancepsref42_rest.f k a0 l1=some r) :
  Calls Try.prog 78 #[.int .i64 a0,.slice A1 l1.length c1] w fun e w'=>∃ v0_:Value,e=.returned (v0_)∧Kd.R (Kd.int .i64) 3 w' w.heap.size (fun _=>True) v0_ r∧Below w.heap.size w w':=by
 have HR1:=zA hr1
 have HC1:=zA hc1
 clear hr1 hc1
 have HB:=zA (Below.refl w.heap.size w)
 have H:(ancepsref42_rest.l0 k a0 l1 ([]:List Int) 0)=some r:=h
 clear h
 have H':=zA H
 clear H
 go_enter Try.func78,Try.ntmps78
 go_wp2
 go_loopg [5,6] k (fun kq v5 v6 w'=>∃ (x5_1:List Int) (x6_1:Int),v6=.int .i64 x6_1∧Aside0 (ancepsref42_rest.l0 kq a0 l1 x5_1 x6_1=some r)∧Aside0 (kq≤k)∧Aside0 (Kd.R (Kd.int .i64) 3 w' w.heap.size (fun _=>True) v5 x5_1)∧Aside0 (Below w.heap.size w w'))
 case atStart=>exact ⟨(([]:List Int)),(0),zT,H',⟨Nat.le_refl _⟩,⟨by first|exact Kd.R_nil _ _ _ _ _|exact Kd.N_nil _ _ _ _ _|exact Kd.V_nil _ _ _ _ _|exact Kd.Q_nil _ _ _ _ _|exact Kd.S_nil _ _ _ _ _⟩,⟨by repeat (first|(with_reducible first|exact HB.out|apply below_alloc|apply pw_below_drewN|apply below_drew1)|exact HB.out)⟩⟩
 case round=>
  clear H'
  obtain ⟨x5_1,x6_1,rfl,HA,HK1,HO_5,HB⟩:=hrel
  cases gk with
  | zero=>exact absurd HA.out (by simp [ancepsref42_rest.l0])
  | succ k1=>
   have H:=HA.out
   clear HA
   simp only [ancepsref42_rest.l0] at H
   by_cases c3:x6_1<a0
   ·rw [if_pos c3] at H
    have c3b0:decide (x6_1<a0)=true:=decide_eq_true c3
    clear c3
    replace H:=Option.bind_eq_some_iff.mp H
    obtain ⟨t666,A40,H⟩:=H
    replace H:(if t666=true then (ancepsref42_rest.l0 k1 a0 l1 x5_1 (wrap64 (x6_1+1))) else (if x5_1.length<17592186044416 then (ancepsref42_rest.l0 k1 a0 l1 (x5_1++[x6_1]) (wrap64 (x6_1+1))) else (none)))=some r:=H
    have A4:=zA A40
    clear A40
    have HC5:=zA H
    clear H
    go_upto_if 15 with (first|((with_reducible refine gate_callee (f:=62) rfl ?_);refine goesL_ (some 14) rfl rfl Try.func62 zK rfl #[.slice A1 l1.length c1,.int .i64 x6_1] rfl zM ?_;(with_reducible refine (ancepsref42_Has.calls k1 _ _ l1 x6_1 t666 _ ?side1 ?side2 A4.out).mono ?_);(case side1=>exact zC (Kd.C_below HR1.out HB.out));(case side2=>exact HC1.out);rintro e w' ⟨rfl,⟨nd,rfl⟩⟩;refine ⟨_,rfl,?_⟩))
    (try simp only [Act.put,zi,zs,zt])
    have H:=HC5.out
    clear HC5
    by_cases c6:t666=true
    ·subst c6
     have H1:(ancepsref42_rest.l0 k1 a0 l1 x5_1 (wrap64 (x6_1+1)))=some r:=by rw [if_pos rfl] at H;exact H
     clear H
     have H:=H1
     clear H1
     have H':=zA H
     clear H
     go_wp2
     go_roundg k1
     case measure=>have:=HK1.out;omega
     case rel=>exact ⟨(x5_1),(wrap64 (x6_1+1)),zT,H',⟨by have:=HK1.out;omega⟩,⟨by refine zr ?_;exact HO_5.out⟩,⟨by repeat (first|(with_reducible first|exact HB.out|apply below_alloc|apply pw_below_drewN|apply below_drew1)|exact HB.out)⟩⟩
    ·replace c6:=Bool.eq_false_iff.mpr c6
     subst c6
     have H1:(if x5_1.length<17592186044416 then (ancepsref42_rest.l0 k1 a0 l1 (x5_1++[x6_1]) (wrap64 (x6_1+1))) else (none))=some r:=by rw [if_neg (show ¬ (false=true) by decide)] at H;exact H
     clear H
     have H:=H1
     clear H1
     by_cases c7:x5_1.length<17592186044416
     ·rw [if_pos c7] at H
      have LMc7:=zA c7
      clear c7
      obtain ⟨y667,hy667⟩:∃ y_:List Int,y_=(x5_1++[x6_1]):=⟨_,rfl⟩
      replace H:(ancepsref42_rest.l0 k1 a0 l1 y667 (wrap64 (x6_1+1)))=some r:=by first|(rw [hy667];with_reducible exact H)|(have H2_:=(Option.bind_some _ _).symm.trans H;rw [hy667];with_reducible exact H2_)|(have H2_:=(Option.bind_some _ _).symm.trans H;with_reducible exact H2_)|with_reducible exact H|(rw [hy667];exact H)|exact H
      have Ny667:=zA hy667
      clear hy667
      have H':=zA H
      clear H
      go_wp2_with (first|((with_reducible refine gate_builtin (b:=.append) (xs:=#[.tmp 16,.tmp 18]) rfl ?_);at_builtin;refine Kd.R_append (Kd.int .i64) (w0:=w) w.heap.size rfl (.tmp 16) (.tmp 18) 30 3 (.int .i64 0) 8 rfl Try.underlying30 info3 rfl (by decide) (by omega) u5 x5_1 x6_1 [.int .i64 x6_1] (fun _=>True) (fun _=>False) rfl rfl ?aP (fun _ hk=>hk.elim) ?aF ?aO ?aB ?aS ?aL ?_;(case aP=>exact rfl);(case aB=>exact zB);(case aF=>exact (fun _ _=>trivial));(case aO=>exact (zR HO_5));(case aS=>exact (below_size zB));(case aL=>have:=LMc7.out;omega);intro v668 w8 ho hb hg hat;rw [← Ny667.out] at ho;have HO669:=zA (ho);replace HB:=zA (hb);clear HO_5;clear ho hb hg hat))
      go_roundg k1
      case measure=>have:=HK1.out;omega
      case rel=>exact ⟨(y667),(wrap64 (x6_1+1)),zT,H',⟨by have:=HK1.out;omega⟩,⟨by refine zr ?_;exact HO669.out⟩,⟨by repeat (first|(with_reducible first|exact HB.out|apply below_alloc|apply pw_below_drewN|apply below_drew1)|exact HB.out)⟩⟩
     ·rw [if_neg c7] at H
      exact absurd H (by simp)
   ·rw [if_neg c3] at H
    have c3b0:decide (x6_1<a0)=false:=decide_eq_false c3
    clear c3
    obtain rfl:=Option.some.inj H
    go_wp2
    go_ret
    exact ⟨_,ze,by refine zr ?_;exact HO_5.out,by repeat (first|(with_reducible first|exact HB.out|apply below_alloc|apply pw_below_drewN|apply below_drew1)|exact HB.out)⟩
def ancepsref42_repair.l0:Nat→List (S50)→List Int→Int→Option (Bool)
 | 0,_,_,_=>none
 | k+1,x0,x1,x5=>if x5<(x1.length:Int) then ((ancepsref42_Without.f x1 x5).bind fun t674=>((ancepsref42_rest.f k (x0.length:Int) t674).bind fun t677=>((ancepsref42_contradictory.f k x0 t677).bind fun t680=>(if t680=true then (ancepsref42_repair.l0 k x0 x1 (wrap64 (x5+1))) else (some false))))) else (some true)
def ancepsref42_repair.f (k:Nat) (l0:List (S50)) (l1:List Int):Option (Bool):=(ancepsref42_rest.f k (l0.length:Int) l1).bind fun t670=>((ancepsref42_contradictory.f k l0 t670).bind fun t673=>(if t673=true then (some false) else (ancepsref42_repair.l0 k l0 l1 0)))
theorem ancepsref42_repair.mono_l:∀ k,(∀ y0 y1 y2,LeO (ancepsref42_repair.l0 k y0 y1 y2) (ancepsref42_repair.l0 (k+1) y0 y1 y2))
 | 0=>fun _ _ _ r h=>by simp [ancepsref42_repair.l0] at h
 | k+1=>by
  have ih0:=ancepsref42_repair.mono_l k
  ·intro y0 y1 y2
   unfold ancepsref42_repair.l0
   repeat' first
   | (with_reducible exact ih0 _ _ _)
   | (with_reducible exact ancepsref42_contradictory.mono _ _ _)
   | (with_reducible exact ancepsref42_rest.mono _ _ _)
   | (with_reducible exact LeO.refl _)
   | (with_reducible exact LeO.none _)
   | (with_reducible refine LeO.ite ?_ ?_)
   | (with_reducible refine LeO.bind ?_ (fun _=>?_))
   | exact LeO.none _
   | refine LeO.ite ?_ ?_
   | refine LeO.bind ?_ (fun _=>?_)
theorem ancepsref42_repair.mono:∀ a0 a1 k,LeO (ancepsref42_repair.f k a0 a1) (ancepsref42_repair.f (k+1) a0 a1):=by
 intro a0 a1 k
 have ih0:=ancepsref42_repair.mono_l k
 unfold ancepsref42_repair.f
 repeat' first
   | (with_reducible exact ih0 _ _ _)
   | (with_reducible exact ancepsref42_contradictory.mono _ _ _)
   | (with_reducible exact ancepsref42_rest.mono _ _ _)
   | (with_reducible exact LeO.refl _)
   | (with_reducible exact LeO.none _)
   | (with_reducible refine LeO.ite ?_ ?_)
   | (with_reducible refine LeO.bind ?_ (fun _=>?_))
   | exact LeO.none _
   | refine LeO.ite ?_ ?_
   | refine LeO.bind ?_ (fun _=>?_)
set_option maxHeartbeats 8000000 in
set_option maxRecDepth 100000 in
theorem ancepsref42_repair.calls (k:Nat) (A0:Option Addr) (c0:Nat) (l0:List (S50)) (A1:Option Addr) (c1:Nat) (l1:List Int) (r:Bool) (w:World) (hr0:Kd.C k50 w A0 l0.length l0) (hc0:l0.length≤c0) (hr1:Kd.C (Kd.int .i64) w A1 l1.length l1) (hc1:l1.length≤c1) (h:ancepsref42_repair.f k l0 l1=some r) :
  Calls Try.prog 48 #[.slice A0 l0.length c0,.slice A1 l1.length c1] w fun e w'=>e=.returned (.bool r)∧Below w.heap.size w w':=by
 have HR0:=zA hr0
 have HC0:=zA hc0
 clear hr0 hc0
 have HR1:=zA hr1
 have HC1:=zA hc1
 clear hr1 hc1
 have HB:=zA (Below.refl w.heap.size w)
 have H:((ancepsref42_rest.f k (l0.length:Int) l1).bind fun t670=>((ancepsref42_contradictory.f k l0 t670).bind fun t673=>(if t673=true then (some false) else (ancepsref42_repair.l0 k l0 l1 0))))=some r:=h
 clear h
 replace H:=Option.bind_eq_some_iff.mp H
 obtain ⟨t670,A30,H⟩:=H
 replace H:((ancepsref42_contradictory.f k l0 t670).bind fun t673=>(if t673=true then (some false) else (ancepsref42_repair.l0 k l0 l1 0)))=some r:=H
 have A3:=zA A30
 clear A30
 replace H:=Option.bind_eq_some_iff.mp H
 obtain ⟨t673,A40,H⟩:=H
 replace H:(if t673=true then (some false) else (ancepsref42_repair.l0 k l0 l1 0))=some r:=H
 have A4:=zA A40
 clear A40
 have HC5:=zA H
 clear H
 go_enter Try.func48,Try.ntmps48
 go_upto_if 11 with (first|((with_reducible refine gate_callee (f:=78) rfl ?_);refine goesL_ (some 10) rfl rfl Try.func78 zK rfl #[.int .i64 (l0.length:Int),.slice A1 l1.length c1] rfl zM ?_;(with_reducible refine (ancepsref42_rest.calls k (l0.length:Int) _ _ l1 t670 _ ?side1 ?side2 A3.out).mono ?_);(case side1=>repeat (first|exact HR1.out|(with_reducible refine Kd.C_alloc ?_ _)|(with_reducible refine Kd.C_drewN ?_ _)|(with_reducible refine Kd.C_drew ?_)));(case side2=>exact HC1.out);rintro e w6 ⟨v671,rfl,ho0,hb⟩;refine ⟨_,rfl,?_⟩;have HO672:=zA (Kd.R_lower ho0 (below_size zB));replace HB:=zA (below_step zB hb);(try clear hb);(try clear hb2);(try clear hk);(try clear hi);(try clear ho0);obtain ⟨Ao7,co7,eo7⟩:=Kd.R_slice HO672.out;subst eo7)|((with_reducible refine gate_callee (f:=57) rfl ?_);refine goesL_ (some 11) rfl rfl Try.func57 zK rfl #[.slice A0 l0.length c0,.slice Ao7 t670.length co7] rfl zM ?_;(with_reducible refine (ancepsref42_contradictory.calls k _ _ l0 _ _ t670 t673 _ ?side1 ?side2 ?side3 ?side4 A4.out).mono ?_);(case side1=>exact zC (Kd.C_below HR0.out HB.out));(case side2=>exact HC0.out);(case side3=>exact zC (Kd.R_reads' HO672.out).2.2);(case side4=>exact (Kd.R_reads' HO672.out).2.1);rintro e w8 ⟨rfl,hb⟩;refine ⟨_,rfl,?_⟩;replace HO672:=zA (Kd.R_below (zR HO672) hb);replace HB:=zA (below_step zB hb);(try clear hb);(try clear hb2);(try clear hk);(try clear hi)))
 (try simp only [Act.put,zi,zs,zt])
 have H:=HC5.out
 clear HC5
 by_cases c9:t673=true
 ·subst c9
  have H1:(some false)=some r:=by rw [if_pos rfl] at H;exact H
  clear H
  have H:=H1
  clear H1
  obtain rfl:=Option.some.inj H
  go_wp2
  go_ret
  exact ⟨ze,by repeat (first|(with_reducible first|exact HB.out|apply below_alloc|apply pw_below_drewN|apply below_drew1)|exact HB.out)⟩
 ·replace c9:=Bool.eq_false_iff.mpr c9
  subst c9
  have H1:(ancepsref42_repair.l0 k l0 l1 0)=some r:=by rw [if_neg (show ¬ (false=true) by decide)] at H;exact H
  clear H
  have H:=H1
  clear H1
  have H':=zA H
  clear H
  go_wp2
  go_loopg [5] k (fun kq v5 w'=>∃ (x5_1:Int),v5=.int .i64 x5_1∧Aside0 (ancepsref42_repair.l0 kq l0 l1 x5_1=some r)∧Aside0 (kq≤k)∧Aside0 (Below w.heap.size w w'))
  case atStart=>exact ⟨(0),zT,H',⟨Nat.le_refl _⟩,⟨by repeat (first|(with_reducible first|exact HB.out|apply below_alloc|apply pw_below_drewN|apply below_drew1)|exact HB.out)⟩⟩
  case round=>
   clear H'
   try clear c1
   try clear c9
   obtain ⟨x5_1,rfl,HA,HK1,HB⟩:=hrel
   cases gk with
   | zero=>exact absurd HA.out (by simp [ancepsref42_repair.l0])
   | succ k1=>
    have H:=HA.out
    clear HA
    simp only [ancepsref42_repair.l0] at H
    by_cases c10:x5_1<(l1.length:Int)
    ·rw [if_pos c10] at H
     have c10b0:decide (x5_1<(l1.length:Int))=true:=decide_eq_true c10
     clear c10
     (first|rw [c10b0]|(simp only [i64_w,i32_w];rw [c10b0])|skip)
     replace H:=Option.bind_eq_some_iff.mp H
     obtain ⟨t674,A110,H⟩:=H
     replace H:((ancepsref42_rest.f k1 (l0.length:Int) t674).bind fun t677=>((ancepsref42_contradictory.f k1 l0 t677).bind fun t680=>(if t680=true then (ancepsref42_repair.l0 k1 l0 l1 (wrap64 (x5_1+1))) else (some false))))=some r:=H
     have A11:=zA A110
     clear A110
     replace H:=Option.bind_eq_some_iff.mp H
     obtain ⟨t677,A120,H⟩:=H
     replace H:((ancepsref42_contradictory.f k1 l0 t677).bind fun t680=>(if t680=true then (ancepsref42_repair.l0 k1 l0 l1 (wrap64 (x5_1+1))) else (some false)))=some r:=H
     have A12:=zA A120
     clear A120
     replace H:=Option.bind_eq_some_iff.mp H
     obtain ⟨t680,A130,H⟩:=H
     replace H:(if t680=true then (ancepsref42_repair.l0 k1 l0 l1 (wrap64 (x5_1+1))) else (some false))=some r:=H
     have A13:=zA A130
     clear A130
     have HC14:=zA H
     clear H
     go_upto_if 26 with (first|((with_reducible refine gate_callee (f:=58) rfl ?_);refine goesL_ (some 23) rfl rfl Try.func58 zK rfl #[.slice A1 l1.length c1,.int .i64 x5_1] rfl zM ?_;(with_reducible refine (ancepsref42_Without.calls _ _ l1 x5_1 t674 _ ?side1 ?side2 A11.out).mono ?_);(case side1=>exact zC (Kd.C_below HR1.out HB.out));(case side2=>exact HC1.out);rintro e w15 ⟨v675,rfl,ho0,hb⟩;refine ⟨_,rfl,?_⟩;have HO676:=zA (Kd.R_lower ho0 (below_size zB));replace HB:=zA (below_step zB hb);(try clear hb);(try clear hb2);(try clear hk);(try clear hi);(try clear ho0);obtain ⟨Ao16,co16,eo16⟩:=Kd.R_slice HO676.out;subst eo16)|((with_reducible refine gate_callee (f:=78) rfl ?_);refine goesL_ (some 24) rfl rfl Try.func78 zK rfl #[.int .i64 (l0.length:Int),.slice Ao16 t674.length co16] rfl zM ?_;(with_reducible refine (ancepsref42_rest.calls k1 (l0.length:Int) _ _ t674 t677 _ ?side1 ?side2 A12.out).mono ?_);(case side1=>exact zC (Kd.R_reads' HO676.out).2.2);(case side2=>exact (Kd.R_reads' HO676.out).2.1);rintro e w17 ⟨v678,rfl,ho0,hb⟩;refine ⟨_,rfl,?_⟩;have HO679:=zA (Kd.R_lower (Kd.R_new' ho0 (Kd.R_lt (zR HO676))) (below_size zB));replace HO676:=zA (Kd.R_elder' (zR HO676) (Kd.R_base ho0) hb);replace HB:=zA (below_step zB hb);(try clear hb);(try clear hb2);(try clear hk);(try clear hi);(try clear ho0);obtain ⟨Ao18,co18,eo18⟩:=Kd.R_slice HO679.out;subst eo18)|((with_reducible refine gate_callee (f:=57) rfl ?_);refine goesL_ (some 25) rfl rfl Try.func57 zK rfl #[.slice A0 l0.length c0,.slice Ao18 t677.length co18] rfl zM ?_;(with_reducible refine (ancepsref42_contradictory.calls k1 _ _ l0 _ _ t677 t680 _ ?side1 ?side2 ?side3 ?side4 A13.out).mono ?_);(case side1=>exact zC (Kd.C_below HR0.out HB.out));(case side2=>exact HC0.out);(case side3=>exact zC (Kd.R_reads' HO679.out).2.2);(case side4=>exact (Kd.R_reads' HO679.out).2.1);rintro e w19 ⟨rfl,hb⟩;refine ⟨_,rfl,?_⟩;replace HO676:=zA (Kd.R_below (zR HO676) hb);replace HO679:=zA (Kd.R_below (zR HO679) hb);replace HB:=zA (below_step zB hb);(try clear hb);(try clear hb2);(try clear hk);(try clear hi)))
     (try simp only [Act.put,zi,zs,zt])
     have H:=HC14.out
     clear HC14
     by_cases c20:t680=true
     ·subst c20
      have H1:(ancepsref42_repair.l0 k1 l0 l1 (wrap64 (x5_1+1)))=some r:=by rw [if_pos rfl] at H;exact H
      clear H
      have H:=H1
      clear H1
      have H':=zA H
      clear H
      go_wp2
      go_roundg k1
      case measure=>have:=HK1.out;omega
      case rel=>exact ⟨(wrap64 (x5_1+1)),zT,H',⟨by have:=HK1.out;omega⟩,⟨by repeat (first|(with_reducible first|exact HB.out|apply below_alloc|apply pw_below_drewN|apply below_drew1)|exact HB.out)⟩⟩
     ·replace c20:=Bool.eq_false_iff.mpr c20
      subst c20
      have H1:(some false)=some r:=by rw [if_neg (show ¬ (false=true) by decide)] at H;exact H
      clear H
      have H:=H1
      clear H1
      obtain rfl:=Option.some.inj H
      go_wp2
      go_ret
      exact ⟨ze,by repeat (first|(with_reducible first|exact HB.out|apply below_alloc|apply pw_below_drewN|apply below_drew1)|exact HB.out)⟩
    ·rw [if_neg c10] at H
     have c10b0:decide (x5_1<(l1.length:Int))=false:=decide_eq_false c10
     clear c10
     (first|rw [c10b0]|(simp only [i64_w,i32_w];rw [c10b0])|skip)
     obtain rfl:=Option.some.inj H
     go_wp2
     go_ret
     exact ⟨ze,by repeat (first|(with_reducible first|exact HB.out|apply below_alloc|apply pw_below_drewN|apply below_drew1)|exact HB.out)⟩
mutual
def ancepsref42_Repairs.l0:Nat→List (S50)→List (List Int)→Int→Option ((List (List Int))×Int)
 | 0,_,_,_=>none
 | k+1,x0,x5,x6=>if x6≤(x0.length:Int) then ((ancepsref42_Sets.f k (x0.length:Int) x6).bind fun t682=>(ancepsref42_Repairs.l1 k x0 x5 x6 t682 0)) else (some (x5,0))
def ancepsref42_Repairs.l1:Nat→List (S50)→List (List Int)→Int→List (List Int)→Int→Option ((List (List Int))×Int)
 | 0,_,_,_,_,_=>none
 | k+1,x0,x5,x6,x7,x8=>if x8<(x7.length:Int) then (if 0≤x8 then ((ancepsref42_repair.f k x0 (rd_L1 x7 x8)).bind fun t686=>(if t686=true then (if x5.length<5864062014805 then (ancepsref42_Repairs.l1 k x0 (x5++[rd_L1 x7 x8]) x6 x7 (wrap64 (x8+1))) else (none)) else (ancepsref42_Repairs.l1 k x0 x5 x6 x7 (wrap64 (x8+1))))) else (none)) else (ancepsref42_Repairs.l0 k x0 x5 (wrap64 (x6+1)))
end
def ancepsref42_Repairs.f (k:Nat) (l0:List (S50)):Option ((List (List Int))×Int):=(ancepsref42_Valid.f k l0).bind fun t681=>(if t681=0 then (ancepsref42_Repairs.l0 k l0 ([]:List (List Int)) 0) else (some (([]:List (List Int)),t681)))
theorem ancepsref42_Repairs.mono_l:∀ k,(∀ y0 y1 y2,LeO (ancepsref42_Repairs.l0 k y0 y1 y2) (ancepsref42_Repairs.l0 (k+1) y0 y1 y2))∧(∀ y0 y1 y2 y3 y4,LeO (ancepsref42_Repairs.l1 k y0 y1 y2 y3 y4) (ancepsref42_Repairs.l1 (k+1) y0 y1 y2 y3 y4))
 | 0=>⟨fun _ _ _ r h=>by simp [ancepsref42_Repairs.l0] at h,fun _ _ _ _ _ r h=>by simp [ancepsref42_Repairs.l1] at h⟩
 | k+1=>by
  obtain ⟨ih0,ih1⟩:=ancepsref42_Repairs.mono_l k
  refine ⟨?_,?_⟩
  ·intro y0 y1 y2
   unfold ancepsref42_Repairs.l0
   repeat' first
   | (with_reducible exact ih0 _ _ _)
   | (with_reducible exact ih1 _ _ _ _ _)
   | (with_reducible exact ancepsref42_Sets.mono _ _ _)
   | (with_reducible exact ancepsref42_Valid.mono _ _)
   | (with_reducible exact ancepsref42_repair.mono _ _ _)
   | (with_reducible exact LeO.refl _)
   | (with_reducible exact LeO.none _)
   | (with_reducible refine LeO.ite ?_ ?_)
   | (with_reducible refine LeO.bind ?_ (fun _=>?_))
   | exact LeO.none _
   | refine LeO.ite ?_ ?_
   | refine LeO.bind ?_ (fun _=>?_)
  ·intro y0 y1 y2 y3 y4
   unfold ancepsref42_Repairs.l1
   repeat' first
   | (with_reducible exact ih0 _ _ _)
   | (with_reducible exact ih1 _ _ _ _ _)
   | (with_reducible exact ancepsref42_Sets.mono _ _ _)
   | (with_reducible exact ancepsref42_Valid.mono _ _)
   | (with_reducible exact ancepsref42_repair.mono _ _ _)
   | (with_reducible exact LeO.refl _)
   | (with_reducible exact LeO.none _)
   | (with_reducible refine LeO.ite ?_ ?_)
   | (with_reducible refine LeO.bind ?_ (fun _=>?_))
   | exact LeO.none _
   | refine LeO.ite ?_ ?_
   | refine LeO.bind ?_ (fun _=>?_)
theorem ancepsref42_Repairs.mono:∀ a0 k,LeO (ancepsref42_Repairs.f k a0) (ancepsref42_Repairs.f (k+1) a0):=by
 intro a0 k
 obtain ⟨ih0,ih1⟩:=ancepsref42_Repairs.mono_l k
 unfold ancepsref42_Repairs.f
 repeat' first
   | (with_reducible exact ih0 _ _ _)
   | (with_reducible exact ih1 _ _ _ _ _)
   | (with_reducible exact ancepsref42_Sets.mono _ _ _)
   | (with_reducible exact ancepsref42_Valid.mono _ _)
   | (with_reducible exact ancepsref42_repair.mono _ _ _)
   | (with_reducible exact LeO.refl _)
   | (with_reducible exact LeO.none _)
   | (with_reducible refine LeO.ite ?_ ?_)
   | (with_reducible refine LeO.bind ?_ (fun _=>?_))
   | exact LeO.none _
   | refine LeO.ite ?_ ?_
   | refine LeO.bind ?_ (fun _=>?_)
set_option maxHeartbeats 8000000 in
set_option maxRecDepth 100000 in
theorem ancepsref42_Repairs.calls (k:Nat) (A0:Option Addr) (c0:Nat) (l0:List (S50)) (r1:List (List Int)) (r2:Int) (w:World) (hr0:Kd.C k50 w A0 l0.length l0) (hc0:l0.length≤c0) (h:ancepsref42_Repairs.f k l0=some (r1,r2)) :
  Calls Try.prog 15 #[.slice A0 l0.length c0] w fun e w'=>∃ v0_:Value,e=.returned (.tuple #[v0_,.int .i64 r2])∧Kd.N (Kd.slice 3 (Kd.int .i64)) 30 w' w.heap.size (fun k_=>(w.heap.size≤k_)) v0_ r1∧Below w.heap.size w w':=by
 have hu30:=Try.underlying30
 have HR0:=zA hr0
 have HC0:=zA hc0
 clear hr0 hc0
 have HB:=zA (Below.refl w.heap.size w)
 have H:((ancepsref42_Valid.f k l0).bind fun t681=>(if t681=0 then (ancepsref42_Repairs.l0 k l0 ([]:List (List Int)) 0) else (some (([]:List (List Int)),t681))))=some (r1,r2):=h
 clear h
 replace H:=Option.bind_eq_some_iff.mp H
 obtain ⟨t681,A20,H⟩:=H
 replace H:(if t681=0 then (ancepsref42_Repairs.l0 k l0 ([]:List (List Int)) 0) else (some (([]:List (List Int)),t681)))=some (r1,r2):=H
 have A2:=zA A20
 clear A20
 have HC3:=zA H
 clear H
 go_enter Try.func15,Try.ntmps15
 go_upto_if 12 with (first|((with_reducible refine gate_callee (f:=26) rfl ?_);refine goesL_ (some 10) rfl rfl Try.func26 zK rfl #[.slice A0 l0.length c0] rfl zM ?_;(with_reducible refine (ancepsref42_Valid.calls k _ _ l0 t681 _ ?side1 ?side2 A2.out).mono ?_);(case side1=>repeat (first|exact HR0.out|(with_reducible refine Kd.C_alloc ?_ _)|(with_reducible refine Kd.C_drewN ?_ _)|(with_reducible refine Kd.C_drew ?_)));(case side2=>exact HC0.out);rintro e w4 ⟨rfl,hb⟩;refine ⟨_,rfl,?_⟩;replace HB:=zA (below_step zB hb);(try clear hb);(try clear hb2);(try clear hk);(try clear hi)))
 (try simp only [Act.put,zi,zs,zt])
 have H:=HC3.out
 clear HC3
 by_cases c5:t681=0
 ·rw [if_pos c5] at H
  have c5b0:(t681 == 0)=true:=beq_iff_eq.mpr c5
  have c5b1:(t681 != 0)=false:=bne_eq_false_iff_eq.mpr c5
  clear c5
  (first|rw [c5b0]|(simp only [i64_w,i32_w];rw [c5b0])|skip)
  (try rw [c5b1])
  have H':=zA H
  clear H
  go_wp2
  go_loopg [5,6] k (fun kq v5 v6 w'=>∃ (x5_1:List (List Int)) (x6_1:Int),v6=.int .i64 x6_1∧Aside0 (ancepsref42_Repairs.l0 kq l0 x5_1 x6_1=some (r1,r2))∧Aside0 (kq≤k)∧Aside0 (Kd.N (Kd.slice 3 (Kd.int .i64)) 30 w' w.heap.size (fun k_=>(w.heap.size≤k_)) v5 x5_1)∧Aside0 (Below w.heap.size w w'))
  case atStart=>exact ⟨(([]:List (List Int))),(0),zT,H',⟨Nat.le_refl _⟩,⟨by first|exact Kd.S_nil _ _ _ _ _|exact Kd.N_nil _ _ _ _ _|exact Kd.V_nil _ _ _ _ _|exact Kd.Q_nil _ _ _ _ _|exact Kd.R_nil _ _ _ _ _⟩,⟨by repeat (first|(with_reducible first|exact HB.out|apply below_alloc|apply pw_below_drewN|apply below_drew1)|exact HB.out)⟩⟩
  case round=>
   clear H'
   try clear c5
   try clear c5b0
   try clear c5b1
   obtain ⟨x5_1,x6_1,rfl,HA,HK1,HO_5,HB⟩:=hrel
   cases gk with
   | zero=>exact absurd HA.out (by simp [ancepsref42_Repairs.l0])
   | succ k1=>
    have H:=HA.out
    clear HA
    simp only [ancepsref42_Repairs.l0] at H
    by_cases c6:x6_1≤(l0.length:Int)
    ·rw [if_pos c6] at H
     have c6b0:decide (x6_1≤(l0.length:Int))=true:=decide_eq_true c6
     clear c6
     replace H:=Option.bind_eq_some_iff.mp H
     obtain ⟨t682,A70,H⟩:=H
     replace H:(ancepsref42_Repairs.l1 k1 l0 x5_1 x6_1 t682 0)=some (r1,r2):=H
     have A7:=zA A70
     clear A70
     have H':=zA H
     clear H
     go_wp2_with (first|((with_reducible refine gate_callee (f:=44) rfl ?_);refine goesL_ (some 23) rfl rfl Try.func44 zK rfl #[.int .i64 (l0.length:Int),.int .i64 x6_1] rfl zM ?_;(with_reducible refine (ancepsref42_Sets.calls k1 (l0.length:Int) x6_1 t682 _ A7.out).mono ?_);rintro e w8 ⟨v683,rfl,ho0,hb⟩;refine ⟨_,rfl,?_⟩;have HO684:=zA (Kd.N_lower (Kd.N_mono (ok':=fun k_=>(w.heap.size≤k_)∧some k_≠(u5:Value).ownBlock) (Kd.S_N (Kd.S_bound ho0)) (fun k_ hk_=>⟨(Nat.le_trans (below_size zB) hk_.2.1),(Kd.fresh' (Kd.N_lt (zN HO_5)) k_ hk_.2.1)⟩)) (below_size zB));replace HO_5:=zA (Kd.N_elder' (zN HO_5) (Kd.N_base (Kd.S_N ho0)) hb);replace HB:=zA (below_step zB hb);(try clear hb);(try clear hb2);(try clear hk);(try clear hi);(try clear ho0)))
     go_loopg [5,8] k1 (fun kq v5 v8 w'=>∃ (x5_2:List (List Int)) (x8_2:Int),v8=.int .i64 x8_2∧Aside0 (ancepsref42_Repairs.l1 kq l0 x5_2 x6_1 t682 x8_2=some (r1,r2))∧Aside0 (kq≤k1)∧Aside0 (Kd.N (Kd.slice 3 (Kd.int .i64)) 30 w' w.heap.size (fun k_=>(w.heap.size≤k_)∧some k_≠(v683:Value).ownBlock) v5 x5_2)∧Aside0 (Kd.N (Kd.slice 3 (Kd.int .i64)) 30 w' w.heap.size (fun k_=>(w.heap.size≤k_)∧some k_≠(v5:Value).ownBlock) v683 t682)∧Aside0 (Below w.heap.size w w'))
     case atStart=>exact ⟨(x5_1),(0),zT,H',⟨Nat.le_refl _⟩,⟨by (with_reducible repeat (first|apply Kd.N_alloc|apply Kd.N_drewN|apply Kd.N_drew));exact HO_5.out⟩,⟨by (with_reducible repeat (first|apply Kd.N_alloc|apply Kd.N_drewN|apply Kd.N_drew));exact HO684.out⟩,⟨by repeat (first|(with_reducible first|exact HB.out|apply below_alloc|apply pw_below_drewN|apply below_drew1)|exact HB.out)⟩⟩
     case round=>
      clear H'
      try clear c5
      try clear c5b0
      try clear c5b1
      try clear c6
      try clear c6b0
      obtain ⟨x5_2,x8_2,rfl,HA,HK2,HO_5,HO_7,HB⟩:=hrel
      cases gk with
      | zero=>exact absurd HA.out (by simp [ancepsref42_Repairs.l1])
      | succ k2=>
       have H:=HA.out
       clear HA
       simp only [ancepsref42_Repairs.l1] at H
       by_cases c9:x8_2<(t682.length:Int)
       ·rw [if_pos c9] at H
        have c9b0:decide (x8_2<(t682.length:Int))=true:=decide_eq_true c9
        clear c9
        by_cases c10:0≤x8_2
        ·rw [if_pos c10] at H
         have c10b0:decide (0≤x8_2)=true:=decide_eq_true c10
         clear c10
         replace H:=Option.bind_eq_some_iff.mp H
         obtain ⟨t686,A110,H⟩:=H
         replace H:(if t686=true then (if x5_2.length<5864062014805 then (ancepsref42_Repairs.l1 k2 l0 (x5_2++[rd_L1 t682 x8_2]) x6_1 t682 (wrap64 (x8_2+1))) else (none)) else (ancepsref42_Repairs.l1 k2 l0 x5_2 x6_1 t682 (wrap64 (x8_2+1))))=some (r1,r2):=H
         have A11:=zA A110
         clear A110
         have HC12:=zA H
         clear H
         obtain ⟨Ao13,co13,eo13⟩:=Kd.N_slice HO_7.out
         subst eo13
         have p685:0≤(x8_2:Int):=of_decide_eq_true zh
         have q685:x8_2<(t682.length:Int):=of_decide_eq_true zh
         obtain ⟨ad685,A685_0,c685_0,e685,hx685_0,hl685_0,hi685_0⟩:=at_L1 (Kd.N_reads' HO_7.out).2.2 x8_2 p685 q685
         cases e685
         obtain ⟨ce685,hce685,hMe685,hcc685⟩:=Kd.N_get HO_7.out [] x8_2 p685 (by first|exact q685|exact of_decide_eq_true zh|(have e_:=(Kd.N_reads' HO_7.out).1;omega))
         obtain ⟨ua685_0,uc685_0,rfl,ul685_0,ge685_0⟩:=Kd.FK_slice_open hMe685
         have hv685_0:=hcc685 0 _ rfl
         rw [Nat.add_zero,show ((Kd.slice 3 (Kd.int .i64))).sz=1 from rfl,Nat.mul_one] at hv685_0
         replace hv685_0:=Option.some.inj (hv685_0.symm.trans hx685_0)
         injection hv685_0 with hva_ hvn_ hvc_
         rw [hva_] at ge685_0
         rw [hvc_] at ul685_0
         have HL685_0:=zA (show Kd.V (Kd.int .i64) 3 _ w.heap.size _ _ (rd_L1 t682 x8_2) from Kd.V_mk ul685_0 ge685_0)
         clear hva_ hvn_ hvc_ ge685_0 ul685_0
         clear hcc685 hce685
         have HR685_0:=zA hi685_0
         have HC685_0:=zA hl685_0
         clear hi685_0 hl685_0
         replace p685:=eq_true p685
         replace q685:=eq_true q685
         go_upto_if 35 with (first|((with_reducible refine gate_callee (f:=48) rfl ?_);refine goesL_ (some 35) rfl rfl Try.func48 zK rfl #[.slice A0 l0.length c0,.slice A685_0 (rd_L1 t682 x8_2).length c685_0] rfl zM ?_;(with_reducible refine (ancepsref42_repair.calls k2 _ _ l0 _ _ (rd_L1 t682 x8_2) t686 _ ?side1 ?side2 ?side3 ?side4 A11.out).mono ?_);(case side1=>exact zC (Kd.C_below HR0.out HB.out));(case side2=>exact HC0.out);(case side3=>exact zC ((Kd.V_reads' HL685_0.out).2.2));(case side4=>exact HC685_0.out);rintro e w14 ⟨rfl,hb⟩;refine ⟨_,rfl,?_⟩;replace HO_5:=zA (Kd.N_below (zN HO_5) hb);replace HO_7:=zA (Kd.N_below (zN HO_7) hb);replace HR685_0:=zA (Kd.C_below ((Kd.V_reads' HL685_0.out).2.2) hb);replace HL685_0:=zA (Kd.V_below (by (with_reducible repeat (first|apply Kd.V_alloc|apply Kd.V_drewN|apply Kd.V_drew));exact HL685_0.out) hb);replace HB:=zA (below_step zB hb);(try clear hb);(try clear hb2);(try clear hk);(try clear hi)))
         (try simp only [Act.put,zi,zs,zt])
         have H:=HC12.out
         clear HC12
         by_cases c15:t686=true
         ·subst c15
          have H1:(if x5_2.length<5864062014805 then (ancepsref42_Repairs.l1 k2 l0 (x5_2++[rd_L1 t682 x8_2]) x6_1 t682 (wrap64 (x8_2+1))) else (none))=some (r1,r2):=by rw [if_pos rfl] at H;exact H
          clear H
          have H:=H1
          clear H1
          by_cases c16:x5_2.length<5864062014805
          ·rw [if_pos c16] at H
           have LMc16:=zA c16
           clear c16
           obtain ⟨y688,hy688⟩:∃ y_:List (List Int),y_=(x5_2++[rd_L1 t682 x8_2]):=⟨_,rfl⟩
           replace H:(ancepsref42_Repairs.l1 k2 l0 y688 x6_1 t682 (wrap64 (x8_2+1)))=some (r1,r2):=by first|(rw [hy688];with_reducible exact H)|(have H2_:=(Option.bind_some _ _).symm.trans H;rw [hy688];with_reducible exact H2_)|(have H2_:=(Option.bind_some _ _).symm.trans H;with_reducible exact H2_)|with_reducible exact H|(rw [hy688];exact H)|exact H
           have Ny688:=zA hy688
           clear hy688
           have H':=zA H
           clear H
           have p687:0≤(x8_2:Int):=of_decide_eq_true zh
           have q687:x8_2<(t682.length:Int):=of_decide_eq_true zh
           obtain ⟨ad687,A687_0,c687_0,e687,hx687_0,hl687_0,hi687_0⟩:=at_L1 (Kd.N_reads' HO_7.out).2.2 x8_2 p687 q687
           obtain rfl:ad685=ad687:=(by injection e687)
           obtain ⟨ce687,hce687,hMe687,hcc687⟩:=Kd.N_get HO_7.out [] x8_2 p687 (by first|exact q687|exact of_decide_eq_true zh|(have e_:=(Kd.N_reads' HO_7.out).1;omega))
           obtain ⟨ua687_0,uc687_0,rfl,ul687_0,ge687_0⟩:=Kd.FK_slice_open hMe687
           have hv687_0:=hcc687 0 _ rfl
           rw [Nat.add_zero,show ((Kd.slice 3 (Kd.int .i64))).sz=1 from rfl,Nat.mul_one] at hv687_0
           replace hv687_0:=Option.some.inj (hv687_0.symm.trans hx687_0)
           injection hv687_0 with hva_ hvn_ hvc_
           rw [hva_] at ge687_0
           rw [hvc_] at ul687_0
           have HL687_0:=zA (show Kd.V (Kd.int .i64) 3 _ w.heap.size _ _ (rd_L1 t682 x8_2) from Kd.V_mk ul687_0 ge687_0)
           clear hva_ hvn_ hvc_ ge687_0 ul687_0
           clear hcc687 hce687
           have HR687_0:=zA hi687_0
           have HC687_0:=zA hl687_0
           clear hi687_0 hl687_0
           replace p687:=eq_true p687
           replace q687:=eq_true q687
           go_wp2_with (first|((with_reducible refine gate_builtin (b:=.append) (xs:=#[.tmp 36,.tmp 41]) rfl ?_);at_builtin;refine Kd.N_append (Kd.slice 3 (Kd.int .i64)) (w0:=w) w.heap.size rfl (.tmp 36) (.tmp 41) 25 30 (.slice none 0 0) 24 rfl Try.underlying25 info30 rfl (by decide) (by omega) u5 x5_2 (rd_L1 t682 x8_2) [.slice A687_0 (rd_L1 t682 x8_2).length c687_0] (fun k_=>(w.heap.size≤k_)∧some k_≠(.slice (some ad685) t682.length co13:Value).ownBlock) (fun k_=>((fun k_=>(w.heap.size≤k_)∧some k_≠(.slice (some ad685) t682.length co13:Value).ownBlock)) k_∧some k_≠(u5:Value).ownBlock) rfl rfl ?aP (fun _ hk=>hk) ?aF ?aO ?aB ?aS ?aL ?_;(case aP=>exact (Kd.FK_slice_mk (Kd.V_reads' (Kd.V_mono (ok':=(fun k_=>((fun k_=>(w.heap.size≤k_)∧some k_≠(.slice (some ad685) t682.length co13:Value).ownBlock)) k_∧some k_≠(u5:Value).ownBlock)) (HL687_0.out) (fun k_ hk=>⟨⟨hk.1.1,hk.2⟩,hk.1.2⟩))).2.1 (Kd.V_F (Kd.V_mono (ok':=(fun k_=>((fun k_=>(w.heap.size≤k_)∧some k_≠(.slice (some ad685) t682.length co13:Value).ownBlock)) k_∧some k_≠(u5:Value).ownBlock)) (HL687_0.out) (fun k_ hk=>⟨⟨hk.1.1,hk.2⟩,hk.1.2⟩)))));(case aB=>exact zB);(case aF=>exact (fun k_ hk=>⟨(Nat.le_trans (below_size zB) hk),Kd.fresh' (Kd.N_lt (zN HO_7)) k_ hk⟩));(case aO=>exact (zN HO_5));(case aS=>exact (below_size zB));(case aL=>have:=LMc16.out;omega);intro v689 w17 ho hb hg hat;rw [← Ny688.out] at ho;have HO690:=zA (ho);replace HO_7:=zA (Kd.N_afterv (ok:=(fun k_=>(w.heap.size≤k_))) (zN HO_7) hg hat);replace HL685_0:=zA (Kd.V_afterv (ok:=(fun k_=>(w.heap.size≤k_)∧some k_≠(.slice (some ad685) t682.length co13:Value).ownBlock)) (by (with_reducible repeat (first|apply Kd.V_alloc|apply Kd.V_drewN|apply Kd.V_drew));exact Kd.V_mono HL685_0.out (fun _ hk=>⟨⟨hk.1.1,hk.2⟩,hk.1.2⟩)) hg hat);replace HL687_0:=zA (Kd.V_afterv (ok:=(fun k_=>(w.heap.size≤k_)∧some k_≠(.slice (some ad685) t682.length co13:Value).ownBlock)) (by (with_reducible repeat (first|apply Kd.V_alloc|apply Kd.V_drewN|apply Kd.V_drew));exact Kd.V_mono HL687_0.out (fun _ hk=>⟨⟨hk.1.1,hk.2⟩,hk.1.2⟩)) hg hat);replace HB:=zA (hb);clear HO_5;clear ho hb hg hat))
           go_roundg k2
           case measure=>have:=HK1.out;have:=HK2.out;omega
           case rel=>exact ⟨(y688),(wrap64 (x8_2+1)),zT,H',⟨by have:=HK1.out;have:=HK2.out;omega⟩,⟨by (with_reducible repeat (first|apply Kd.N_alloc|apply Kd.N_drewN|apply Kd.N_drew));exact HO690.out⟩,⟨by (with_reducible repeat (first|apply Kd.N_alloc|apply Kd.N_drewN|apply Kd.N_drew));exact HO_7.out⟩,⟨by repeat (first|(with_reducible first|exact HB.out|apply below_alloc|apply pw_below_drewN|apply below_drew1)|exact HB.out)⟩⟩
          ·rw [if_neg c16] at H
           exact absurd H (by simp)
         ·replace c15:=Bool.eq_false_iff.mpr c15
          subst c15
          have H1:(ancepsref42_Repairs.l1 k2 l0 x5_2 x6_1 t682 (wrap64 (x8_2+1)))=some (r1,r2):=by rw [if_neg (show ¬ (false=true) by decide)] at H;exact H
          clear H
          have H:=H1
          clear H1
          have H':=zA H
          clear H
          go_wp2
          go_roundg k2
          case measure=>have:=HK1.out;have:=HK2.out;omega
          case rel=>exact ⟨(x5_2),(wrap64 (x8_2+1)),zT,H',⟨by have:=HK1.out;have:=HK2.out;omega⟩,⟨by (with_reducible repeat (first|apply Kd.N_alloc|apply Kd.N_drewN|apply Kd.N_drew));exact HO_5.out⟩,⟨by (with_reducible repeat (first|apply Kd.N_alloc|apply Kd.N_drewN|apply Kd.N_drew));exact HO_7.out⟩,⟨by repeat (first|(with_reducible first|exact HB.out|apply below_alloc|apply pw_below_drewN|apply below_drew1)|exact HB.out)⟩⟩
        ·rw [if_neg c10] at H
         exact absurd H (by simp)
       ·rw [if_neg c9] at H
        have c9b0:decide (x8_2<(t682.length:Int))=false:=decide_eq_false c9
        clear c9
        have H':=zA H
        clear H
        obtain ⟨Ao18,co18,eo18⟩:=Kd.N_slice HO_7.out
        subst eo18
        go_wp2
        go_roundg k2
        case measure=>have:=HK1.out;have:=HK2.out;omega
        case rel=>exact ⟨(x5_2),(wrap64 (x6_1+1)),zT,H',⟨by have:=HK1.out;have:=HK2.out;omega⟩,⟨by (with_reducible repeat (first|apply Kd.N_alloc|apply Kd.N_drewN|apply Kd.N_drew));exact Kd.N_mono HO_5.out (fun _ hk=>hk.1)⟩,⟨by repeat (first|(with_reducible first|exact HB.out|apply below_alloc|apply pw_below_drewN|apply below_drew1)|exact HB.out)⟩⟩
    ·rw [if_neg c6] at H
     have c6b0:decide (x6_1≤(l0.length:Int))=false:=decide_eq_false c6
     clear c6
     simp only [Option.some.injEq,Prod.mk.injEq] at H
     obtain ⟨rfl,rfl⟩:=H
     go_wp2
     go_ret2
     exact ⟨_,ze,by (with_reducible repeat (first|apply Kd.N_alloc|apply Kd.N_drewN|apply Kd.N_drew));exact HO_5.out,by repeat (first|(with_reducible first|exact HB.out|apply below_alloc|apply pw_below_drewN|apply below_drew1)|exact HB.out)⟩
 ·rw [if_neg c5] at H
  have c5b0:(t681 == 0)=false:=beq_eq_false_iff_ne.mpr c5
  have c5b1:(t681 != 0)=true:=bne_iff_ne.mpr c5
  (first|rw [c5b0]|(simp only [i64_w,i32_w];rw [c5b0])|skip)
  (try rw [c5b1])
  simp only [Option.some.injEq,Prod.mk.injEq] at H
  obtain ⟨rfl,rfl⟩:=H
  go_wp2
  go_ret2
  exact ⟨_,ze,by first|exact Kd.S_nil _ _ _ _ _|exact Kd.N_nil _ _ _ _ _|exact Kd.V_nil _ _ _ _ _|exact Kd.Q_nil _ _ _ _ _|exact Kd.R_nil _ _ _ _ _,by repeat (first|(with_reducible first|exact HB.out|apply below_alloc|apply pw_below_drewN|apply below_drew1)|exact HB.out)⟩
def ancepsref42_Blame.f (k:Nat) (l0:List (S50)):Option (List Int×Int):=(ancepsref42_Cores.f k l0).bind fun bt696=>(if bt696.2=0 then ((ancepsref42_Union.f k bt696.1 (l0.length:Int)).bind fun t700=>(some (t700,0))) else (some (([]:List Int),bt696.2)))
theorem ancepsref42_Blame.mono:∀ a0 k,LeO (ancepsref42_Blame.f k a0) (ancepsref42_Blame.f (k+1) a0):=by
 intro a0 k
 unfold ancepsref42_Blame.f
 repeat' first
   | (with_reducible exact ancepsref42_Cores.mono _ _)
   | (with_reducible exact ancepsref42_Union.mono _ _ _)
   | (with_reducible exact LeO.refl _)
   | (with_reducible exact LeO.none _)
   | (with_reducible refine LeO.ite ?_ ?_)
   | (with_reducible refine LeO.bind ?_ (fun _=>?_))
   | exact LeO.none _
   | refine LeO.ite ?_ ?_
   | refine LeO.bind ?_ (fun _=>?_)
set_option maxHeartbeats 8000000 in
set_option maxRecDepth 100000 in
theorem ancepsref42_Blame.calls (k:Nat) (A0:Option Addr) (c0:Nat) (l0:List (S50)) (r1:List Int) (r2:Int) (w:World) (hr0:Kd.C k50 w A0 l0.length l0) (hc0:l0.length≤c0) (h:ancepsref42_Blame.f k l0=some (r1,r2)) :
  Calls Try.prog 17 #[.slice A0 l0.length c0] w fun e w'=>∃ v0_:Value,e=.returned (.tuple #[v0_,.int .i64 r2])∧Kd.R (Kd.int .i64) 3 w' w.heap.size (fun _=>True) v0_ r1∧Below w.heap.size w w':=by
 have HR0:=zA hr0
 have HC0:=zA hc0
 clear hr0 hc0
 have HB:=zA (Below.refl w.heap.size w)
 have H:((ancepsref42_Cores.f k l0).bind fun bt696=>(if bt696.2=0 then ((ancepsref42_Union.f k bt696.1 (l0.length:Int)).bind fun t700=>(some (t700,0))) else (some (([]:List Int),bt696.2))))=some (r1,r2):=h
 clear h
 replace H:=Option.bind_eq_some_iff.mp H
 obtain ⟨⟨t696,t699⟩,A20,H⟩:=H
 replace H:(if t699=0 then ((ancepsref42_Union.f k t696 (l0.length:Int)).bind fun t700=>(some (t700,0))) else (some (([]:List Int),t699)))=some (r1,r2):=H
 have A2:=zA A20
 clear A20
 have HC3:=zA H
 clear H
 go_enter Try.func17,Try.ntmps17
 go_upto_if 12 with (first|((with_reducible refine gate_callee (f:=13) rfl ?_);refine goesL_ (some 8) rfl rfl Try.func13 zK rfl #[.slice A0 l0.length c0] rfl zM ?_;(with_reducible refine (ancepsref42_Cores.calls k _ _ l0 t696 t699 _ ?side1 ?side2 A2.out).mono ?_);(case side1=>repeat (first|exact HR0.out|(with_reducible refine Kd.C_alloc ?_ _)|(with_reducible refine Kd.C_drewN ?_ _)|(with_reducible refine Kd.C_drew ?_)));(case side2=>exact HC0.out);rintro e w4 ⟨v697,rfl,ho0,hb⟩;refine ⟨_,rfl,?_⟩;have HO698:=zA (Kd.N_lower (Kd.N_mono (ok':=fun k_=>True) ho0 (fun k_ hk_=>trivial)) (below_size zB));replace HB:=zA (below_step zB hb);(try clear hb);(try clear hb2);(try clear hk);(try clear hi);(try clear ho0)))
 (try simp only [Act.put,zi,zs,zt])
 have H:=HC3.out
 clear HC3
 by_cases c5:t699=0
 ·rw [if_pos c5] at H
  have c5b0:(t699 == 0)=true:=beq_iff_eq.mpr c5
  have c5b1:(t699 != 0)=false:=bne_eq_false_iff_eq.mpr c5
  clear c5
  (first|rw [c5b0]|(simp only [i64_w,i32_w];rw [c5b0])|skip)
  (try rw [c5b1])
  replace H:=Option.bind_eq_some_iff.mp H
  obtain ⟨t700,A60,H⟩:=H
  replace H:(some (t700,0))=some (r1,r2):=H
  have A6:=zA A60
  clear A60
  simp only [Option.some.injEq,Prod.mk.injEq] at H
  obtain ⟨rfl,rfl⟩:=H
  obtain ⟨Ao7,co7,eo7⟩:=Kd.N_slice HO698.out
  subst eo7
  go_wp2_with (first|((with_reducible refine gate_callee (f:=28) rfl ?_);refine goesL_ (some 17) rfl rfl Try.func28 zK rfl #[.slice Ao7 t696.length co7,.int .i64 (l0.length:Int)] rfl zM ?_;(with_reducible refine (ancepsref42_Union.calls k _ _ t696 (l0.length:Int) t700 _ ?side1 ?side2 A6.out).mono ?_);(case side1=>exact zC (Kd.N_reads' HO698.out).2.2);(case side2=>exact (Kd.N_reads' HO698.out).2.1);rintro e w8 ⟨v701,rfl,ho0,hb⟩;refine ⟨_,rfl,?_⟩;have HO702:=zA (Kd.R_lower ho0 (below_size zB));replace HO698:=zA (Kd.N_elder' (zN HO698) (Kd.R_base ho0) hb);replace HB:=zA (below_step zB hb);(try clear hb);(try clear hb2);(try clear hk);(try clear hi);(try clear ho0)))
  go_ret2
  exact ⟨_,ze,by refine zr ?_;exact HO702.out,by repeat (first|(with_reducible first|exact HB.out|apply below_alloc|apply pw_below_drewN|apply below_drew1)|exact HB.out)⟩
 ·rw [if_neg c5] at H
  have c5b0:(t699 == 0)=false:=beq_eq_false_iff_ne.mpr c5
  have c5b1:(t699 != 0)=true:=bne_iff_ne.mpr c5
  (first|rw [c5b0]|(simp only [i64_w,i32_w];rw [c5b0])|skip)
  (try rw [c5b1])
  simp only [Option.some.injEq,Prod.mk.injEq] at H
  obtain ⟨rfl,rfl⟩:=H
  go_wp2
  go_ret2
  exact ⟨_,ze,by first|exact Kd.R_nil _ _ _ _ _|exact Kd.N_nil _ _ _ _ _|exact Kd.V_nil _ _ _ _ _|exact Kd.Q_nil _ _ _ _ _|exact Kd.S_nil _ _ _ _ _,by repeat (first|(with_reducible first|exact HB.out|apply below_alloc|apply pw_below_drewN|apply below_drew1)|exact HB.out)⟩
def ancepslaw42_ConflictCores.f (k:Nat) (l0:List (S50)):Option (Bool):=(ancepslaw42_awake.f k).bind fun t703=>(if t703=true then ((ancepsref42_Few.f k l0).bind fun t704=>(if t704=true then ((ancepslaw42_copied.f k l0).bind fun t705=>((conflict_Cores.f k t705).bind fun bt708=>((ancepsref42_Cores.f k l0).bind fun bt712=>((ancepslaw42_copied.f k l0).bind fun t716=>((conflict_Repairs.f k t716).bind fun bt719=>((ancepsref42_Repairs.f k l0).bind fun bt723=>((ancepslaw42_copied.f k l0).bind fun t727=>((conflict_Blame.f k t727).bind fun bt730=>((ancepsref42_Blame.f k l0).bind fun bt734=>(if bt708.2=bt712.2 then ((ancepsref42_Lists.f k bt708.1 bt712.1).bind fun t738=>(if t738=true then (if bt719.2=bt723.2 then ((ancepsref42_Lists.f k bt719.1 bt723.1).bind fun t739=>(if t739=true then (if bt730.2=bt734.2 then ((slices_Equal_int_int.f k bt730.1 bt734.1).bind fun t740=>(some t740)) else (none)) else (none))) else (none)) else (none))) else (none))))))))))) else ((ancepslaw42_awake.f k).bind fun t741=>(some t741)))) else ((ancepslaw42_awake.f k).bind fun t742=>(some t742)))
theorem ancepslaw42_ConflictCores.mono:∀ a0 k,LeO (ancepslaw42_ConflictCores.f k a0) (ancepslaw42_ConflictCores.f (k+1) a0):=by
 intro a0 k
 unfold ancepslaw42_ConflictCores.f
 repeat' first
   | (with_reducible exact ancepslaw42_awake.mono _)
   | (with_reducible exact ancepslaw42_copied.mono _ _)
   | (with_reducible exact ancepsref42_Blame.mono _ _)
   | (with_reducible exact ancepsref42_Cores.mono _ _)
   | (with_reducible exact ancepsref42_Few.mono _ _)
   | (with_reducible exact ancepsref42_Lists.mono _ _ _)
   | (with_reducible exact ancepsref42_Repairs.mono _ _)
   | (with_reducible exact conflict_Blame.mono _ _)
   | (with_reducible exact conflict_Cores.mono _ _)
   | (with_reducible exact conflict_Repairs.mono _ _)
   | (with_reducible exact slices_Equal_int_int.mono _ _ _)
   | (with_reducible exact LeO.refl _)
   | (with_reducible exact LeO.none _)
   | (with_reducible refine LeO.ite ?_ ?_)
   | (with_reducible refine LeO.bind ?_ (fun _=>?_))
   | exact LeO.none _
   | refine LeO.ite ?_ ?_
   | refine LeO.bind ?_ (fun _=>?_)
set_option maxHeartbeats 8000000 in
set_option maxRecDepth 100000 in
theorem ancepslaw42_ConflictCores.calls (k:Nat) (A0:Option Addr) (c0:Nat) (l0:List (S50)) (r:Bool) (w:World) (hr0:Kd.C k50 w A0 l0.length l0) (hc0:l0.length≤c0) (h:ancepslaw42_ConflictCores.f k l0=some r) :
  Calls Try.prog 3 #[.slice A0 l0.length c0] w fun e w'=>e=.returned (.bool r)∧Below w.heap.size w w':=by
 have HR0:=zA hr0
 have HC0:=zA hc0
 clear hr0 hc0
 have HB:=zA (Below.refl w.heap.size w)
 have H:((ancepslaw42_awake.f k).bind fun t703=>(if t703=true then ((ancepsref42_Few.f k l0).bind fun t704=>(if t704=true then ((ancepslaw42_copied.f k l0).bind fun t705=>((conflict_Cores.f k t705).bind fun bt708=>((ancepsref42_Cores.f k l0).bind fun bt712=>((ancepslaw42_copied.f k l0).bind fun t716=>((conflict_Repairs.f k t716).bind fun bt719=>((ancepsref42_Repairs.f k l0).bind fun bt723=>((ancepslaw42_copied.f k l0).bind fun t727=>((conflict_Blame.f k t727).bind fun bt730=>((ancepsref42_Blame.f k l0).bind fun bt734=>(if bt708.2=bt712.2 then ((ancepsref42_Lists.f k bt708.1 bt712.1).bind fun t738=>(if t738=true then (if bt719.2=bt723.2 then ((ancepsref42_Lists.f k bt719.1 bt723.1).bind fun t739=>(if t739=true then (if bt730.2=bt734.2 then ((slices_Equal_int_int.f k bt730.1 bt734.1).bind fun t740=>(some t740)) else (none)) else (none))) else (none)) else (none))) else (none))))))))))) else ((ancepslaw42_awake.f k).bind fun t741=>(some t741)))) else ((ancepslaw42_awake.f k).bind fun t742=>(some t742))))=some r:=h
 clear h
 replace H:=Option.bind_eq_some_iff.mp H
 obtain ⟨t703,A20,H⟩:=H
 replace H:(if t703=true then ((ancepsref42_Few.f k l0).bind fun t704=>(if t704=true then ((ancepslaw42_copied.f k l0).bind fun t705=>((conflict_Cores.f k t705).bind fun bt708=>((ancepsref42_Cores.f k l0).bind fun bt712=>((ancepslaw42_copied.f k l0).bind fun t716=>((conflict_Repairs.f k t716).bind fun bt719=>((ancepsref42_Repairs.f k l0).bind fun bt723=>((ancepslaw42_copied.f k l0).bind fun t727=>((conflict_Blame.f k t727).bind fun bt730=>((ancepsref42_Blame.f k l0).bind fun bt734=>(if bt708.2=bt712.2 then ((ancepsref42_Lists.f k bt708.1 bt712.1).bind fun t738=>(if t738=true then (if bt719.2=bt723.2 then ((ancepsref42_Lists.f k bt719.1 bt723.1).bind fun t739=>(if t739=true then (if bt730.2=bt734.2 then ((slices_Equal_int_int.f k bt730.1 bt734.1).bind fun t740=>(some t740)) else (none)) else (none))) else (none)) else (none))) else (none))))))))))) else ((ancepslaw42_awake.f k).bind fun t741=>(some t741)))) else ((ancepslaw42_awake.f k).bind fun t742=>(some t742)))=some r:=H
 have A2:=zA A20
 clear A20
 by_cases c3:t703=true
 ·subst c3
  have H1:((ancepsref42_Few.f k l0).bind fun t704=>(if t704=true then ((ancepslaw42_copied.f k l0).bind fun t705=>((conflict_Cores.f k t705).bind fun bt708=>((ancepsref42_Cores.f k l0).bind fun bt712=>((ancepslaw42_copied.f k l0).bind fun t716=>((conflict_Repairs.f k t716).bind fun bt719=>((ancepsref42_Repairs.f k l0).bind fun bt723=>((ancepslaw42_copied.f k l0).bind fun t727=>((conflict_Blame.f k t727).bind fun bt730=>((ancepsref42_Blame.f k l0).bind fun bt734=>(if bt708.2=bt712.2 then ((ancepsref42_Lists.f k bt708.1 bt712.1).bind fun t738=>(if t738=true then (if bt719.2=bt723.2 then ((ancepsref42_Lists.f k bt719.1 bt723.1).bind fun t739=>(if t739=true then (if bt730.2=bt734.2 then ((slices_Equal_int_int.f k bt730.1 bt734.1).bind fun t740=>(some t740)) else (none)) else (none))) else (none)) else (none))) else (none))))))))))) else ((ancepslaw42_awake.f k).bind fun t741=>(some t741))))=some r:=by rw [if_pos rfl] at H;exact H
  clear H
  have H:=H1
  clear H1
  replace H:=Option.bind_eq_some_iff.mp H
  obtain ⟨t704,A40,H⟩:=H
  replace H:(if t704=true then ((ancepslaw42_copied.f k l0).bind fun t705=>((conflict_Cores.f k t705).bind fun bt708=>((ancepsref42_Cores.f k l0).bind fun bt712=>((ancepslaw42_copied.f k l0).bind fun t716=>((conflict_Repairs.f k t716).bind fun bt719=>((ancepsref42_Repairs.f k l0).bind fun bt723=>((ancepslaw42_copied.f k l0).bind fun t727=>((conflict_Blame.f k t727).bind fun bt730=>((ancepsref42_Blame.f k l0).bind fun bt734=>(if bt708.2=bt712.2 then ((ancepsref42_Lists.f k bt708.1 bt712.1).bind fun t738=>(if t738=true then (if bt719.2=bt723.2 then ((ancepsref42_Lists.f k bt719.1 bt723.1).bind fun t739=>(if t739=true then (if bt730.2=bt734.2 then ((slices_Equal_int_int.f k bt730.1 bt734.1).bind fun t740=>(some t740)) else (none)) else (none))) else (none)) else (none))) else (none))))))))))) else ((ancepslaw42_awake.f k).bind fun t741=>(some t741)))=some r:=H
  have A4:=zA A40
  clear A40
  have HC5:=zA H
  clear H
  go_enter Try.func3,Try.ntmps3
  go_upto_if 21 with (first|((with_reducible refine gate_callee (f:=9) rfl ?_);refine goesL_ (some 15) rfl rfl Try.func9 zK rfl #[] rfl zM ?_;(with_reducible refine (ancepslaw42_awake.calls k  true _ A2.out).mono ?_);rintro e w6 ⟨rfl,hb⟩;refine ⟨_,rfl,?_⟩;replace HB:=zA (below_step zB hb);(try clear hb);(try clear hb2);(try clear hk);(try clear hi))|(go_at_call 10;(with_reducible refine (ancepsref42_Few.calls k _ _ l0 t704 _ ?side1 ?side2 A4.out).mono ?_);(case side1=>exact zC (Kd.C_below HR0.out HB.out));(case side2=>exact HC0.out);rintro e w7 ⟨rfl,hb⟩;replace HB:=zA (below_step zB hb);(try clear hb);(try clear hb2);(try clear hk);(try clear hi)))
  (try simp only [Act.put,zi,zs,zt])
  have H:=HC5.out
  clear HC5
  by_cases c8:t704=true
  ·subst c8
   have H1:((ancepslaw42_copied.f k l0).bind fun t705=>((conflict_Cores.f k t705).bind fun bt708=>((ancepsref42_Cores.f k l0).bind fun bt712=>((ancepslaw42_copied.f k l0).bind fun t716=>((conflict_Repairs.f k t716).bind fun bt719=>((ancepsref42_Repairs.f k l0).bind fun bt723=>((ancepslaw42_copied.f k l0).bind fun t727=>((conflict_Blame.f k t727).bind fun bt730=>((ancepsref42_Blame.f k l0).bind fun bt734=>(if bt708.2=bt712.2 then ((ancepsref42_Lists.f k bt708.1 bt712.1).bind fun t738=>(if t738=true then (if bt719.2=bt723.2 then ((ancepsref42_Lists.f k bt719.1 bt723.1).bind fun t739=>(if t739=true then (if bt730.2=bt734.2 then ((slices_Equal_int_int.f k bt730.1 bt734.1).bind fun t740=>(some t740)) else (none)) else (none))) else (none)) else (none))) else (none)))))))))))=some r:=by rw [if_pos rfl] at H;exact H
   clear H
   have H:=H1
   clear H1
   replace H:=Option.bind_eq_some_iff.mp H
   obtain ⟨t705,A90,H⟩:=H
   replace H:((conflict_Cores.f k t705).bind fun bt708=>((ancepsref42_Cores.f k l0).bind fun bt712=>((ancepslaw42_copied.f k l0).bind fun t716=>((conflict_Repairs.f k t716).bind fun bt719=>((ancepsref42_Repairs.f k l0).bind fun bt723=>((ancepslaw42_copied.f k l0).bind fun t727=>((conflict_Blame.f k t727).bind fun bt730=>((ancepsref42_Blame.f k l0).bind fun bt734=>(if bt708.2=bt712.2 then ((ancepsref42_Lists.f k bt708.1 bt712.1).bind fun t738=>(if t738=true then (if bt719.2=bt723.2 then ((ancepsref42_Lists.f k bt719.1 bt723.1).bind fun t739=>(if t739=true then (if bt730.2=bt734.2 then ((slices_Equal_int_int.f k bt730.1 bt734.1).bind fun t740=>(some t740)) else (none)) else (none))) else (none)) else (none))) else (none))))))))))=some r:=H
   have A9:=zA A90
   clear A90
   replace H:=Option.bind_eq_some_iff.mp H
   obtain ⟨⟨t708,t711⟩,A100,H⟩:=H
   replace H:((ancepsref42_Cores.f k l0).bind fun bt712=>((ancepslaw42_copied.f k l0).bind fun t716=>((conflict_Repairs.f k t716).bind fun bt719=>((ancepsref42_Repairs.f k l0).bind fun bt723=>((ancepslaw42_copied.f k l0).bind fun t727=>((conflict_Blame.f k t727).bind fun bt730=>((ancepsref42_Blame.f k l0).bind fun bt734=>(if t711=bt712.2 then ((ancepsref42_Lists.f k t708 bt712.1).bind fun t738=>(if t738=true then (if bt719.2=bt723.2 then ((ancepsref42_Lists.f k bt719.1 bt723.1).bind fun t739=>(if t739=true then (if bt730.2=bt734.2 then ((slices_Equal_int_int.f k bt730.1 bt734.1).bind fun t740=>(some t740)) else (none)) else (none))) else (none)) else (none))) else (none)))))))))=some r:=H
   have A10:=zA A100
   clear A100
   replace H:=Option.bind_eq_some_iff.mp H
   obtain ⟨⟨t712,t715⟩,A110,H⟩:=H
   replace H:((ancepslaw42_copied.f k l0).bind fun t716=>((conflict_Repairs.f k t716).bind fun bt719=>((ancepsref42_Repairs.f k l0).bind fun bt723=>((ancepslaw42_copied.f k l0).bind fun t727=>((conflict_Blame.f k t727).bind fun bt730=>((ancepsref42_Blame.f k l0).bind fun bt734=>(if t711=t715 then ((ancepsref42_Lists.f k t708 t712).bind fun t738=>(if t738=true then (if bt719.2=bt723.2 then ((ancepsref42_Lists.f k bt719.1 bt723.1).bind fun t739=>(if t739=true then (if bt730.2=bt734.2 then ((slices_Equal_int_int.f k bt730.1 bt734.1).bind fun t740=>(some t740)) else (none)) else (none))) else (none)) else (none))) else (none))))))))=some r:=H
   have A11:=zA A110
   clear A110
   replace H:=Option.bind_eq_some_iff.mp H
   obtain ⟨t716,A120,H⟩:=H
   replace H:((conflict_Repairs.f k t716).bind fun bt719=>((ancepsref42_Repairs.f k l0).bind fun bt723=>((ancepslaw42_copied.f k l0).bind fun t727=>((conflict_Blame.f k t727).bind fun bt730=>((ancepsref42_Blame.f k l0).bind fun bt734=>(if t711=t715 then ((ancepsref42_Lists.f k t708 t712).bind fun t738=>(if t738=true then (if bt719.2=bt723.2 then ((ancepsref42_Lists.f k bt719.1 bt723.1).bind fun t739=>(if t739=true then (if bt730.2=bt734.2 then ((slices_Equal_int_int.f k bt730.1 bt734.1).bind fun t740=>(some t740)) else (none)) else (none))) else (none)) else (none))) else (none)))))))=some r:=H
   have A12:=zA A120
   clear A120
   replace H:=Option.bind_eq_some_iff.mp H
   obtain ⟨⟨t719,t722⟩,A130,H⟩:=H
   replace H:((ancepsref42_Repairs.f k l0).bind fun bt723=>((ancepslaw42_copied.f k l0).bind fun t727=>((conflict_Blame.f k t727).bind fun bt730=>((ancepsref42_Blame.f k l0).bind fun bt734=>(if t711=t715 then ((ancepsref42_Lists.f k t708 t712).bind fun t738=>(if t738=true then (if t722=bt723.2 then ((ancepsref42_Lists.f k t719 bt723.1).bind fun t739=>(if t739=true then (if bt730.2=bt734.2 then ((slices_Equal_int_int.f k bt730.1 bt734.1).bind fun t740=>(some t740)) else (none)) else (none))) else (none)) else (none))) else (none))))))=some r:=H
   have A13:=zA A130
   clear A130
   replace H:=Option.bind_eq_some_iff.mp H
   obtain ⟨⟨t723,t726⟩,A140,H⟩:=H
   replace H:((ancepslaw42_copied.f k l0).bind fun t727=>((conflict_Blame.f k t727).bind fun bt730=>((ancepsref42_Blame.f k l0).bind fun bt734=>(if t711=t715 then ((ancepsref42_Lists.f k t708 t712).bind fun t738=>(if t738=true then (if t722=t726 then ((ancepsref42_Lists.f k t719 t723).bind fun t739=>(if t739=true then (if bt730.2=bt734.2 then ((slices_Equal_int_int.f k bt730.1 bt734.1).bind fun t740=>(some t740)) else (none)) else (none))) else (none)) else (none))) else (none)))))=some r:=H
   have A14:=zA A140
   clear A140
   replace H:=Option.bind_eq_some_iff.mp H
   obtain ⟨t727,A150,H⟩:=H
   replace H:((conflict_Blame.f k t727).bind fun bt730=>((ancepsref42_Blame.f k l0).bind fun bt734=>(if t711=t715 then ((ancepsref42_Lists.f k t708 t712).bind fun t738=>(if t738=true then (if t722=t726 then ((ancepsref42_Lists.f k t719 t723).bind fun t739=>(if t739=true then (if bt730.2=bt734.2 then ((slices_Equal_int_int.f k bt730.1 bt734.1).bind fun t740=>(some t740)) else (none)) else (none))) else (none)) else (none))) else (none))))=some r:=H
   have A15:=zA A150
   clear A150
   replace H:=Option.bind_eq_some_iff.mp H
   obtain ⟨⟨t730,t731⟩,A160,H⟩:=H
   replace H:((ancepsref42_Blame.f k l0).bind fun bt734=>(if t711=t715 then ((ancepsref42_Lists.f k t708 t712).bind fun t738=>(if t738=true then (if t722=t726 then ((ancepsref42_Lists.f k t719 t723).bind fun t739=>(if t739=true then (if t731=bt734.2 then ((slices_Equal_int_int.f k t730 bt734.1).bind fun t740=>(some t740)) else (none)) else (none))) else (none)) else (none))) else (none)))=some r:=H
   have A16:=zA A160
   clear A160
   replace H:=Option.bind_eq_some_iff.mp H
   obtain ⟨⟨t734,t735⟩,A170,H⟩:=H
   replace H:(if t711=t715 then ((ancepsref42_Lists.f k t708 t712).bind fun t738=>(if t738=true then (if t722=t726 then ((ancepsref42_Lists.f k t719 t723).bind fun t739=>(if t739=true then (if t731=t735 then ((slices_Equal_int_int.f k t730 t734).bind fun t740=>(some t740)) else (none)) else (none))) else (none)) else (none))) else (none))=some r:=H
   have A17:=zA A170
   clear A170
   by_cases c18:t711=t715
   ·rw [if_pos c18] at H
    have c18b0:(t711 == t715)=true:=beq_iff_eq.mpr c18
    have c18b1:(t711 != t715)=false:=bne_eq_false_iff_eq.mpr c18
    clear c18
    (first|rw [c18b0]|(simp only [i64_w,i32_w];rw [c18b0])|skip)
    (try rw [c18b1])
    replace H:=Option.bind_eq_some_iff.mp H
    obtain ⟨t738,A190,H⟩:=H
    replace H:(if t738=true then (if t722=t726 then ((ancepsref42_Lists.f k t719 t723).bind fun t739=>(if t739=true then (if t731=t735 then ((slices_Equal_int_int.f k t730 t734).bind fun t740=>(some t740)) else (none)) else (none))) else (none)) else (none))=some r:=H
    have A19:=zA A190
    clear A190
    by_cases c20:t738=true
    ·subst c20
     have H1:(if t722=t726 then ((ancepsref42_Lists.f k t719 t723).bind fun t739=>(if t739=true then (if t731=t735 then ((slices_Equal_int_int.f k t730 t734).bind fun t740=>(some t740)) else (none)) else (none))) else (none))=some r:=by rw [if_pos rfl] at H;exact H
     clear H
     have H:=H1
     clear H1
     by_cases c21:t722=t726
     ·rw [if_pos c21] at H
      have c21b0:(t722 == t726)=true:=beq_iff_eq.mpr c21
      have c21b1:(t722 != t726)=false:=bne_eq_false_iff_eq.mpr c21
      clear c21
      replace H:=Option.bind_eq_some_iff.mp H
      obtain ⟨t739,A220,H⟩:=H
      replace H:(if t739=true then (if t731=t735 then ((slices_Equal_int_int.f k t730 t734).bind fun t740=>(some t740)) else (none)) else (none))=some r:=H
      have A22:=zA A220
      clear A220
      by_cases c23:t739=true
      ·subst c23
       have H1:(if t731=t735 then ((slices_Equal_int_int.f k t730 t734).bind fun t740=>(some t740)) else (none))=some r:=by rw [if_pos rfl] at H;exact H
       clear H
       have H:=H1
       clear H1
       by_cases c24:t731=t735
       ·rw [if_pos c24] at H
        have c24b0:(t731 == t735)=true:=beq_iff_eq.mpr c24
        have c24b1:(t731 != t735)=false:=bne_eq_false_iff_eq.mpr c24
        clear c24
        replace H:=Option.bind_eq_some_iff.mp H
        obtain ⟨t740,A250,H⟩:=H
        replace H:(some t740)=some r:=H
        have A25:=zA A250
        clear A250
        obtain rfl:=Option.some.inj H
        go_wp2_with (first|((with_reducible refine gate_callee (f:=12) rfl ?_);refine goesL_ (some 25) rfl rfl Try.func12 zK rfl #[.slice A0 l0.length c0] rfl zM ?_;(with_reducible refine (ancepslaw42_copied.calls k _ _ l0 t705 _ ?side1 ?side2 A9.out).mono ?_);(case side1=>exact zC (Kd.C_below HR0.out HB.out));(case side2=>exact HC0.out);rintro e w26 ⟨v706,rfl,ho0,hb⟩;refine ⟨_,rfl,?_⟩;have HO707:=zA (Kd.N_lower (Kd.N_mono (ok':=fun k_=>True) (Kd.S_N (Kd.S_bound ho0)) (fun k_ hk_=>trivial)) (below_size zB));replace HB:=zA (below_step zB hb);(try clear hb);(try clear hb2);(try clear hk);(try clear hi);(try clear ho0);obtain ⟨Ao27,co27,eo27⟩:=Kd.N_slice HO707.out;subst eo27)|((with_reducible refine gate_callee (f:=11) rfl ?_);refine goesL_ (some 26) rfl rfl Try.func11 zK rfl #[.slice Ao27 t705.length co27] rfl zM ?_;(with_reducible refine (conflict_Cores.calls k _ _ t705 t708 t711 _ ?side1 ?side2 A10.out).mono ?_);(case side1=>exact zC (Kd.N_reads' HO707.out).2.2);(case side2=>exact (Kd.N_reads' HO707.out).2.1);rintro e w28 ⟨v709,rfl,ho0,hb⟩;refine ⟨_,rfl,?_⟩;have HO710:=zA (Kd.N_lower (Kd.N_mono (ok':=fun k_=>some k_≠(.slice Ao27 t705.length co27:Value).ownBlock) ho0 (fun k_ hk_=>(Kd.fresh' (Kd.N_lt (zN HO707)) k_ hk_))) (below_size zB));replace HO707:=zA (Kd.N_elder' (zN HO707) (Kd.N_base ho0) hb);replace HB:=zA (below_step zB hb);(try clear hb);(try clear hb2);(try clear hk);(try clear hi);(try clear ho0))|((with_reducible refine gate_callee (f:=13) rfl ?_);refine goesL_ (some 31) rfl rfl Try.func13 zK rfl #[.slice A0 l0.length c0] rfl zM ?_;(with_reducible refine (ancepsref42_Cores.calls k _ _ l0 t712 t715 _ ?side1 ?side2 A11.out).mono ?_);(case side1=>exact zC (Kd.C_below HR0.out HB.out));(case side2=>exact HC0.out);rintro e w29 ⟨v713,rfl,ho0,hb⟩;refine ⟨_,rfl,?_⟩;have HO714:=zA (Kd.N_lower (Kd.N_mono (ok':=fun k_=>some k_≠(.slice Ao27 t705.length co27:Value).ownBlock∧some k_≠(v709:Value).ownBlock) ho0 (fun k_ hk_=>⟨(Kd.fresh' (Kd.N_lt (zN HO707)) k_ hk_),(Kd.fresh' (Kd.N_lt (zN HO710)) k_ hk_)⟩)) (below_size zB));replace HO707:=zA (Kd.N_elder' (zN HO707) (Kd.N_base ho0) hb);replace HO710:=zA (Kd.N_elder' (zN HO710) (Kd.N_base ho0) hb);replace HB:=zA (below_step zB hb);(try clear hb);(try clear hb2);(try clear hk);(try clear hi);(try clear ho0))|((with_reducible refine gate_callee (f:=12) rfl ?_);refine goesL_ (some 36) rfl rfl Try.func12 zK rfl #[.slice A0 l0.length c0] rfl zM ?_;(with_reducible refine (ancepslaw42_copied.calls k _ _ l0 t716 _ ?side1 ?side2 A12.out).mono ?_);(case side1=>exact zC (Kd.C_below HR0.out HB.out));(case side2=>exact HC0.out);rintro e w30 ⟨v717,rfl,ho0,hb⟩;refine ⟨_,rfl,?_⟩;have HO718:=zA (Kd.N_lower (Kd.N_mono (ok':=fun k_=>some k_≠(.slice Ao27 t705.length co27:Value).ownBlock∧some k_≠(v709:Value).ownBlock∧some k_≠(v713:Value).ownBlock) (Kd.S_N (Kd.S_bound ho0)) (fun k_ hk_=>⟨(Kd.fresh' (Kd.N_lt (zN HO707)) k_ hk_.2.1),(Kd.fresh' (Kd.N_lt (zN HO710)) k_ hk_.2.1),(Kd.fresh' (Kd.N_lt (zN HO714)) k_ hk_.2.1)⟩)) (below_size zB));replace HO707:=zA (Kd.N_elder' (zN HO707) (Kd.N_base (Kd.S_N ho0)) hb);replace HO710:=zA (Kd.N_elder' (zN HO710) (Kd.N_base (Kd.S_N ho0)) hb);replace HO714:=zA (Kd.N_elder' (zN HO714) (Kd.N_base (Kd.S_N ho0)) hb);replace HB:=zA (below_step zB hb);(try clear hb);(try clear hb2);(try clear hk);(try clear hi);(try clear ho0);obtain ⟨Ao31,co31,eo31⟩:=Kd.N_slice HO718.out;subst eo31)|((with_reducible refine gate_callee (f:=14) rfl ?_);refine goesL_ (some 37) rfl rfl Try.func14 zK rfl #[.slice Ao31 t716.length co31] rfl zM ?_;(with_reducible refine (conflict_Repairs.calls k _ _ t716 t719 t722 _ ?side1 ?side2 A13.out).mono ?_);(case side1=>exact zC (Kd.N_reads' HO718.out).2.2);(case side2=>exact (Kd.N_reads' HO718.out).2.1);rintro e w32 ⟨v720,rfl,ho0,hb⟩;refine ⟨_,rfl,?_⟩;have HO721:=zA (Kd.N_lower (Kd.N_mono (ok':=fun k_=>some k_≠(.slice Ao27 t705.length co27:Value).ownBlock∧some k_≠(v709:Value).ownBlock∧some k_≠(v713:Value).ownBlock∧some k_≠(.slice Ao31 t716.length co31:Value).ownBlock) ho0 (fun k_ hk_=>⟨(Kd.fresh' (Kd.N_lt (zN HO707)) k_ hk_),(Kd.fresh' (Kd.N_lt (zN HO710)) k_ hk_),(Kd.fresh' (Kd.N_lt (zN HO714)) k_ hk_),(Kd.fresh' (Kd.N_lt (zN HO718)) k_ hk_)⟩)) (below_size zB));replace HO707:=zA (Kd.N_elder' (zN HO707) (Kd.N_base ho0) hb);replace HO710:=zA (Kd.N_elder' (zN HO710) (Kd.N_base ho0) hb);replace HO714:=zA (Kd.N_elder' (zN HO714) (Kd.N_base ho0) hb);replace HO718:=zA (Kd.N_elder' (zN HO718) (Kd.N_base ho0) hb);replace HB:=zA (below_step zB hb);(try clear hb);(try clear hb2);(try clear hk);(try clear hi);(try clear ho0))|((with_reducible refine gate_callee (f:=15) rfl ?_);refine goesL_ (some 42) rfl rfl Try.func15 zK rfl #[.slice A0 l0.length c0] rfl zM ?_;(with_reducible refine (ancepsref42_Repairs.calls k _ _ l0 t723 t726 _ ?side1 ?side2 A14.out).mono ?_);(case side1=>exact zC (Kd.C_below HR0.out HB.out));(case side2=>exact HC0.out);rintro e w33 ⟨v724,rfl,ho0,hb⟩;refine ⟨_,rfl,?_⟩;have HO725:=zA (Kd.N_lower (Kd.N_mono (ok':=fun k_=>some k_≠(.slice Ao27 t705.length co27:Value).ownBlock∧some k_≠(v709:Value).ownBlock∧some k_≠(v713:Value).ownBlock∧some k_≠(.slice Ao31 t716.length co31:Value).ownBlock∧some k_≠(v720:Value).ownBlock) ho0 (fun k_ hk_=>⟨(Kd.fresh' (Kd.N_lt (zN HO707)) k_ hk_),(Kd.fresh' (Kd.N_lt (zN HO710)) k_ hk_),(Kd.fresh' (Kd.N_lt (zN HO714)) k_ hk_),(Kd.fresh' (Kd.N_lt (zN HO718)) k_ hk_),(Kd.fresh' (Kd.N_lt (zN HO721)) k_ hk_)⟩)) (below_size zB));replace HO707:=zA (Kd.N_elder' (zN HO707) (Kd.N_base ho0) hb);replace HO710:=zA (Kd.N_elder' (zN HO710) (Kd.N_base ho0) hb);replace HO714:=zA (Kd.N_elder' (zN HO714) (Kd.N_base ho0) hb);replace HO718:=zA (Kd.N_elder' (zN HO718) (Kd.N_base ho0) hb);replace HO721:=zA (Kd.N_elder' (zN HO721) (Kd.N_base ho0) hb);replace HB:=zA (below_step zB hb);(try clear hb);(try clear hb2);(try clear hk);(try clear hi);(try clear ho0))|((with_reducible refine gate_callee (f:=12) rfl ?_);refine goesL_ (some 47) rfl rfl Try.func12 zK rfl #[.slice A0 l0.length c0] rfl zM ?_;(with_reducible refine (ancepslaw42_copied.calls k _ _ l0 t727 _ ?side1 ?side2 A15.out).mono ?_);(case side1=>exact zC (Kd.C_below HR0.out HB.out));(case side2=>exact HC0.out);rintro e w34 ⟨v728,rfl,ho0,hb⟩;refine ⟨_,rfl,?_⟩;have HO729:=zA (Kd.N_lower (Kd.N_mono (ok':=fun k_=>some k_≠(.slice Ao27 t705.length co27:Value).ownBlock∧some k_≠(v709:Value).ownBlock∧some k_≠(v713:Value).ownBlock∧some k_≠(.slice Ao31 t716.length co31:Value).ownBlock∧some k_≠(v720:Value).ownBlock∧some k_≠(v724:Value).ownBlock) (Kd.S_N (Kd.S_bound ho0)) (fun k_ hk_=>⟨(Kd.fresh' (Kd.N_lt (zN HO707)) k_ hk_.2.1),(Kd.fresh' (Kd.N_lt (zN HO710)) k_ hk_.2.1),(Kd.fresh' (Kd.N_lt (zN HO714)) k_ hk_.2.1),(Kd.fresh' (Kd.N_lt (zN HO718)) k_ hk_.2.1),(Kd.fresh' (Kd.N_lt (zN HO721)) k_ hk_.2.1),(Kd.fresh' (Kd.N_lt (zN HO725)) k_ hk_.2.1)⟩)) (below_size zB));replace HO707:=zA (Kd.N_elder' (zN HO707) (Kd.N_base (Kd.S_N ho0)) hb);replace HO710:=zA (Kd.N_elder' (zN HO710) (Kd.N_base (Kd.S_N ho0)) hb);replace HO714:=zA (Kd.N_elder' (zN HO714) (Kd.N_base (Kd.S_N ho0)) hb);replace HO718:=zA (Kd.N_elder' (zN HO718) (Kd.N_base (Kd.S_N ho0)) hb);replace HO721:=zA (Kd.N_elder' (zN HO721) (Kd.N_base (Kd.S_N ho0)) hb);replace HO725:=zA (Kd.N_elder' (zN HO725) (Kd.N_base (Kd.S_N ho0)) hb);replace HB:=zA (below_step zB hb);(try clear hb);(try clear hb2);(try clear hk);(try clear hi);(try clear ho0);obtain ⟨Ao35,co35,eo35⟩:=Kd.N_slice HO729.out;subst eo35)|((with_reducible refine gate_callee (f:=16) rfl ?_);refine goesL_ (some 48) rfl rfl Try.func16 zK rfl #[.slice Ao35 t727.length co35] rfl zM ?_;(with_reducible refine (conflict_Blame.calls k _ _ t727 t730 t731 _ ?side1 ?side2 A16.out).mono ?_);(case side1=>exact zC (Kd.N_reads' HO729.out).2.2);(case side2=>exact (Kd.N_reads' HO729.out).2.1);rintro e w36 ⟨v732,rfl,ho0,hb⟩;refine ⟨_,rfl,?_⟩;have HO733:=zA (Kd.R_lower ho0 (below_size zB));replace HO707:=zA (Kd.N_elder' (zN HO707) (Kd.R_base ho0) hb);replace HO710:=zA (Kd.N_elder' (zN HO710) (Kd.R_base ho0) hb);replace HO714:=zA (Kd.N_elder' (zN HO714) (Kd.R_base ho0) hb);replace HO718:=zA (Kd.N_elder' (zN HO718) (Kd.R_base ho0) hb);replace HO721:=zA (Kd.N_elder' (zN HO721) (Kd.R_base ho0) hb);replace HO725:=zA (Kd.N_elder' (zN HO725) (Kd.R_base ho0) hb);replace HO729:=zA (Kd.N_elder' (zN HO729) (Kd.R_base ho0) hb);replace HB:=zA (below_step zB hb);(try clear hb);(try clear hb2);(try clear hk);(try clear hi);(try clear ho0))|((with_reducible refine gate_callee (f:=17) rfl ?_);refine goesL_ (some 53) rfl rfl Try.func17 zK rfl #[.slice A0 l0.length c0] rfl zM ?_;(with_reducible refine (ancepsref42_Blame.calls k _ _ l0 t734 t735 _ ?side1 ?side2 A17.out).mono ?_);(case side1=>exact zC (Kd.C_below HR0.out HB.out));(case side2=>exact HC0.out);rintro e w37 ⟨v736,rfl,ho0,hb⟩;refine ⟨_,rfl,?_⟩;have HO737:=zA (Kd.R_lower (Kd.R_new' ho0 (Kd.R_lt (zR HO733))) (below_size zB));replace HO707:=zA (Kd.N_elder' (zN HO707) (Kd.R_base ho0) hb);replace HO710:=zA (Kd.N_elder' (zN HO710) (Kd.R_base ho0) hb);replace HO714:=zA (Kd.N_elder' (zN HO714) (Kd.R_base ho0) hb);replace HO718:=zA (Kd.N_elder' (zN HO718) (Kd.R_base ho0) hb);replace HO721:=zA (Kd.N_elder' (zN HO721) (Kd.R_base ho0) hb);replace HO725:=zA (Kd.N_elder' (zN HO725) (Kd.R_base ho0) hb);replace HO729:=zA (Kd.N_elder' (zN HO729) (Kd.R_base ho0) hb);replace HO733:=zA (Kd.R_elder' (zR HO733) (Kd.R_base ho0) hb);replace HB:=zA (below_step zB hb);(try clear hb);(try clear hb2);(try clear hk);(try clear hi);(try clear ho0);obtain ⟨Ao38,co38,eo38⟩:=Kd.N_slice HO710.out;subst eo38;obtain ⟨Ao39,co39,eo39⟩:=Kd.N_slice HO714.out;subst eo39)|(go_at_call 18;(with_reducible refine (ancepsref42_Lists.calls k _ _ t708 _ _ t712 true _ ?side1 ?side2 ?side3 ?side4 A19.out).mono ?_);(case side1=>exact zC (Kd.N_reads' HO710.out).2.2);(case side2=>exact (Kd.N_reads' HO710.out).2.1);(case side3=>exact zC (Kd.N_reads' HO714.out).2.2);(case side4=>exact (Kd.N_reads' HO714.out).2.1);rintro e w' ⟨rfl,⟨nd,rfl⟩⟩;obtain ⟨Ao40,co40,eo40⟩:=Kd.N_slice HO721.out;subst eo40;obtain ⟨Ao41,co41,eo41⟩:=Kd.N_slice HO725.out;subst eo41)|(go_at_call 18;(with_reducible refine (ancepsref42_Lists.calls k _ _ t719 _ _ t723 true _ ?side1 ?side2 ?side3 ?side4 A22.out).mono ?_);(case side1=>exact zC (Kd.N_reads' HO721.out).2.2);(case side2=>exact (Kd.N_reads' HO721.out).2.1);(case side3=>exact zC (Kd.N_reads' HO725.out).2.2);(case side4=>exact (Kd.N_reads' HO725.out).2.1);rintro e w' ⟨rfl,⟨nd,rfl⟩⟩;obtain ⟨Ao42,co42,eo42⟩:=Kd.R_slice HO733.out;subst eo42;obtain ⟨Ao43,co43,eo43⟩:=Kd.R_slice HO737.out;subst eo43)|(go_at_call 19;(with_reducible refine (slices_Equal_int_int.calls k _ _ t730 _ _ t734 t740 _ ?side1 ?side2 ?side3 ?side4 A25.out).mono ?_);(case side1=>exact zC (Kd.R_reads' HO733.out).2.2);(case side2=>exact (Kd.R_reads' HO733.out).2.1);(case side3=>exact zC (Kd.R_reads' HO737.out).2.2);(case side4=>exact (Kd.R_reads' HO737.out).2.1);rintro e w' ⟨rfl,⟨nd,rfl⟩⟩))
        go_ret
        exact ⟨ze,by repeat (first|(with_reducible first|exact HB.out|apply below_alloc|apply pw_below_drewN|apply below_drew1)|exact HB.out)⟩
       ·rw [if_neg c24] at H
        exact absurd H (by simp)
      ·replace c23:=Bool.eq_false_iff.mpr c23
       subst c23
       have H1:(none)=some r:=by rw [if_neg (show ¬ (false=true) by decide)] at H;exact H
       clear H
       have H:=H1
       clear H1
       exact absurd H (by simp)
     ·rw [if_neg c21] at H
      exact absurd H (by simp)
    ·replace c20:=Bool.eq_false_iff.mpr c20
     subst c20
     have H1:(none)=some r:=by rw [if_neg (show ¬ (false=true) by decide)] at H;exact H
     clear H
     have H:=H1
     clear H1
     exact absurd H (by simp)
   ·rw [if_neg c18] at H
    exact absurd H (by simp)
  ·replace c8:=Bool.eq_false_iff.mpr c8
   subst c8
   have H1:((ancepslaw42_awake.f k).bind fun t741=>(some t741))=some r:=by rw [if_neg (show ¬ (false=true) by decide)] at H;exact H
   clear H
   have H:=H1
   clear H1
   replace H:=Option.bind_eq_some_iff.mp H
   obtain ⟨t741,A440,H⟩:=H
   replace H:(some t741)=some r:=H
   have A44:=zA A440
   clear A440
   obtain rfl:=Option.some.inj H
   go_wp2_with (first|((with_reducible refine gate_callee (f:=9) rfl ?_);refine goesL_ (some 22) rfl rfl Try.func9 zK rfl #[] rfl zM ?_;(with_reducible refine (ancepslaw42_awake.calls k  t741 _ A44.out).mono ?_);rintro e w45 ⟨rfl,hb⟩;refine ⟨_,rfl,?_⟩;replace HB:=zA (below_step zB hb);(try clear hb);(try clear hb2);(try clear hk);(try clear hi)))
   go_ret
   exact ⟨ze,by repeat (first|(with_reducible first|exact HB.out|apply below_alloc|apply pw_below_drewN|apply below_drew1)|exact HB.out)⟩
 ·replace c3:=Bool.eq_false_iff.mpr c3
  subst c3
  have H1:((ancepslaw42_awake.f k).bind fun t742=>(some t742))=some r:=by rw [if_neg (show ¬ (false=true) by decide)] at H;exact H
  clear H
  have H:=H1
  clear H1
  replace H:=Option.bind_eq_some_iff.mp H
  obtain ⟨t742,A460,H⟩:=H
  replace H:(some t742)=some r:=H
  have A46:=zA A460
  clear A460
  obtain rfl:=Option.some.inj H
  go_enter Try.func3,Try.ntmps3
  go_wp2_with (first|((with_reducible refine gate_callee (f:=9) rfl ?_);refine goesL_ (some 15) rfl rfl Try.func9 zK rfl #[] rfl zM ?_;(with_reducible refine (ancepslaw42_awake.calls k  false _ A2.out).mono ?_);rintro e w47 ⟨rfl,hb⟩;refine ⟨_,rfl,?_⟩;replace HB:=zA (below_step zB hb);(try clear hb);(try clear hb2);(try clear hk);(try clear hi))|((with_reducible refine gate_callee (f:=9) rfl ?_);refine goesL_ (some 22) rfl rfl Try.func9 zK rfl #[] rfl zM ?_;(with_reducible refine (ancepslaw42_awake.calls k  t742 _ A46.out).mono ?_);rintro e w48 ⟨rfl,hb⟩;refine ⟨_,rfl,?_⟩;replace HB:=zA (below_step zB hb);(try clear hb);(try clear hb2);(try clear hk);(try clear hi)))
  go_ret
  exact ⟨ze,by repeat (first|(with_reducible first|exact HB.out|apply below_alloc|apply pw_below_drewN|apply below_drew1)|exact HB.out)⟩
end Go.Proofs.Ytkjghablbeaioaa.S
