import Derived.Test.YtkjghablbeaioaaS0
import Derived.Test.YtkjghablbeaioaaS5
import Derived.Test.YtkjghablbeaioaaS6
import Derived.Test.YtkjghablbeaioaaS8
import Derived.Test.YtkjghablbeaioaaS9
import Derived.Test.YtkjghablbeaioaaS10
import Derived.Test.YtkjghablbeaioaaS11
import Derived.Test.YtkjghablbeaioaaS16
import Derived.Test.YtkjghablbeaioaaS18
namespace Go.Proofs.Ytkjghablbeaioaa.S
open Go.RowKit Go.Proofs.YtkjghablbeaioaaW.PrintWords Go.Proofs.YtkjghablbeaioaaW.PrintLast Go.Proofs.YtkjghablbeaioaaW.PrintMore
attribute [local go_sem] max2_int min2_int max_two min_two max_three min_three max_four min_four
set_option linter.unusedVariables false
set_option linter.unusedSimpArgs false
mutual
def ancepsref42_hits.l0:Nat→List Int→List (List Int)→Int→Option (Bool)
 | 0,_,_,_=>none
 | k+1,x0,x1,x5=>if x5<(x1.length:Int) then (ancepsref42_hits.l1 k x0 x1 x5 false 0) else (some true)
def ancepsref42_hits.l1:Nat→List Int→List (List Int)→Int→Bool→Int→Option (Bool)
 | 0,_,_,_,_,_=>none
 | k+1,x0,x1,x5,x6,x7=>if 0≤x5 then (if x5<(x1.length:Int) then (if x7<((rd_L1 x1 x5).length:Int) then (if x6=true then (ancepsref42_hits.l1 k x0 x1 x5 true (wrap64 (x7+1))) else (if 0≤x7 then ((ancepsref42_Has.f k x0 (rd (rd_L1 x1 x5) x7)).bind fun t803=>(ancepsref42_hits.l1 k x0 x1 x5 t803 (wrap64 (x7+1)))) else (none))) else (if x6=true then (ancepsref42_hits.l0 k x0 x1 (wrap64 (x5+1))) else (some false))) else (none)) else (none)
end
def ancepsref42_hits.f (k:Nat) (l0:List Int) (l1:List (List Int)):Option (Bool):=ancepsref42_hits.l0 k l0 l1 0
theorem ancepsref42_hits.mono_l:∀ k,(∀ y0 y1 y2,LeO (ancepsref42_hits.l0 k y0 y1 y2) (ancepsref42_hits.l0 (k+1) y0 y1 y2))∧(∀ y0 y1 y2 y3 y4,LeO (ancepsref42_hits.l1 k y0 y1 y2 y3 y4) (ancepsref42_hits.l1 (k+1) y0 y1 y2 y3 y4))
 | 0=>⟨fun _ _ _ r h=>by simp [ancepsref42_hits.l0] at h,fun _ _ _ _ _ r h=>by simp [ancepsref42_hits.l1] at h⟩
 | k+1=>by
  obtain ⟨ih0,ih1⟩:=ancepsref42_hits.mono_l k
  refine ⟨?_,?_⟩
  ·intro y0 y1 y2
   unfold ancepsref42_hits.l0
   repeat' first
   | (with_reducible exact ih0 _ _ _)
   | (with_reducible exact ih1 _ _ _ _ _)
   | (with_reducible exact ancepsref42_Has.mono _ _ _)
   | (with_reducible exact LeO.refl _)
   | (with_reducible exact LeO.none _)
   | (with_reducible refine LeO.ite ?_ ?_)
   | (with_reducible refine LeO.bind ?_ (fun _=>?_))
   | exact LeO.none _
   | refine LeO.ite ?_ ?_
   | refine LeO.bind ?_ (fun _=>?_)
  ·intro y0 y1 y2 y3 y4
   unfold ancepsref42_hits.l1
   repeat' first
   | (with_reducible exact ih0 _ _ _)
   | (with_reducible exact ih1 _ _ _ _ _)
   | (with_reducible exact ancepsref42_Has.mono _ _ _)
   | (with_reducible exact LeO.refl _)
   | (with_reducible exact LeO.none _)
   | (with_reducible refine LeO.ite ?_ ?_)
   | (with_reducible refine LeO.bind ?_ (fun _=>?_))
   | exact LeO.none _
   | refine LeO.ite ?_ ?_
   | refine LeO.bind ?_ (fun _=>?_)
theorem ancepsref42_hits.mono:∀ a0 a1 k,LeO (ancepsref42_hits.f k a0 a1) (ancepsref42_hits.f (k+1) a0 a1):=by
 intro a0 a1 k
 obtain ⟨ih0,ih1⟩:=ancepsref42_hits.mono_l k
 unfold ancepsref42_hits.f
 repeat' first
   | (with_reducible exact ih0 _ _ _)
   | (with_reducible exact ih1 _ _ _ _ _)
   | (with_reducible exact ancepsref42_Has.mono _ _ _)
   | (with_reducible exact LeO.refl _)
   | (with_reducible exact LeO.none _)
   | (with_reducible refine LeO.ite ?_ ?_)
   | (with_reducible refine LeO.bind ?_ (fun _=>?_))
   | exact LeO.none _
   | refine LeO.ite ?_ ?_
   | refine LeO.bind ?_ (fun _=>?_)
set_option maxHeartbeats 8000000 in
set_option maxRecDepth 100000 in
theorem ancepsref42_hits.calls (k:Nat) (A0:Option Addr) (c0:Nat) (l0:List Int) (A1:Option Addr) (c1:Nat) (l1:List (List Int)) (r:Bool) (w:World) (hr0:Kd.C (Kd.int .i64) w A0 l0.length l0) (hc0:l0.length≤c0) (hr1:Kd.C (Kd.slice 3 (Kd.int .i64)) w A1 l1.length l1) (hc1:l1.length≤c1) (h:ancepsref42_hits.f k l0 l1=some r) :
  Calls Try.prog 61 #[.slice A0 l0.length c0,.slice A1 l1.length c1] w fun e w'=>e=.returned (.bool r)∧Drawn0 w w':=by
 have hu30:=Try.underlying30
 have hu3:=Try.underlying3
 have HR0:=zA hr0
 have HC0:=zA hc0
 clear hr0 hc0
 have HR1:=zA hr1
 have HC1:=zA hc1
 clear hr1 hc1
 have H:(ancepsref42_hits.l0 k l0 l1 0)=some r:=h
 clear h
 have H':=zA H
 clear H
 go_enter Try.func61,Try.ntmps61
 go_wp2
 go_loopg [5] k (fun kq v5 w'=>∃ (x5_1:Int),v5=.int .i64 x5_1∧Aside0 (ancepsref42_hits.l0 kq l0 l1 x5_1=some r)∧Aside0 (kq≤k)∧Drawn0 w w')
 case atStart=>exact ⟨(0),zT,H',⟨Nat.le_refl _⟩,by repeat (first|exact Drawn0.refl _|apply Drawn0.step)⟩
 case round=>
  clear H'
  obtain ⟨x5_1,rfl,HA,HK1,⟨m1,rfl⟩⟩:=hrel
  cases gk with
  | zero=>exact absurd HA.out (by simp [ancepsref42_hits.l0])
  | succ k1=>
   have H:=HA.out
   clear HA
   simp only [ancepsref42_hits.l0] at H
   by_cases c3:x5_1<(l1.length:Int)
   ·rw [if_pos c3] at H
    have c3b0:decide (x5_1<(l1.length:Int))=true:=decide_eq_true c3
    clear c3
    have H':=zA H
    clear H
    go_wp2
    go_loopg [6,7] k1 (fun kq v6 v7 w'=>∃ (x6_2:Bool) (x7_2:Int),v6=.bool x6_2∧v7=.int .i64 x7_2∧Aside0 (ancepsref42_hits.l1 kq l0 l1 x5_1 x6_2 x7_2=some r)∧Aside0 (kq≤k1)∧Drawn0 w w')
    case atStart=>exact ⟨(false),(0),zT,zT,H',⟨Nat.le_refl _⟩,by repeat (first|exact Drawn0.refl _|apply Drawn0.step)⟩
    case round=>
     clear H'
     try clear c3
     try clear c3b0
     obtain ⟨x6_2,x7_2,rfl,rfl,HA,HK2,⟨m2,rfl⟩⟩:=hrel
     cases gk with
     | zero=>exact absurd HA.out (by simp [ancepsref42_hits.l1])
     | succ k2=>
      have H:=HA.out
      clear HA
      simp only [ancepsref42_hits.l1] at H
      by_cases c4:0≤x5_1
      ·rw [if_pos c4] at H
       have c4b0:decide (0≤x5_1)=true:=decide_eq_true c4
       clear c4
       by_cases c5:x5_1<(l1.length:Int)
       ·rw [if_pos c5] at H
        have c5b0:decide (x5_1<(l1.length:Int))=true:=decide_eq_true c5
        clear c5
        by_cases c6:x7_2<((rd_L1 l1 x5_1).length:Int)
        ·rw [if_pos c6] at H
         have c6b0:decide (x7_2<((rd_L1 l1 x5_1).length:Int))=true:=decide_eq_true c6
         clear c6
         by_cases c7:x6_2=true
         ·subst c7
          have H1:(ancepsref42_hits.l1 k2 l0 l1 x5_1 true (wrap64 (x7_2+1)))=some r:=by rw [if_pos rfl] at H;exact H
          clear H
          have H:=H1
          clear H1
          have H':=zA H
          clear H
          have p800:0≤(x5_1:Int):=of_decide_eq_true zh
          have q800:x5_1<(l1.length:Int):=of_decide_eq_true zh
          obtain ⟨ad800,A800_0,c800_0,e800,hx800_0,hl800_0,hi800_0⟩:=at_L1 HR1.out x5_1 p800 q800
          cases e800
          have HR800_0:=zA hi800_0
          have HC800_0:=zA hl800_0
          clear hi800_0 hl800_0
          replace p800:=eq_true p800
          replace q800:=eq_true q800
          go_wp2
          go_roundg k2
          case measure=>have:=HK1.out;have:=HK2.out;omega
          case rel=>exact ⟨(true),(wrap64 (x7_2+1)),zT,zT,H',⟨by have:=HK1.out;have:=HK2.out;omega⟩,by repeat (first|exact Drawn0.refl _|apply Drawn0.step)⟩
         ·replace c7:=Bool.eq_false_iff.mpr c7
          subst c7
          have H1:(if 0≤x7_2 then ((ancepsref42_Has.f k2 l0 (rd (rd_L1 l1 x5_1) x7_2)).bind fun t803=>(ancepsref42_hits.l1 k2 l0 l1 x5_1 t803 (wrap64 (x7_2+1)))) else (none))=some r:=by rw [if_neg (show ¬ (false=true) by decide)] at H;exact H
          clear H
          have H:=H1
          clear H1
          by_cases c8:0≤x7_2
          ·rw [if_pos c8] at H
           have c8b0:decide (0≤x7_2)=true:=decide_eq_true c8
           clear c8
           replace H:=Option.bind_eq_some_iff.mp H
           obtain ⟨t803,A90,H⟩:=H
           replace H:(ancepsref42_hits.l1 k2 l0 l1 x5_1 t803 (wrap64 (x7_2+1)))=some r:=H
           have A9:=zA A90
           clear A90
           have H':=zA H
           clear H
           have p800:0≤(x5_1:Int):=of_decide_eq_true zh
           have q800:x5_1<(l1.length:Int):=of_decide_eq_true zh
           obtain ⟨ad800,A800_0,c800_0,e800,hx800_0,hl800_0,hi800_0⟩:=at_L1 HR1.out x5_1 p800 q800
           cases e800
           have HR800_0:=zA hi800_0
           have HC800_0:=zA hl800_0
           clear hi800_0 hl800_0
           replace p800:=eq_true p800
           replace q800:=eq_true q800
           have p801:0≤(x5_1:Int):=of_decide_eq_true zh
           have q801:x5_1<(l1.length:Int):=of_decide_eq_true zh
           obtain ⟨ad801,A801_0,c801_0,e801,hx801_0,hl801_0,hi801_0⟩:=at_L1 HR1.out x5_1 p801 q801
           obtain rfl:ad800=ad801:=(by injection e801)
           have HR801_0:=zA hi801_0
           have HC801_0:=zA hl801_0
           clear hi801_0 hl801_0
           replace p801:=eq_true p801
           replace q801:=eq_true q801
           have ea_:=Option.some.inj (hx800_0.symm.trans hx801_0)
           injection ea_ with ea_ en_ ec_
           subst ea_
           subst ec_
           clear en_
           have p802:0≤(x7_2:Int):=of_decide_eq_true zh
           have q802:x7_2<((rd_L1 l1 x5_1).length:Int):=of_decide_eq_true zh
           obtain ⟨ad802,e802,hx802_0⟩:=Kd.at_int HR801_0.out x7_2 p802 q802
           cases e802
           replace p802:=eq_true p802
           replace q802:=eq_true q802
           go_wp2_with (first|(go_at_call 62;(with_reducible refine (ancepsref42_Has.calls k2 _ _ l0 (rd (rd_L1 l1 x5_1) x7_2) t803 _ ?side1 ?side2 A9.out).mono ?_);(case side1=>repeat (first|exact HR0.out|(with_reducible refine Kd.C_alloc ?_ _)|(with_reducible refine Kd.C_drewN ?_ _)|(with_reducible refine Kd.C_drew ?_)));(case side2=>exact HC0.out);rintro e w' ⟨rfl,⟨nd,rfl⟩⟩))
           go_roundg k2
           case measure=>have:=HK1.out;have:=HK2.out;omega
           case rel=>exact ⟨(t803),(wrap64 (x7_2+1)),zT,zT,H',⟨by have:=HK1.out;have:=HK2.out;omega⟩,by repeat (first|exact Drawn0.refl _|apply Drawn0.step)⟩
          ·rw [if_neg c8] at H
           exact absurd H (by simp)
        ·rw [if_neg c6] at H
         have c6b0:decide (x7_2<((rd_L1 l1 x5_1).length:Int))=false:=decide_eq_false c6
         clear c6
         by_cases c10:x6_2=true
         ·subst c10
          have H1:(ancepsref42_hits.l0 k2 l0 l1 (wrap64 (x5_1+1)))=some r:=by rw [if_pos rfl] at H;exact H
          clear H
          have H:=H1
          clear H1
          have H':=zA H
          clear H
          have p800:0≤(x5_1:Int):=of_decide_eq_true zh
          have q800:x5_1<(l1.length:Int):=of_decide_eq_true zh
          obtain ⟨ad800,A800_0,c800_0,e800,hx800_0,hl800_0,hi800_0⟩:=at_L1 HR1.out x5_1 p800 q800
          cases e800
          have HR800_0:=zA hi800_0
          have HC800_0:=zA hl800_0
          clear hi800_0 hl800_0
          replace p800:=eq_true p800
          replace q800:=eq_true q800
          go_wp2
          go_roundg k2
          case measure=>have:=HK1.out;have:=HK2.out;omega
          case rel=>exact ⟨(wrap64 (x5_1+1)),zT,H',⟨by have:=HK1.out;have:=HK2.out;omega⟩,by repeat (first|exact Drawn0.refl _|apply Drawn0.step)⟩
         ·replace c10:=Bool.eq_false_iff.mpr c10
          subst c10
          have H1:(some false)=some r:=by rw [if_neg (show ¬ (false=true) by decide)] at H;exact H
          clear H
          have H:=H1
          clear H1
          obtain rfl:=Option.some.inj H
          have p800:0≤(x5_1:Int):=of_decide_eq_true zh
          have q800:x5_1<(l1.length:Int):=of_decide_eq_true zh
          obtain ⟨ad800,A800_0,c800_0,e800,hx800_0,hl800_0,hi800_0⟩:=at_L1 HR1.out x5_1 p800 q800
          cases e800
          have HR800_0:=zA hi800_0
          have HC800_0:=zA hl800_0
          clear hi800_0 hl800_0
          replace p800:=eq_true p800
          replace q800:=eq_true q800
          go_wp2
          go_ret
          exact ⟨by first|rfl|(simp;done)|(simp [*];done),by repeat (first|exact Drawn0.refl _|apply Drawn0.step)⟩
       ·rw [if_neg c5] at H
        exact absurd H (by simp)
      ·rw [if_neg c4] at H
       exact absurd H (by simp)
   ·rw [if_neg c3] at H
    have c3b0:decide (x5_1<(l1.length:Int))=false:=decide_eq_false c3
    clear c3
    obtain rfl:=Option.some.inj H
    go_wp2
    go_ret
    exact ⟨by first|rfl|(simp;done)|(simp [*];done),by repeat (first|exact Drawn0.refl _|apply Drawn0.step)⟩
def ancepsref42_Hits.l0:Nat→List Int→List (List Int)→Int→Option (Bool)
 | 0,_,_,_=>none
 | k+1,x0,x1,x5=>if x5<(x0.length:Int) then ((ancepsref42_Without.f x0 x5).bind fun t805=>((ancepsref42_hits.f k t805 x1).bind fun t808=>(if t808=true then (some false) else (ancepsref42_Hits.l0 k x0 x1 (wrap64 (x5+1)))))) else (some true)
def ancepsref42_Hits.f (k:Nat) (l0:List Int) (l1:List (List Int)):Option (Bool):=(ancepsref42_hits.f k l0 l1).bind fun t804=>(if t804=true then (ancepsref42_Hits.l0 k l0 l1 0) else (some false))
theorem ancepsref42_Hits.mono_l:∀ k,(∀ y0 y1 y2,LeO (ancepsref42_Hits.l0 k y0 y1 y2) (ancepsref42_Hits.l0 (k+1) y0 y1 y2))
 | 0=>fun _ _ _ r h=>by simp [ancepsref42_Hits.l0] at h
 | k+1=>by
  have ih0:=ancepsref42_Hits.mono_l k
  ·intro y0 y1 y2
   unfold ancepsref42_Hits.l0
   repeat' first
   | (with_reducible exact ih0 _ _ _)
   | (with_reducible exact ancepsref42_hits.mono _ _ _)
   | (with_reducible exact LeO.refl _)
   | (with_reducible exact LeO.none _)
   | (with_reducible refine LeO.ite ?_ ?_)
   | (with_reducible refine LeO.bind ?_ (fun _=>?_))
   | exact LeO.none _
   | refine LeO.ite ?_ ?_
   | refine LeO.bind ?_ (fun _=>?_)
theorem ancepsref42_Hits.mono:∀ a0 a1 k,LeO (ancepsref42_Hits.f k a0 a1) (ancepsref42_Hits.f (k+1) a0 a1):=by
 intro a0 a1 k
 have ih0:=ancepsref42_Hits.mono_l k
 unfold ancepsref42_Hits.f
 repeat' first
   | (with_reducible exact ih0 _ _ _)
   | (with_reducible exact ancepsref42_hits.mono _ _ _)
   | (with_reducible exact LeO.refl _)
   | (with_reducible exact LeO.none _)
   | (with_reducible refine LeO.ite ?_ ?_)
   | (with_reducible refine LeO.bind ?_ (fun _=>?_))
   | exact LeO.none _
   | refine LeO.ite ?_ ?_
   | refine LeO.bind ?_ (fun _=>?_)
set_option maxHeartbeats 8000000 in
set_option maxRecDepth 100000 in
theorem ancepsref42_Hits.calls (k:Nat) (A0:Option Addr) (c0:Nat) (l0:List Int) (A1:Option Addr) (c1:Nat) (l1:List (List Int)) (r:Bool) (w:World) (hr0:Kd.C (Kd.int .i64) w A0 l0.length l0) (hc0:l0.length≤c0) (hr1:Kd.C (Kd.slice 3 (Kd.int .i64)) w A1 l1.length l1) (hc1:l1.length≤c1) (h:ancepsref42_Hits.f k l0 l1=some r) :
  Calls Try.prog 27 #[.slice A0 l0.length c0,.slice A1 l1.length c1] w fun e w'=>e=.returned (.bool r)∧Below w.heap.size w w':=by
 have HR0:=zA hr0
 have HC0:=zA hc0
 clear hr0 hc0
 have HR1:=zA hr1
 have HC1:=zA hc1
 clear hr1 hc1
 have HB:=zA (Below.refl w.heap.size w)
 have H:((ancepsref42_hits.f k l0 l1).bind fun t804=>(if t804=true then (ancepsref42_Hits.l0 k l0 l1 0) else (some false)))=some r:=h
 clear h
 replace H:=Option.bind_eq_some_iff.mp H
 obtain ⟨t804,A30,H⟩:=H
 replace H:(if t804=true then (ancepsref42_Hits.l0 k l0 l1 0) else (some false))=some r:=H
 have A3:=zA A30
 clear A30
 have HC4:=zA H
 clear H
 go_enter Try.func27,Try.ntmps27
 go_upto_if 9 with (first|((with_reducible refine gate_callee (f:=61) rfl ?_);refine goesL_ (some 8) rfl rfl Try.func61 zK rfl #[.slice A0 l0.length c0,.slice A1 l1.length c1] rfl zM ?_;(with_reducible refine (ancepsref42_hits.calls k _ _ l0 _ _ l1 t804 _ ?side1 ?side2 ?side3 ?side4 A3.out).mono ?_);(case side1=>repeat (first|exact HR0.out|(with_reducible refine Kd.C_alloc ?_ _)|(with_reducible refine Kd.C_drewN ?_ _)|(with_reducible refine Kd.C_drew ?_)));(case side2=>exact HC0.out);(case side3=>repeat (first|exact HR1.out|(with_reducible refine Kd.C_alloc ?_ _)|(with_reducible refine Kd.C_drewN ?_ _)|(with_reducible refine Kd.C_drew ?_)));(case side4=>exact HC1.out);rintro e w' ⟨rfl,⟨nd,rfl⟩⟩;refine ⟨_,rfl,?_⟩))
 (try simp only [Act.put,zi,zs,zt])
 have H:=HC4.out
 clear HC4
 by_cases c5:t804=true
 ·subst c5
  have H1:(ancepsref42_Hits.l0 k l0 l1 0)=some r:=by rw [if_pos rfl] at H;exact H
  clear H
  have H:=H1
  clear H1
  have H':=zA H
  clear H
  go_wp2
  go_loopg [5] k (fun kq v5 w'=>∃ (x5_1:Int),v5=.int .i64 x5_1∧Aside0 (ancepsref42_Hits.l0 kq l0 l1 x5_1=some r)∧Aside0 (kq≤k)∧Aside0 (Below w.heap.size w w'))
  case atStart=>exact ⟨(0),zT,H',⟨Nat.le_refl _⟩,⟨by repeat (first|(with_reducible first|exact HB.out|apply below_alloc|apply pw_below_drewN|apply below_drew1)|exact HB.out)⟩⟩
  case round=>
   clear H'
   try clear c1
   try clear c5
   obtain ⟨x5_1,rfl,HA,HK1,HB⟩:=hrel
   cases gk with
   | zero=>exact absurd HA.out (by simp [ancepsref42_Hits.l0])
   | succ k1=>
    have H:=HA.out
    clear HA
    simp only [ancepsref42_Hits.l0] at H
    by_cases c6:x5_1<(l0.length:Int)
    ·rw [if_pos c6] at H
     have c6b0:decide (x5_1<(l0.length:Int))=true:=decide_eq_true c6
     clear c6
     (first|rw [c6b0]|(simp only [i64_w,i32_w];rw [c6b0])|skip)
     replace H:=Option.bind_eq_some_iff.mp H
     obtain ⟨t805,A70,H⟩:=H
     replace H:((ancepsref42_hits.f k1 t805 l1).bind fun t808=>(if t808=true then (some false) else (ancepsref42_Hits.l0 k1 l0 l1 (wrap64 (x5_1+1)))))=some r:=H
     have A7:=zA A70
     clear A70
     replace H:=Option.bind_eq_some_iff.mp H
     obtain ⟨t808,A80,H⟩:=H
     replace H:(if t808=true then (some false) else (ancepsref42_Hits.l0 k1 l0 l1 (wrap64 (x5_1+1))))=some r:=H
     have A8:=zA A80
     clear A80
     have HC9:=zA H
     clear H
     go_upto_if 20 with (first|((with_reducible refine gate_callee (f:=58) rfl ?_);refine goesL_ (some 18) rfl rfl Try.func58 zK rfl #[.slice A0 l0.length c0,.int .i64 x5_1] rfl zM ?_;(with_reducible refine (ancepsref42_Without.calls _ _ l0 x5_1 t805 _ ?side1 ?side2 A7.out).mono ?_);(case side1=>exact zC (Kd.C_below HR0.out HB.out));(case side2=>exact HC0.out);rintro e w10 ⟨v806,rfl,ho0,hb⟩;refine ⟨_,rfl,?_⟩;have HO807:=zA (Kd.R_lower ho0 (below_size zB));replace HB:=zA (below_step zB hb);(try clear hb);(try clear hb2);(try clear hk);(try clear hi);(try clear ho0);obtain ⟨Ao11,co11,eo11⟩:=Kd.R_slice HO807.out;subst eo11)|((with_reducible refine gate_callee (f:=61) rfl ?_);refine goesL_ (some 20) rfl rfl Try.func61 zK rfl #[.slice Ao11 t805.length co11,.slice A1 l1.length c1] rfl zM ?_;(with_reducible refine (ancepsref42_hits.calls k1 _ _ t805 _ _ l1 t808 _ ?side1 ?side2 ?side3 ?side4 A8.out).mono ?_);(case side1=>exact zC (Kd.R_reads' HO807.out).2.2);(case side2=>exact (Kd.R_reads' HO807.out).2.1);(case side3=>exact zC (Kd.C_below HR1.out HB.out));(case side4=>exact HC1.out);rintro e w' ⟨rfl,⟨nd,rfl⟩⟩;refine ⟨_,rfl,?_⟩))
     (try simp only [Act.put,zi,zs,zt])
     have H:=HC9.out
     clear HC9
     by_cases c12:t808=true
     ·subst c12
      have H1:(some false)=some r:=by rw [if_pos rfl] at H;exact H
      clear H
      have H:=H1
      clear H1
      obtain rfl:=Option.some.inj H
      go_wp2
      go_ret
      exact ⟨by first|rfl|(simp [errW_none,errW_some] <;> rfl)|(simp [*,errW_none,errW_some] <;> rfl),by repeat (first|(with_reducible first|exact HB.out|apply below_alloc|apply pw_below_drewN|apply below_drew1)|exact HB.out)⟩
     ·replace c12:=Bool.eq_false_iff.mpr c12
      subst c12
      have H1:(ancepsref42_Hits.l0 k1 l0 l1 (wrap64 (x5_1+1)))=some r:=by rw [if_neg (show ¬ (false=true) by decide)] at H;exact H
      clear H
      have H:=H1
      clear H1
      have H':=zA H
      clear H
      go_wp2
      go_roundg k1
      case measure=>have:=HK1.out;omega
      case rel=>exact ⟨(wrap64 (x5_1+1)),zT,H',⟨by have:=HK1.out;omega⟩,⟨by repeat (first|(with_reducible first|exact HB.out|apply below_alloc|apply pw_below_drewN|apply below_drew1)|exact HB.out)⟩⟩
    ·rw [if_neg c6] at H
     have c6b0:decide (x5_1<(l0.length:Int))=false:=decide_eq_false c6
     clear c6
     (first|rw [c6b0]|(simp only [i64_w,i32_w];rw [c6b0])|skip)
     obtain rfl:=Option.some.inj H
     go_wp2
     go_ret
     exact ⟨by first|rfl|(simp [errW_none,errW_some] <;> rfl)|(simp [*,errW_none,errW_some] <;> rfl),by repeat (first|(with_reducible first|exact HB.out|apply below_alloc|apply pw_below_drewN|apply below_drew1)|exact HB.out)⟩
 ·replace c5:=Bool.eq_false_iff.mpr c5
  subst c5
  have H1:(some false)=some r:=by rw [if_neg (show ¬ (false=true) by decide)] at H;exact H
  clear H
  have H:=H1
  clear H1
  obtain rfl:=Option.some.inj H
  go_wp2
  go_ret
  exact ⟨by first|rfl|(simp [errW_none,errW_some] <;> rfl)|(simp [*,errW_none,errW_some] <;> rfl),by repeat (first|(with_reducible first|exact HB.out|apply below_alloc|apply pw_below_drewN|apply below_drew1)|exact HB.out)⟩
mutual
def ancepslaw42_ConflictDual.l0:Nat→List (S50)→List (List Int)→List (List Int)→List Int→List (List Int)→Int→Int→Option (Bool)
 | 0,_,_,_,_,_,_,_=>none
 | k+1,x3,x4,x6,x8,x59,x60,x61=>if x61<x60 then (if 0≤x61 then (if x61<(x59.length:Int) then ((ancepsref42_Hits.f k (rd_L1 x59 x61) x4).bind fun t828=>(if t828=true then (ancepslaw42_ConflictDual.l0 k x3 x4 x6 x8 x59 x60 (wrap64 (x61+1))) else (none))) else (none)) else (none)) else (ancepslaw42_ConflictDual.l1 k x3 x4 x6 x8 x4 (x4.length:Int) 0)
def ancepslaw42_ConflictDual.l1:Nat→List (S50)→List (List Int)→List (List Int)→List Int→List (List Int)→Int→Int→Option (Bool)
 | 0,_,_,_,_,_,_,_=>none
 | k+1,x3,x4,x6,x8,x70,x71,x72=>if x72<x71 then (if 0≤x72 then (if x72<(x70.length:Int) then ((ancepsref42_Hits.f k (rd_L1 x70 x72) x6).bind fun t830=>(if t830=true then (ancepslaw42_ConflictDual.l1 k x3 x4 x6 x8 x70 x71 (wrap64 (x72+1))) else (none))) else (none)) else (none)) else ((ancepsref42_Union.f k x4 (x3.length:Int)).bind fun t831=>((slices_Equal_int_int.f k t831 x8).bind fun t834=>(if t834=true then (if (x4.length:Int)=0 then (some true) else ((ancepsref42_Union.f k x6 (x3.length:Int)).bind fun t835=>((slices_Equal_int_int.f k t835 x8).bind fun t838=>(some t838)))) else (none))))
end
def ancepslaw42_ConflictDual.f (k:Nat) (l0:List (S54)):Option (Bool):=(ancepsref40_Made.f k l0).bind fun t809=>((ancepslaw42_awake.f k).bind fun t812=>(if t812=true then ((ancepsref42_Few.f k t809).bind fun t813=>(if t813=true then ((ancepsref42_Valid.f k t809).bind fun t814=>(if t814=0 then ((conflict_Cores.f k t809).bind fun bt815=>((conflict_Repairs.f k t809).bind fun bt819=>((conflict_Blame.f k t809).bind fun bt823=>(if bt815.2=0 then (if bt819.2=0 then (if bt823.2=0 then (if (bt819.1.length:Int)=0 then (none) else (ancepslaw42_ConflictDual.l0 k t809 bt815.1 bt819.1 bt823.1 bt819.1 (bt819.1.length:Int) 0)) else (none)) else (none)) else (none))))) else ((ancepslaw42_awake.f k).bind fun t839=>(some t839)))) else ((ancepslaw42_awake.f k).bind fun t840=>(some t840)))) else ((ancepslaw42_awake.f k).bind fun t841=>(some t841))))
theorem ancepslaw42_ConflictDual.mono_l:∀ k,(∀ y0 y1 y2 y3 y4 y5 y6,LeO (ancepslaw42_ConflictDual.l0 k y0 y1 y2 y3 y4 y5 y6) (ancepslaw42_ConflictDual.l0 (k+1) y0 y1 y2 y3 y4 y5 y6))∧(∀ y0 y1 y2 y3 y4 y5 y6,LeO (ancepslaw42_ConflictDual.l1 k y0 y1 y2 y3 y4 y5 y6) (ancepslaw42_ConflictDual.l1 (k+1) y0 y1 y2 y3 y4 y5 y6))
 | 0=>⟨fun _ _ _ _ _ _ _ r h=>by simp [ancepslaw42_ConflictDual.l0] at h,fun _ _ _ _ _ _ _ r h=>by simp [ancepslaw42_ConflictDual.l1] at h⟩
 | k+1=>by
  obtain ⟨ih0,ih1⟩:=ancepslaw42_ConflictDual.mono_l k
  refine ⟨?_,?_⟩
  ·intro y0 y1 y2 y3 y4 y5 y6
   unfold ancepslaw42_ConflictDual.l0
   repeat' first
   | (with_reducible exact ih0 _ _ _ _ _ _ _)
   | (with_reducible exact ih1 _ _ _ _ _ _ _)
   | (with_reducible exact ancepslaw42_awake.mono _)
   | (with_reducible exact ancepsref40_Made.mono _ _)
   | (with_reducible exact ancepsref42_Few.mono _ _)
   | (with_reducible exact ancepsref42_Hits.mono _ _ _)
   | (with_reducible exact ancepsref42_Union.mono _ _ _)
   | (with_reducible exact ancepsref42_Valid.mono _ _)
   | (with_reducible exact conflict_Blame.mono _ _)
   | (with_reducible exact conflict_Cores.mono _ _)
   | (with_reducible exact conflict_Repairs.mono _ _)
   | (with_reducible exact slices_Equal_int_int.mono _ _ _)
   | (with_reducible exact LeO.refl _)
   | (with_reducible exact LeO.none _)
   | (with_reducible refine LeO.ite ?_ ?_)
   | (with_reducible refine LeO.bind ?_ (fun _=>?_))
   | exact LeO.none _
   | refine LeO.ite ?_ ?_
   | refine LeO.bind ?_ (fun _=>?_)
  ·intro y0 y1 y2 y3 y4 y5 y6
   unfold ancepslaw42_ConflictDual.l1
   repeat' first
   | (with_reducible exact ih0 _ _ _ _ _ _ _)
   | (with_reducible exact ih1 _ _ _ _ _ _ _)
   | (with_reducible exact ancepslaw42_awake.mono _)
   | (with_reducible exact ancepsref40_Made.mono _ _)
   | (with_reducible exact ancepsref42_Few.mono _ _)
   | (with_reducible exact ancepsref42_Hits.mono _ _ _)
   | (with_reducible exact ancepsref42_Union.mono _ _ _)
   | (with_reducible exact ancepsref42_Valid.mono _ _)
   | (with_reducible exact conflict_Blame.mono _ _)
   | (with_reducible exact conflict_Cores.mono _ _)
   | (with_reducible exact conflict_Repairs.mono _ _)
   | (with_reducible exact slices_Equal_int_int.mono _ _ _)
   | (with_reducible exact LeO.refl _)
   | (with_reducible exact LeO.none _)
   | (with_reducible refine LeO.ite ?_ ?_)
   | (with_reducible refine LeO.bind ?_ (fun _=>?_))
   | exact LeO.none _
   | refine LeO.ite ?_ ?_
   | refine LeO.bind ?_ (fun _=>?_)
theorem ancepslaw42_ConflictDual.mono:∀ a0 k,LeO (ancepslaw42_ConflictDual.f k a0) (ancepslaw42_ConflictDual.f (k+1) a0):=by
 intro a0 k
 obtain ⟨ih0,ih1⟩:=ancepslaw42_ConflictDual.mono_l k
 unfold ancepslaw42_ConflictDual.f
 repeat' first
   | (with_reducible exact ih0 _ _ _ _ _ _ _)
   | (with_reducible exact ih1 _ _ _ _ _ _ _)
   | (with_reducible exact ancepslaw42_awake.mono _)
   | (with_reducible exact ancepsref40_Made.mono _ _)
   | (with_reducible exact ancepsref42_Few.mono _ _)
   | (with_reducible exact ancepsref42_Hits.mono _ _ _)
   | (with_reducible exact ancepsref42_Union.mono _ _ _)
   | (with_reducible exact ancepsref42_Valid.mono _ _)
   | (with_reducible exact conflict_Blame.mono _ _)
   | (with_reducible exact conflict_Cores.mono _ _)
   | (with_reducible exact conflict_Repairs.mono _ _)
   | (with_reducible exact slices_Equal_int_int.mono _ _ _)
   | (with_reducible exact LeO.refl _)
   | (with_reducible exact LeO.none _)
   | (with_reducible refine LeO.ite ?_ ?_)
   | (with_reducible refine LeO.bind ?_ (fun _=>?_))
   | exact LeO.none _
   | refine LeO.ite ?_ ?_
   | refine LeO.bind ?_ (fun _=>?_)
set_option maxHeartbeats 8000000 in
set_option maxRecDepth 100000 in
theorem ancepslaw42_ConflictDual.calls (k:Nat) (A0:Option Addr) (c0:Nat) (l0:List (S54)) (r:Bool) (w:World) (hr0:Kd.C k54 w A0 l0.length l0) (hc0:l0.length≤c0) (h:ancepslaw42_ConflictDual.f k l0=some r) :
  Calls Try.prog 5 #[.slice A0 l0.length c0] w fun e w'=>e=.returned (.bool r)∧Below w.heap.size w w':=by
 have hu30:=Try.underlying30
 have HR0:=zA hr0
 have HC0:=zA hc0
 clear hr0 hc0
 have HB:=zA (Below.refl w.heap.size w)
 have H:((ancepsref40_Made.f k l0).bind fun t809=>((ancepslaw42_awake.f k).bind fun t812=>(if t812=true then ((ancepsref42_Few.f k t809).bind fun t813=>(if t813=true then ((ancepsref42_Valid.f k t809).bind fun t814=>(if t814=0 then ((conflict_Cores.f k t809).bind fun bt815=>((conflict_Repairs.f k t809).bind fun bt819=>((conflict_Blame.f k t809).bind fun bt823=>(if bt815.2=0 then (if bt819.2=0 then (if bt823.2=0 then (if (bt819.1.length:Int)=0 then (none) else (ancepslaw42_ConflictDual.l0 k t809 bt815.1 bt819.1 bt823.1 bt819.1 (bt819.1.length:Int) 0)) else (none)) else (none)) else (none))))) else ((ancepslaw42_awake.f k).bind fun t839=>(some t839)))) else ((ancepslaw42_awake.f k).bind fun t840=>(some t840)))) else ((ancepslaw42_awake.f k).bind fun t841=>(some t841)))))=some r:=h
 clear h
 replace H:=Option.bind_eq_some_iff.mp H
 obtain ⟨t809,A20,H⟩:=H
 replace H:((ancepslaw42_awake.f k).bind fun t812=>(if t812=true then ((ancepsref42_Few.f k t809).bind fun t813=>(if t813=true then ((ancepsref42_Valid.f k t809).bind fun t814=>(if t814=0 then ((conflict_Cores.f k t809).bind fun bt815=>((conflict_Repairs.f k t809).bind fun bt819=>((conflict_Blame.f k t809).bind fun bt823=>(if bt815.2=0 then (if bt819.2=0 then (if bt823.2=0 then (if (bt819.1.length:Int)=0 then (none) else (ancepslaw42_ConflictDual.l0 k t809 bt815.1 bt819.1 bt823.1 bt819.1 (bt819.1.length:Int) 0)) else (none)) else (none)) else (none))))) else ((ancepslaw42_awake.f k).bind fun t839=>(some t839)))) else ((ancepslaw42_awake.f k).bind fun t840=>(some t840)))) else ((ancepslaw42_awake.f k).bind fun t841=>(some t841))))=some r:=H
 have A2:=zA A20
 clear A20
 have HC3:=zA H
 clear H
 go_enter Try.func5,Try.ntmps5
 go_upto_region 2 with (first|((with_reducible refine gate_callee (f:=25) rfl ?_);refine goesL_ (some 15) rfl rfl Try.func25 zK rfl #[.slice A0 l0.length c0] rfl zM ?_;(with_reducible refine (ancepsref40_Made.calls k _ _ l0 t809 _ ?side1 ?side2 A2.out).mono ?_);(case side1=>repeat (first|exact HR0.out|(with_reducible refine Kd.C_alloc ?_ _)|(with_reducible refine Kd.C_drewN ?_ _)|(with_reducible refine Kd.C_drew ?_)));(case side2=>exact HC0.out);rintro e w4 ⟨v810,rfl,ho0,hb⟩;refine ⟨_,rfl,?_⟩;have HO811:=zA (Kd.N_lower (Kd.N_mono (ok':=fun k_=>True) (Kd.S_N (Kd.S_bound ho0)) (fun k_ hk_=>trivial)) (below_size zB));replace HB:=zA (below_step zB hb);(try clear hb);(try clear hb2);(try clear hk);(try clear hi);(try clear ho0)))
 (try simp only [Act.put,zi,zs,zt])
 have H:=HC3.out
 clear HC3
 replace H:=Option.bind_eq_some_iff.mp H
 obtain ⟨t812,A50,H⟩:=H
 replace H:(if t812=true then ((ancepsref42_Few.f k t809).bind fun t813=>(if t813=true then ((ancepsref42_Valid.f k t809).bind fun t814=>(if t814=0 then ((conflict_Cores.f k t809).bind fun bt815=>((conflict_Repairs.f k t809).bind fun bt819=>((conflict_Blame.f k t809).bind fun bt823=>(if bt815.2=0 then (if bt819.2=0 then (if bt823.2=0 then (if (bt819.1.length:Int)=0 then (none) else (ancepslaw42_ConflictDual.l0 k t809 bt815.1 bt819.1 bt823.1 bt819.1 (bt819.1.length:Int) 0)) else (none)) else (none)) else (none))))) else ((ancepslaw42_awake.f k).bind fun t839=>(some t839)))) else ((ancepslaw42_awake.f k).bind fun t840=>(some t840)))) else ((ancepslaw42_awake.f k).bind fun t841=>(some t841)))=some r:=H
 have A5:=zA A50
 clear A50
 by_cases c6:t812=true
 ·subst c6
  have H1:((ancepsref42_Few.f k t809).bind fun t813=>(if t813=true then ((ancepsref42_Valid.f k t809).bind fun t814=>(if t814=0 then ((conflict_Cores.f k t809).bind fun bt815=>((conflict_Repairs.f k t809).bind fun bt819=>((conflict_Blame.f k t809).bind fun bt823=>(if bt815.2=0 then (if bt819.2=0 then (if bt823.2=0 then (if (bt819.1.length:Int)=0 then (none) else (ancepslaw42_ConflictDual.l0 k t809 bt815.1 bt819.1 bt823.1 bt819.1 (bt819.1.length:Int) 0)) else (none)) else (none)) else (none))))) else ((ancepslaw42_awake.f k).bind fun t839=>(some t839)))) else ((ancepslaw42_awake.f k).bind fun t840=>(some t840))))=some r:=by rw [if_pos rfl] at H;exact H
  clear H
  have H:=H1
  clear H1
  replace H:=Option.bind_eq_some_iff.mp H
  obtain ⟨t813,A70,H⟩:=H
  replace H:(if t813=true then ((ancepsref42_Valid.f k t809).bind fun t814=>(if t814=0 then ((conflict_Cores.f k t809).bind fun bt815=>((conflict_Repairs.f k t809).bind fun bt819=>((conflict_Blame.f k t809).bind fun bt823=>(if bt815.2=0 then (if bt819.2=0 then (if bt823.2=0 then (if (bt819.1.length:Int)=0 then (none) else (ancepslaw42_ConflictDual.l0 k t809 bt815.1 bt819.1 bt823.1 bt819.1 (bt819.1.length:Int) 0)) else (none)) else (none)) else (none))))) else ((ancepslaw42_awake.f k).bind fun t839=>(some t839)))) else ((ancepslaw42_awake.f k).bind fun t840=>(some t840)))=some r:=H
  have A7:=zA A70
  clear A70
  by_cases c8:t813=true
  ·subst c8
   have H1:((ancepsref42_Valid.f k t809).bind fun t814=>(if t814=0 then ((conflict_Cores.f k t809).bind fun bt815=>((conflict_Repairs.f k t809).bind fun bt819=>((conflict_Blame.f k t809).bind fun bt823=>(if bt815.2=0 then (if bt819.2=0 then (if bt823.2=0 then (if (bt819.1.length:Int)=0 then (none) else (ancepslaw42_ConflictDual.l0 k t809 bt815.1 bt819.1 bt823.1 bt819.1 (bt819.1.length:Int) 0)) else (none)) else (none)) else (none))))) else ((ancepslaw42_awake.f k).bind fun t839=>(some t839))))=some r:=by rw [if_pos rfl] at H;exact H
   clear H
   have H:=H1
   clear H1
   replace H:=Option.bind_eq_some_iff.mp H
   obtain ⟨t814,A90,H⟩:=H
   replace H:(if t814=0 then ((conflict_Cores.f k t809).bind fun bt815=>((conflict_Repairs.f k t809).bind fun bt819=>((conflict_Blame.f k t809).bind fun bt823=>(if bt815.2=0 then (if bt819.2=0 then (if bt823.2=0 then (if (bt819.1.length:Int)=0 then (none) else (ancepslaw42_ConflictDual.l0 k t809 bt815.1 bt819.1 bt823.1 bt819.1 (bt819.1.length:Int) 0)) else (none)) else (none)) else (none))))) else ((ancepslaw42_awake.f k).bind fun t839=>(some t839)))=some r:=H
   have A9:=zA A90
   clear A90
   have HC10:=zA H
   clear H
   go_upto_if 27 with (first|((with_reducible refine gate_callee (f:=9) rfl ?_);refine goesL_ (some 16) rfl rfl Try.func9 zK rfl #[] rfl zM ?_;(with_reducible refine (ancepslaw42_awake.calls k  true _ A5.out).mono ?_);rintro e w11 ⟨rfl,hb⟩;refine ⟨_,rfl,?_⟩;replace HO811:=zA (Kd.N_below (zN HO811) hb);replace HB:=zA (below_step zB hb);(try clear hb);(try clear hb2);(try clear hk);(try clear hi);obtain ⟨Ao12,co12,eo12⟩:=Kd.N_slice HO811.out;subst eo12)|(go_at_call 10;(with_reducible refine (ancepsref42_Few.calls k _ _ t809 true _ ?side1 ?side2 A7.out).mono ?_);(case side1=>exact zC (Kd.N_reads' HO811.out).2.2);(case side2=>exact (Kd.N_reads' HO811.out).2.1);rintro e w13 ⟨rfl,hb⟩;replace HO811:=zA (Kd.N_below (zN HO811) hb);replace HB:=zA (below_step zB hb);(try clear hb);(try clear hb2);(try clear hk);(try clear hi))|(go_at_call 26;(with_reducible refine (ancepsref42_Valid.calls k _ _ t809 t814 _ ?side1 ?side2 A9.out).mono ?_);(case side1=>exact zC (Kd.N_reads' HO811.out).2.2);(case side2=>exact (Kd.N_reads' HO811.out).2.1);rintro e w14 ⟨rfl,hb⟩;replace HO811:=zA (Kd.N_below (zN HO811) hb);replace HB:=zA (below_step zB hb);(try clear hb);(try clear hb2);(try clear hk);(try clear hi)))
   (try simp only [Act.put,zi,zs,zt])
   have H:=HC10.out
   clear HC10
   by_cases c15:t814=0
   ·rw [if_pos c15] at H
    have c15b0:(t814 == 0)=true:=beq_iff_eq.mpr c15
    have c15b1:(t814 != 0)=false:=bne_eq_false_iff_eq.mpr c15
    clear c15
    (first|rw [c15b0]|(simp only [i64_w,i32_w];rw [c15b0])|skip)
    (try rw [c15b1])
    replace H:=Option.bind_eq_some_iff.mp H
    obtain ⟨⟨t815,t818⟩,A160,H⟩:=H
    replace H:((conflict_Repairs.f k t809).bind fun bt819=>((conflict_Blame.f k t809).bind fun bt823=>(if t818=0 then (if bt819.2=0 then (if bt823.2=0 then (if (bt819.1.length:Int)=0 then (none) else (ancepslaw42_ConflictDual.l0 k t809 t815 bt819.1 bt823.1 bt819.1 (bt819.1.length:Int) 0)) else (none)) else (none)) else (none))))=some r:=H
    have A16:=zA A160
    clear A160
    replace H:=Option.bind_eq_some_iff.mp H
    obtain ⟨⟨t819,t822⟩,A170,H⟩:=H
    replace H:((conflict_Blame.f k t809).bind fun bt823=>(if t818=0 then (if t822=0 then (if bt823.2=0 then (if (t819.length:Int)=0 then (none) else (ancepslaw42_ConflictDual.l0 k t809 t815 t819 bt823.1 t819 (t819.length:Int) 0)) else (none)) else (none)) else (none)))=some r:=H
    have A17:=zA A170
    clear A170
    replace H:=Option.bind_eq_some_iff.mp H
    obtain ⟨⟨t823,t824⟩,A180,H⟩:=H
    replace H:(if t818=0 then (if t822=0 then (if t824=0 then (if (t819.length:Int)=0 then (none) else (ancepslaw42_ConflictDual.l0 k t809 t815 t819 t823 t819 (t819.length:Int) 0)) else (none)) else (none)) else (none))=some r:=H
    have A18:=zA A180
    clear A180
    by_cases c19:t818=0
    ·rw [if_pos c19] at H
     have c19b0:(t818 == 0)=true:=beq_iff_eq.mpr c19
     have c19b1:(t818 != 0)=false:=bne_eq_false_iff_eq.mpr c19
     clear c19
     by_cases c20:t822=0
     ·rw [if_pos c20] at H
      have c20b0:(t822 == 0)=true:=beq_iff_eq.mpr c20
      have c20b1:(t822 != 0)=false:=bne_eq_false_iff_eq.mpr c20
      clear c20
      by_cases c21:t824=0
      ·rw [if_pos c21] at H
       have c21b0:(t824 == 0)=true:=beq_iff_eq.mpr c21
       have c21b1:(t824 != 0)=false:=bne_eq_false_iff_eq.mpr c21
       clear c21
       have HC22:=zA H
       clear H
       go_upto_if 58 with (first|((with_reducible refine gate_callee (f:=11) rfl ?_);refine goesL_ (some 31) rfl rfl Try.func11 zK rfl #[.slice Ao12 t809.length co12] rfl zM ?_;(with_reducible refine (conflict_Cores.calls k _ _ t809 t815 t818 _ ?side1 ?side2 A16.out).mono ?_);(case side1=>exact zC (Kd.N_reads' HO811.out).2.2);(case side2=>exact (Kd.N_reads' HO811.out).2.1);rintro e w23 ⟨v816,rfl,ho0,hb⟩;refine ⟨_,rfl,?_⟩;have HO817:=zA (Kd.N_lower (Kd.N_mono (ok':=fun k_=>some k_≠(.slice Ao12 t809.length co12:Value).ownBlock) ho0 (fun k_ hk_=>(Kd.fresh' (Kd.N_lt (zN HO811)) k_ hk_))) (below_size zB));replace HO811:=zA (Kd.N_elder' (zN HO811) (Kd.N_base ho0) hb);replace HB:=zA (below_step zB hb);(try clear hb);(try clear hb2);(try clear hk);(try clear hi);(try clear ho0))|((with_reducible refine gate_callee (f:=14) rfl ?_);refine goesL_ (some 36) rfl rfl Try.func14 zK rfl #[.slice Ao12 t809.length co12] rfl zM ?_;(with_reducible refine (conflict_Repairs.calls k _ _ t809 t819 t822 _ ?side1 ?side2 A17.out).mono ?_);(case side1=>exact zC (Kd.N_reads' HO811.out).2.2);(case side2=>exact (Kd.N_reads' HO811.out).2.1);rintro e w24 ⟨v820,rfl,ho0,hb⟩;refine ⟨_,rfl,?_⟩;have HO821:=zA (Kd.N_lower (Kd.N_mono (ok':=fun k_=>some k_≠(.slice Ao12 t809.length co12:Value).ownBlock∧some k_≠(v816:Value).ownBlock) ho0 (fun k_ hk_=>⟨(Kd.fresh' (Kd.N_lt (zN HO811)) k_ hk_),(Kd.fresh' (Kd.N_lt (zN HO817)) k_ hk_)⟩)) (below_size zB));replace HO811:=zA (Kd.N_elder' (zN HO811) (Kd.N_base ho0) hb);replace HO817:=zA (Kd.N_elder' (zN HO817) (Kd.N_base ho0) hb);replace HB:=zA (below_step zB hb);(try clear hb);(try clear hb2);(try clear hk);(try clear hi);(try clear ho0))|((with_reducible refine gate_callee (f:=16) rfl ?_);refine goesL_ (some 41) rfl rfl Try.func16 zK rfl #[.slice Ao12 t809.length co12] rfl zM ?_;(with_reducible refine (conflict_Blame.calls k _ _ t809 t823 t824 _ ?side1 ?side2 A18.out).mono ?_);(case side1=>exact zC (Kd.N_reads' HO811.out).2.2);(case side2=>exact (Kd.N_reads' HO811.out).2.1);rintro e w25 ⟨v825,rfl,ho0,hb⟩;refine ⟨_,rfl,?_⟩;have HO826:=zA (Kd.R_lower ho0 (below_size zB));replace HO811:=zA (Kd.N_elder' (zN HO811) (Kd.R_base ho0) hb);replace HO817:=zA (Kd.N_elder' (zN HO817) (Kd.R_base ho0) hb);replace HO821:=zA (Kd.N_elder' (zN HO821) (Kd.R_base ho0) hb);replace HB:=zA (below_step zB hb);(try clear hb);(try clear hb2);(try clear hk);(try clear hi);(try clear ho0);obtain ⟨Ao26,co26,eo26⟩:=Kd.N_slice HO821.out;subst eo26))
       (try simp only [Act.put,zi,zs,zt])
       have H:=HC22.out
       clear HC22
       by_cases c27:(t819.length:Int)=0
       ·rw [if_pos c27] at H
        exact absurd H (by simp)
       ·rw [if_neg c27] at H
        have c27b0:((t819.length:Int) == 0)=false:=beq_eq_false_iff_ne.mpr c27
        have c27b1:((t819.length:Int) != 0)=true:=bne_iff_ne.mpr c27
        have c27b2:¬ (t819=[]):=fun h_=>c27 (by rw [h_];rfl)
        (first|rw [c27b0]|(simp only [i64_w,i32_w];rw [c27b0])|skip)
        (try rw [c27b1])
        (try rw [c27b2])
        have H':=zA H
        clear H
        go_wp2
        go_loopg [61] k (fun kq v61 w'=>∃ (x61_1:Int),v61=.int .i64 x61_1∧Aside0 (ancepslaw42_ConflictDual.l0 kq t809 t815 t819 t823 t819 (t819.length:Int) x61_1=some r)∧Aside0 (kq≤k)∧Aside0 (Kd.N k50 50 w' w.heap.size (fun k_=>some k_≠(v816:Value).ownBlock∧some k_≠((.slice Ao26 t819.length co26):Value).ownBlock∧some k_≠(v825:Value).ownBlock∧some k_≠((.slice Ao26 t819.length co26):Value).ownBlock) (.slice Ao12 t809.length co12) t809)∧Aside0 (Kd.N (Kd.slice 3 (Kd.int .i64)) 30 w' w.heap.size (fun k_=>some k_≠((.slice Ao12 t809.length co12):Value).ownBlock∧some k_≠((.slice Ao26 t819.length co26):Value).ownBlock∧some k_≠(v825:Value).ownBlock∧some k_≠((.slice Ao26 t819.length co26):Value).ownBlock) v816 t815)∧Aside0 (Kd.N (Kd.slice 3 (Kd.int .i64)) 30 w' w.heap.size (fun k_=>some k_≠((.slice Ao12 t809.length co12):Value).ownBlock∧some k_≠(v816:Value).ownBlock∧some k_≠(v825:Value).ownBlock) (.slice Ao26 t819.length co26) t819)∧Aside0 (Kd.R (Kd.int .i64) 3 w' w.heap.size (fun _=>True) v825 t823)∧Aside0 (Kd.N (Kd.slice 3 (Kd.int .i64)) 30 w' w.heap.size (fun k_=>some k_≠((.slice Ao12 t809.length co12):Value).ownBlock∧some k_≠(v816:Value).ownBlock∧some k_≠(v825:Value).ownBlock) (.slice Ao26 t819.length co26) t819)∧Aside0 (Below w.heap.size w w'))
        case atStart=>exact ⟨(0),zT,H',⟨Nat.le_refl _⟩,⟨by (with_reducible repeat (first|apply Kd.N_alloc|apply Kd.N_drewN|apply Kd.N_drew));exact Kd.N_mono HO811.out (fun _ hk=>⟨hk.1.1.2,⟨hk.1.2,⟨hk.2,hk.1.2⟩⟩⟩)⟩,⟨by (with_reducible repeat (first|apply Kd.N_alloc|apply Kd.N_drewN|apply Kd.N_drew));exact Kd.N_mono HO817.out (fun _ hk=>⟨hk.1.1,⟨hk.1.2,⟨hk.2,hk.1.2⟩⟩⟩)⟩,⟨by (with_reducible repeat (first|apply Kd.N_alloc|apply Kd.N_drewN|apply Kd.N_drew));exact Kd.N_mono HO821.out (fun _ hk=>⟨hk.1.1,⟨hk.1.2,hk.2⟩⟩)⟩,⟨by (with_reducible repeat (first|apply Kd.R_alloc|apply Kd.R_drewN|apply Kd.R_drew));exact HO826.out⟩,⟨by (with_reducible repeat (first|apply Kd.N_alloc|apply Kd.N_drewN|apply Kd.N_drew));exact Kd.N_mono HO821.out (fun _ hk=>⟨hk.1.1,⟨hk.1.2,hk.2⟩⟩)⟩,⟨by repeat (first|(with_reducible first|exact HB.out|apply below_alloc|apply pw_below_drewN|apply below_drew1)|exact HB.out)⟩⟩
        case round=>
         clear H'
         try clear c6
         try clear c8
         try clear c15
         try clear c15b0
         try clear c15b1
         try clear c19
         try clear c19b0
         try clear c19b1
         try clear c20
         try clear c20b0
         try clear c20b1
         try clear c21
         try clear c21b0
         try clear c21b1
         try clear c27
         try clear c27b0
         try clear c27b1
         try clear c27b2
         obtain ⟨x61_1,rfl,HA,HK1,HO_3,HO_4,HO_6,HO_8,HO_59,HB⟩:=hrel
         cases gk with
         | zero=>exact absurd HA.out (by simp [ancepslaw42_ConflictDual.l0])
         | succ k1=>
          have H:=HA.out
          clear HA
          simp only [ancepslaw42_ConflictDual.l0] at H
          by_cases c28:x61_1<(t819.length:Int)
          ·rw [if_pos c28] at H
           have c28b0:decide (x61_1<(t819.length:Int))=true:=decide_eq_true c28
           clear c28
           by_cases c29:0≤x61_1
           ·rw [if_pos c29] at H
            have c29b0:decide (0≤x61_1)=true:=decide_eq_true c29
            clear c29
            by_cases c30:x61_1<(t819.length:Int)
            ·rw [if_pos c30] at H
             have c30b0:decide (x61_1<(t819.length:Int))=true:=decide_eq_true c30
             clear c30
             replace H:=Option.bind_eq_some_iff.mp H
             obtain ⟨t828,A310,H⟩:=H
             replace H:(if t828=true then (ancepslaw42_ConflictDual.l0 k1 t809 t815 t819 t823 t819 (t819.length:Int) (wrap64 (x61_1+1))) else (none))=some r:=H
             have A31:=zA A310
             clear A310
             have HC32:=zA H
             clear H
             have p827:0≤(x61_1:Int):=of_decide_eq_true zh
             have q827:x61_1<(t819.length:Int):=of_decide_eq_true zh
             obtain ⟨ad827,A827_0,c827_0,e827,hx827_0,hl827_0,hi827_0⟩:=at_L1 (Kd.N_reads' HO_59.out).2.2 x61_1 p827 q827
             cases e827
             obtain ⟨ce827,hce827,hMe827,hcc827⟩:=Kd.N_get HO_59.out [] x61_1 p827 (by first|exact q827|exact of_decide_eq_true zh|(have e_:=(Kd.N_reads' HO_59.out).1;omega))
             obtain ⟨ua827_0,uc827_0,rfl,ul827_0,ge827_0⟩:=Kd.FK_slice_open hMe827
             have hv827_0:=hcc827 0 _ rfl
             rw [Nat.add_zero,show ((Kd.slice 3 (Kd.int .i64))).sz=1 from rfl,Nat.mul_one] at hv827_0
             replace hv827_0:=Option.some.inj (hv827_0.symm.trans hx827_0)
             injection hv827_0 with hva_ hvn_ hvc_
             rw [hva_] at ge827_0
             rw [hvc_] at ul827_0
             have HL827_0:=zA (show Kd.V (Kd.int .i64) 3 _ w.heap.size _ _ (rd_L1 t819 x61_1) from Kd.V_mk ul827_0 ge827_0)
             clear hva_ hvn_ hvc_ ge827_0 ul827_0
             clear hcc827 hce827
             have HR827_0:=zA hi827_0
             have HC827_0:=zA hl827_0
             clear hi827_0 hl827_0
             replace p827:=eq_true p827
             replace q827:=eq_true q827
             obtain ⟨Ao33,co33,eo33⟩:=Kd.N_slice HO_4.out
             subst eo33
             go_upto_if 68 with (first|((with_reducible refine gate_callee (f:=27) rfl ?_);refine goesL_ (some 67) rfl rfl Try.func27 zK rfl #[.slice A827_0 (rd_L1 t819 x61_1).length c827_0,.slice Ao33 t815.length co33] rfl zM ?_;(with_reducible refine (ancepsref42_Hits.calls k1 _ _ (rd_L1 t819 x61_1) _ _ t815 t828 _ ?side1 ?side2 ?side3 ?side4 A31.out).mono ?_);(case side1=>exact zC ((Kd.V_reads' HL827_0.out).2.2));(case side2=>exact HC827_0.out);(case side3=>exact zC (Kd.N_reads' HO_4.out).2.2);(case side4=>exact (Kd.N_reads' HO_4.out).2.1);rintro e w34 ⟨rfl,hb⟩;refine ⟨_,rfl,?_⟩;replace HO_3:=zA (Kd.N_below (zN HO_3) hb);replace HO_4:=zA (Kd.N_below (zN HO_4) hb);replace HO_6:=zA (Kd.N_below (zN HO_6) hb);replace HO_8:=zA (Kd.R_below (zR HO_8) hb);replace HO_59:=zA (Kd.N_below (zN HO_59) hb);replace HR827_0:=zA (Kd.C_below ((Kd.V_reads' HL827_0.out).2.2) hb);replace HL827_0:=zA (Kd.V_below (by (with_reducible repeat (first|apply Kd.V_alloc|apply Kd.V_drewN|apply Kd.V_drew));exact HL827_0.out) hb);replace HB:=zA (below_step zB hb);(try clear hb);(try clear hb2);(try clear hk);(try clear hi)))
             (try simp only [Act.put,zi,zs,zt])
             have H:=HC32.out
             clear HC32
             by_cases c35:t828=true
             ·subst c35
              have H1:(ancepslaw42_ConflictDual.l0 k1 t809 t815 t819 t823 t819 (t819.length:Int) (wrap64 (x61_1+1)))=some r:=by rw [if_pos rfl] at H;exact H
              clear H
              have H:=H1
              clear H1
              have H':=zA H
              clear H
              go_wp2
              go_roundg k1
              case measure=>have:=HK1.out;omega
              case rel=>exact ⟨(wrap64 (x61_1+1)),zT,H',⟨by have:=HK1.out;omega⟩,⟨by (with_reducible repeat (first|apply Kd.N_alloc|apply Kd.N_drewN|apply Kd.N_drew));exact HO_3.out⟩,⟨by (with_reducible repeat (first|apply Kd.N_alloc|apply Kd.N_drewN|apply Kd.N_drew));exact HO_4.out⟩,⟨by (with_reducible repeat (first|apply Kd.N_alloc|apply Kd.N_drewN|apply Kd.N_drew));exact HO_6.out⟩,⟨by (with_reducible repeat (first|apply Kd.R_alloc|apply Kd.R_drewN|apply Kd.R_drew));exact HO_8.out⟩,⟨by (with_reducible repeat (first|apply Kd.N_alloc|apply Kd.N_drewN|apply Kd.N_drew));exact HO_59.out⟩,⟨by repeat (first|(with_reducible first|exact HB.out|apply below_alloc|apply pw_below_drewN|apply below_drew1)|exact HB.out)⟩⟩
             ·replace c35:=Bool.eq_false_iff.mpr c35
              subst c35
              have H1:(none)=some r:=by rw [if_neg (show ¬ (false=true) by decide)] at H;exact H
              clear H
              have H:=H1
              clear H1
              exact absurd H (by simp)
            ·rw [if_neg c30] at H
             exact absurd H (by simp)
           ·rw [if_neg c29] at H
            exact absurd H (by simp)
          ·rw [if_neg c28] at H
           have c28b0:decide (x61_1<(t819.length:Int))=false:=decide_eq_false c28
           clear c28
           have H':=zA H
           clear H
           obtain ⟨Ao36,co36,eo36⟩:=Kd.N_slice HO_4.out
           subst eo36
           go_wp2
           go_loopg [72] k1 (fun kq v72 w'=>∃ (x72_2:Int),v72=.int .i64 x72_2∧Aside0 (ancepslaw42_ConflictDual.l1 kq t809 t815 t819 t823 t815 (t815.length:Int) x72_2=some r)∧Aside0 (kq≤k1)∧Aside0 (Kd.N k50 50 w' w.heap.size (fun k_=>some k_≠((.slice Ao36 t815.length co36):Value).ownBlock∧some k_≠((.slice Ao26 t819.length co26):Value).ownBlock∧some k_≠(v825:Value).ownBlock∧some k_≠((.slice Ao36 t815.length co36):Value).ownBlock) (.slice Ao12 t809.length co12) t809)∧Aside0 (Kd.N (Kd.slice 3 (Kd.int .i64)) 30 w' w.heap.size (fun k_=>some k_≠((.slice Ao12 t809.length co12):Value).ownBlock∧some k_≠((.slice Ao26 t819.length co26):Value).ownBlock∧some k_≠(v825:Value).ownBlock) (.slice Ao36 t815.length co36) t815)∧Aside0 (Kd.N (Kd.slice 3 (Kd.int .i64)) 30 w' w.heap.size (fun k_=>some k_≠((.slice Ao12 t809.length co12):Value).ownBlock∧some k_≠((.slice Ao36 t815.length co36):Value).ownBlock∧some k_≠(v825:Value).ownBlock∧some k_≠((.slice Ao36 t815.length co36):Value).ownBlock) (.slice Ao26 t819.length co26) t819)∧Aside0 (Kd.R (Kd.int .i64) 3 w' w.heap.size (fun _=>True) v825 t823)∧Aside0 (Kd.N (Kd.slice 3 (Kd.int .i64)) 30 w' w.heap.size (fun k_=>some k_≠((.slice Ao12 t809.length co12):Value).ownBlock∧some k_≠((.slice Ao26 t819.length co26):Value).ownBlock∧some k_≠(v825:Value).ownBlock) (.slice Ao36 t815.length co36) t815)∧Aside0 (Below w.heap.size w w'))
           case atStart=>exact ⟨(0),zT,H',⟨Nat.le_refl _⟩,⟨by (with_reducible repeat (first|apply Kd.N_alloc|apply Kd.N_drewN|apply Kd.N_drew));exact Kd.N_mono HO_3.out (fun _ hk=>⟨hk.1,⟨hk.2.1,⟨hk.2.2.1,hk.1⟩⟩⟩)⟩,⟨by (with_reducible repeat (first|apply Kd.N_alloc|apply Kd.N_drewN|apply Kd.N_drew));exact Kd.N_mono HO_4.out (fun _ hk=>⟨hk.1,⟨hk.2.1,hk.2.2.1⟩⟩)⟩,⟨by (with_reducible repeat (first|apply Kd.N_alloc|apply Kd.N_drewN|apply Kd.N_drew));exact Kd.N_mono HO_6.out (fun _ hk=>⟨hk.1,⟨hk.2.1,⟨hk.2.2,hk.2.1⟩⟩⟩)⟩,⟨by (with_reducible repeat (first|apply Kd.R_alloc|apply Kd.R_drewN|apply Kd.R_drew));exact HO_8.out⟩,⟨by (with_reducible repeat (first|apply Kd.N_alloc|apply Kd.N_drewN|apply Kd.N_drew));exact Kd.N_mono HO_4.out (fun _ hk=>⟨hk.1,⟨hk.2.1,hk.2.2.1⟩⟩)⟩,⟨by repeat (first|(with_reducible first|exact HB.out|apply below_alloc|apply pw_below_drewN|apply below_drew1)|exact HB.out)⟩⟩
           case round=>
            clear H'
            try clear c6
            try clear c8
            try clear c15
            try clear c15b0
            try clear c15b1
            try clear c19
            try clear c19b0
            try clear c19b1
            try clear c20
            try clear c20b0
            try clear c20b1
            try clear c21
            try clear c21b0
            try clear c21b1
            try clear c27
            try clear c27b0
            try clear c27b1
            try clear c27b2
            try clear c28
            try clear c28b0
            obtain ⟨x72_2,rfl,HA,HK2,HO_3,HO_4,HO_6,HO_8,HO_70,HB⟩:=hrel
            cases gk with
            | zero=>exact absurd HA.out (by simp [ancepslaw42_ConflictDual.l1])
            | succ k2=>
             have H:=HA.out
             clear HA
             simp only [ancepslaw42_ConflictDual.l1] at H
             by_cases c37:x72_2<(t815.length:Int)
             ·rw [if_pos c37] at H
              have c37b0:decide (x72_2<(t815.length:Int))=true:=decide_eq_true c37
              clear c37
              by_cases c38:0≤x72_2
              ·rw [if_pos c38] at H
               have c38b0:decide (0≤x72_2)=true:=decide_eq_true c38
               clear c38
               by_cases c39:x72_2<(t815.length:Int)
               ·rw [if_pos c39] at H
                have c39b0:decide (x72_2<(t815.length:Int))=true:=decide_eq_true c39
                clear c39
                replace H:=Option.bind_eq_some_iff.mp H
                obtain ⟨t830,A400,H⟩:=H
                replace H:(if t830=true then (ancepslaw42_ConflictDual.l1 k2 t809 t815 t819 t823 t815 (t815.length:Int) (wrap64 (x72_2+1))) else (none))=some r:=H
                have A40:=zA A400
                clear A400
                have HC41:=zA H
                clear H
                have p829:0≤(x72_2:Int):=of_decide_eq_true zh
                have q829:x72_2<(t815.length:Int):=of_decide_eq_true zh
                obtain ⟨ad829,A829_0,c829_0,e829,hx829_0,hl829_0,hi829_0⟩:=at_L1 (Kd.N_reads' HO_70.out).2.2 x72_2 p829 q829
                cases e829
                obtain ⟨ce829,hce829,hMe829,hcc829⟩:=Kd.N_get HO_70.out [] x72_2 p829 (by first|exact q829|exact of_decide_eq_true zh|(have e_:=(Kd.N_reads' HO_70.out).1;omega))
                obtain ⟨ua829_0,uc829_0,rfl,ul829_0,ge829_0⟩:=Kd.FK_slice_open hMe829
                have hv829_0:=hcc829 0 _ rfl
                rw [Nat.add_zero,show ((Kd.slice 3 (Kd.int .i64))).sz=1 from rfl,Nat.mul_one] at hv829_0
                replace hv829_0:=Option.some.inj (hv829_0.symm.trans hx829_0)
                injection hv829_0 with hva_ hvn_ hvc_
                rw [hva_] at ge829_0
                rw [hvc_] at ul829_0
                have HL829_0:=zA (show Kd.V (Kd.int .i64) 3 _ w.heap.size _ _ (rd_L1 t815 x72_2) from Kd.V_mk ul829_0 ge829_0)
                clear hva_ hvn_ hvc_ ge829_0 ul829_0
                clear hcc829 hce829
                have HR829_0:=zA hi829_0
                have HC829_0:=zA hl829_0
                clear hi829_0 hl829_0
                replace p829:=eq_true p829
                replace q829:=eq_true q829
                go_upto_if 79 with (first|((with_reducible refine gate_callee (f:=27) rfl ?_);refine goesL_ (some 78) rfl rfl Try.func27 zK rfl #[.slice A829_0 (rd_L1 t815 x72_2).length c829_0,.slice Ao26 t819.length co26] rfl zM ?_;(with_reducible refine (ancepsref42_Hits.calls k2 _ _ (rd_L1 t815 x72_2) _ _ t819 t830 _ ?side1 ?side2 ?side3 ?side4 A40.out).mono ?_);(case side1=>exact zC ((Kd.V_reads' HL829_0.out).2.2));(case side2=>exact HC829_0.out);(case side3=>exact zC (Kd.N_reads' HO_6.out).2.2);(case side4=>exact (Kd.N_reads' HO_6.out).2.1);rintro e w42 ⟨rfl,hb⟩;refine ⟨_,rfl,?_⟩;replace HO_3:=zA (Kd.N_below (zN HO_3) hb);replace HO_4:=zA (Kd.N_below (zN HO_4) hb);replace HO_6:=zA (Kd.N_below (zN HO_6) hb);replace HO_8:=zA (Kd.R_below (zR HO_8) hb);replace HO_70:=zA (Kd.N_below (zN HO_70) hb);replace HR829_0:=zA (Kd.C_below ((Kd.V_reads' HL829_0.out).2.2) hb);replace HL829_0:=zA (Kd.V_below (by (with_reducible repeat (first|apply Kd.V_alloc|apply Kd.V_drewN|apply Kd.V_drew));exact HL829_0.out) hb);replace HB:=zA (below_step zB hb);(try clear hb);(try clear hb2);(try clear hk);(try clear hi)))
                (try simp only [Act.put,zi,zs,zt])
                have H:=HC41.out
                clear HC41
                by_cases c43:t830=true
                ·subst c43
                 have H1:(ancepslaw42_ConflictDual.l1 k2 t809 t815 t819 t823 t815 (t815.length:Int) (wrap64 (x72_2+1)))=some r:=by rw [if_pos rfl] at H;exact H
                 clear H
                 have H:=H1
                 clear H1
                 have H':=zA H
                 clear H
                 go_wp2
                 go_roundg k2
                 case measure=>have:=HK1.out;have:=HK2.out;omega
                 case rel=>exact ⟨(wrap64 (x72_2+1)),zT,H',⟨by have:=HK1.out;have:=HK2.out;omega⟩,⟨by (with_reducible repeat (first|apply Kd.N_alloc|apply Kd.N_drewN|apply Kd.N_drew));exact HO_3.out⟩,⟨by (with_reducible repeat (first|apply Kd.N_alloc|apply Kd.N_drewN|apply Kd.N_drew));exact HO_4.out⟩,⟨by (with_reducible repeat (first|apply Kd.N_alloc|apply Kd.N_drewN|apply Kd.N_drew));exact HO_6.out⟩,⟨by (with_reducible repeat (first|apply Kd.R_alloc|apply Kd.R_drewN|apply Kd.R_drew));exact HO_8.out⟩,⟨by (with_reducible repeat (first|apply Kd.N_alloc|apply Kd.N_drewN|apply Kd.N_drew));exact HO_70.out⟩,⟨by repeat (first|(with_reducible first|exact HB.out|apply below_alloc|apply pw_below_drewN|apply below_drew1)|exact HB.out)⟩⟩
                ·replace c43:=Bool.eq_false_iff.mpr c43
                 subst c43
                 have H1:(none)=some r:=by rw [if_neg (show ¬ (false=true) by decide)] at H;exact H
                 clear H
                 have H:=H1
                 clear H1
                 exact absurd H (by simp)
               ·rw [if_neg c39] at H
                exact absurd H (by simp)
              ·rw [if_neg c38] at H
               exact absurd H (by simp)
             ·rw [if_neg c37] at H
              have c37b0:decide (x72_2<(t815.length:Int))=false:=decide_eq_false c37
              clear c37
              replace H:=Option.bind_eq_some_iff.mp H
              obtain ⟨t831,A440,H⟩:=H
              replace H:((slices_Equal_int_int.f k2 t831 t823).bind fun t834=>(if t834=true then (if (t815.length:Int)=0 then (some true) else ((ancepsref42_Union.f k2 t819 (t809.length:Int)).bind fun t835=>((slices_Equal_int_int.f k2 t835 t823).bind fun t838=>(some t838)))) else (none)))=some r:=H
              have A44:=zA A440
              clear A440
              replace H:=Option.bind_eq_some_iff.mp H
              obtain ⟨t834,A450,H⟩:=H
              replace H:(if t834=true then (if (t815.length:Int)=0 then (some true) else ((ancepsref42_Union.f k2 t819 (t809.length:Int)).bind fun t835=>((slices_Equal_int_int.f k2 t835 t823).bind fun t838=>(some t838)))) else (none))=some r:=H
              have A45:=zA A450
              clear A450
              by_cases c46:t834=true
              ·subst c46
               have H1:(if (t815.length:Int)=0 then (some true) else ((ancepsref42_Union.f k2 t819 (t809.length:Int)).bind fun t835=>((slices_Equal_int_int.f k2 t835 t823).bind fun t838=>(some t838))))=some r:=by rw [if_pos rfl] at H;exact H
               clear H
               have H:=H1
               clear H1
               by_cases c47:(t815.length:Int)=0
               ·rw [if_pos c47] at H
                have c47b0:((t815.length:Int) == 0)=true:=beq_iff_eq.mpr c47
                have c47b1:((t815.length:Int) != 0)=false:=bne_eq_false_iff_eq.mpr c47
                clear c47
                obtain rfl:=Option.some.inj H
                go_wp2_with (first|((with_reducible refine gate_callee (f:=28) rfl ?_);refine goesL_ (some 84) rfl rfl Try.func28 zK rfl #[.slice Ao36 t815.length co36,.int .i64 (t809.length:Int)] rfl zM ?_;(with_reducible refine (ancepsref42_Union.calls k2 _ _ t815 (t809.length:Int) t831 _ ?side1 ?side2 A44.out).mono ?_);(case side1=>exact zC (Kd.N_reads' HO_4.out).2.2);(case side2=>exact (Kd.N_reads' HO_4.out).2.1);rintro e w48 ⟨v832,rfl,ho0,hb⟩;refine ⟨_,rfl,?_⟩;have HO833:=zA (Kd.R_lower (Kd.R_new' ho0 (Kd.R_lt (zR HO_8))) (below_size zB));replace HO_3:=zA (Kd.N_elder' (zN HO_3) (Kd.R_base ho0) hb);replace HO_4:=zA (Kd.N_elder' (zN HO_4) (Kd.R_base ho0) hb);replace HO_6:=zA (Kd.N_elder' (zN HO_6) (Kd.R_base ho0) hb);replace HO_8:=zA (Kd.R_elder' (zR HO_8) (Kd.R_base ho0) hb);replace HO_70:=zA (Kd.N_elder' (zN HO_70) (Kd.R_base ho0) hb);replace HB:=zA (below_step zB hb);(try clear hb);(try clear hb2);(try clear hk);(try clear hi);(try clear ho0);obtain ⟨Ao49,co49,eo49⟩:=Kd.R_slice HO833.out;subst eo49;obtain ⟨Ao50,co50,eo50⟩:=Kd.R_slice HO_8.out;subst eo50)|((with_reducible refine gate_callee (f:=19) rfl ?_);refine goesL_ (some 86) rfl rfl Try.func19 zK rfl #[.slice Ao49 t831.length co49,.slice Ao50 t823.length co50] rfl zM ?_;(with_reducible refine (slices_Equal_int_int.calls k2 _ _ t831 _ _ t823 true _ ?side1 ?side2 ?side3 ?side4 A45.out).mono ?_);(case side1=>exact zC (Kd.R_reads' HO833.out).2.2);(case side2=>exact (Kd.R_reads' HO833.out).2.1);(case side3=>exact zC (Kd.R_reads' HO_8.out).2.2);(case side4=>exact (Kd.R_reads' HO_8.out).2.1);rintro e w' ⟨rfl,⟨nd,rfl⟩⟩;refine ⟨_,rfl,?_⟩))
                go_ret
                exact ⟨by first|rfl|(simp [errW_none,errW_some] <;> rfl)|(simp [*,errW_none,errW_some] <;> rfl),by repeat (first|(with_reducible first|exact HB.out|apply below_alloc|apply pw_below_drewN|apply below_drew1)|exact HB.out)⟩
               ·rw [if_neg c47] at H
                have c47b0:((t815.length:Int) == 0)=false:=beq_eq_false_iff_ne.mpr c47
                have c47b1:((t815.length:Int) != 0)=true:=bne_iff_ne.mpr c47
                have c47b2:¬ (t815=[]):=fun h_=>c47 (by rw [h_];rfl)
                replace H:=Option.bind_eq_some_iff.mp H
                obtain ⟨t835,A510,H⟩:=H
                replace H:((slices_Equal_int_int.f k2 t835 t823).bind fun t838=>(some t838))=some r:=H
                have A51:=zA A510
                clear A510
                replace H:=Option.bind_eq_some_iff.mp H
                obtain ⟨t838,A520,H⟩:=H
                replace H:(some t838)=some r:=H
                have A52:=zA A520
                clear A520
                obtain rfl:=Option.some.inj H
                go_wp2_with (first|((with_reducible refine gate_callee (f:=28) rfl ?_);refine goesL_ (some 84) rfl rfl Try.func28 zK rfl #[.slice Ao36 t815.length co36,.int .i64 (t809.length:Int)] rfl zM ?_;(with_reducible refine (ancepsref42_Union.calls k2 _ _ t815 (t809.length:Int) t831 _ ?side1 ?side2 A44.out).mono ?_);(case side1=>exact zC (Kd.N_reads' HO_4.out).2.2);(case side2=>exact (Kd.N_reads' HO_4.out).2.1);rintro e w53 ⟨v832,rfl,ho0,hb⟩;refine ⟨_,rfl,?_⟩;have HO833:=zA (Kd.R_lower (Kd.R_new' ho0 (Kd.R_lt (zR HO_8))) (below_size zB));replace HO_3:=zA (Kd.N_elder' (zN HO_3) (Kd.R_base ho0) hb);replace HO_4:=zA (Kd.N_elder' (zN HO_4) (Kd.R_base ho0) hb);replace HO_6:=zA (Kd.N_elder' (zN HO_6) (Kd.R_base ho0) hb);replace HO_8:=zA (Kd.R_elder' (zR HO_8) (Kd.R_base ho0) hb);replace HO_70:=zA (Kd.N_elder' (zN HO_70) (Kd.R_base ho0) hb);replace HB:=zA (below_step zB hb);(try clear hb);(try clear hb2);(try clear hk);(try clear hi);(try clear ho0);obtain ⟨Ao54,co54,eo54⟩:=Kd.R_slice HO833.out;subst eo54;obtain ⟨Ao55,co55,eo55⟩:=Kd.R_slice HO_8.out;subst eo55)|((with_reducible refine gate_callee (f:=19) rfl ?_);refine goesL_ (some 86) rfl rfl Try.func19 zK rfl #[.slice Ao54 t831.length co54,.slice Ao55 t823.length co55] rfl zM ?_;(with_reducible refine (slices_Equal_int_int.calls k2 _ _ t831 _ _ t823 true _ ?side1 ?side2 ?side3 ?side4 A45.out).mono ?_);(case side1=>exact zC (Kd.R_reads' HO833.out).2.2);(case side2=>exact (Kd.R_reads' HO833.out).2.1);(case side3=>exact zC (Kd.R_reads' HO_8.out).2.2);(case side4=>exact (Kd.R_reads' HO_8.out).2.1);rintro e w' ⟨rfl,⟨nd,rfl⟩⟩;refine ⟨_,rfl,?_⟩)|(go_at_call 28;(with_reducible refine (ancepsref42_Union.calls k2 _ _ t819 (t809.length:Int) t835 _ ?side1 ?side2 A51.out).mono ?_);(case side1=>exact zC (Kd.N_reads' HO_6.out).2.2);(case side2=>exact (Kd.N_reads' HO_6.out).2.1);rintro e w56 ⟨v836,rfl,ho0,hb⟩;have HO837:=zA (Kd.R_lower (Kd.R_new' (Kd.R_new' ho0 (Kd.R_lt (zR HO_8))) (Kd.R_lt (zR HO833))) (below_size zB));replace HO_3:=zA (Kd.N_elder' (zN HO_3) (Kd.R_base ho0) hb);replace HO_4:=zA (Kd.N_elder' (zN HO_4) (Kd.R_base ho0) hb);replace HO_6:=zA (Kd.N_elder' (zN HO_6) (Kd.R_base ho0) hb);replace HO_8:=zA (Kd.R_elder' (zR HO_8) (Kd.R_base ho0) hb);replace HO_70:=zA (Kd.N_elder' (zN HO_70) (Kd.R_base ho0) hb);replace HO833:=zA (Kd.R_elder' (zR HO833) (Kd.R_base ho0) hb);replace HB:=zA (below_step zB hb);(try clear hb);(try clear hb2);(try clear hk);(try clear hi);(try clear ho0);obtain ⟨Ao57,co57,eo57⟩:=Kd.R_slice HO837.out;subst eo57)|(go_at_call 19;(with_reducible refine (slices_Equal_int_int.calls k2 _ _ t835 _ _ t823 t838 _ ?side1 ?side2 ?side3 ?side4 A52.out).mono ?_);(case side1=>exact zC (Kd.R_reads' HO837.out).2.2);(case side2=>exact (Kd.R_reads' HO837.out).2.1);(case side3=>exact zC (Kd.R_reads' HO_8.out).2.2);(case side4=>exact (Kd.R_reads' HO_8.out).2.1);rintro e w' ⟨rfl,⟨nd,rfl⟩⟩))
                go_ret
                exact ⟨by first|rfl|(simp [errW_none,errW_some] <;> rfl)|(simp [*,errW_none,errW_some] <;> rfl),by repeat (first|(with_reducible first|exact HB.out|apply below_alloc|apply pw_below_drewN|apply below_drew1)|exact HB.out)⟩
              ·replace c46:=Bool.eq_false_iff.mpr c46
               subst c46
               have H1:(none)=some r:=by rw [if_neg (show ¬ (false=true) by decide)] at H;exact H
               clear H
               have H:=H1
               clear H1
               exact absurd H (by simp)
      ·rw [if_neg c21] at H
       exact absurd H (by simp)
     ·rw [if_neg c20] at H
      exact absurd H (by simp)
    ·rw [if_neg c19] at H
     exact absurd H (by simp)
   ·rw [if_neg c15] at H
    have c15b0:(t814 == 0)=false:=beq_eq_false_iff_ne.mpr c15
    have c15b1:(t814 != 0)=true:=bne_iff_ne.mpr c15
    (first|rw [c15b0]|(simp only [i64_w,i32_w];rw [c15b0])|skip)
    (try rw [c15b1])
    replace H:=Option.bind_eq_some_iff.mp H
    obtain ⟨t839,A580,H⟩:=H
    replace H:(some t839)=some r:=H
    have A58:=zA A580
    clear A580
    obtain rfl:=Option.some.inj H
    go_wp2_with (first|((with_reducible refine gate_callee (f:=9) rfl ?_);refine goesL_ (some 28) rfl rfl Try.func9 zK rfl #[] rfl zM ?_;(with_reducible refine (ancepslaw42_awake.calls k  t839 _ A58.out).mono ?_);rintro e w59 ⟨rfl,hb⟩;refine ⟨_,rfl,?_⟩;replace HO811:=zA (Kd.N_below (zN HO811) hb);replace HB:=zA (below_step zB hb);(try clear hb);(try clear hb2);(try clear hk);(try clear hi)))
    go_ret
    exact ⟨by first|rfl|(simp [errW_none,errW_some] <;> rfl)|(simp [*,errW_none,errW_some] <;> rfl),by repeat (first|(with_reducible first|exact HB.out|apply below_alloc|apply pw_below_drewN|apply below_drew1)|exact HB.out)⟩
  ·replace c8:=Bool.eq_false_iff.mpr c8
   subst c8
   have H1:((ancepslaw42_awake.f k).bind fun t840=>(some t840))=some r:=by rw [if_neg (show ¬ (false=true) by decide)] at H;exact H
   clear H
   have H:=H1
   clear H1
   replace H:=Option.bind_eq_some_iff.mp H
   obtain ⟨t840,A600,H⟩:=H
   replace H:(some t840)=some r:=H
   have A60:=zA A600
   clear A600
   obtain rfl:=Option.some.inj H
   go_wp2_with (first|((with_reducible refine gate_callee (f:=9) rfl ?_);refine goesL_ (some 16) rfl rfl Try.func9 zK rfl #[] rfl zM ?_;(with_reducible refine (ancepslaw42_awake.calls k  true _ A5.out).mono ?_);rintro e w61 ⟨rfl,hb⟩;refine ⟨_,rfl,?_⟩;replace HO811:=zA (Kd.N_below (zN HO811) hb);replace HB:=zA (below_step zB hb);(try clear hb);(try clear hb2);(try clear hk);(try clear hi);obtain ⟨Ao62,co62,eo62⟩:=Kd.N_slice HO811.out;subst eo62)|(go_at_call 10;(with_reducible refine (ancepsref42_Few.calls k _ _ t809 false _ ?side1 ?side2 A7.out).mono ?_);(case side1=>exact zC (Kd.N_reads' HO811.out).2.2);(case side2=>exact (Kd.N_reads' HO811.out).2.1);rintro e w63 ⟨rfl,hb⟩;replace HO811:=zA (Kd.N_below (zN HO811) hb);replace HB:=zA (below_step zB hb);(try clear hb);(try clear hb2);(try clear hk);(try clear hi))|((with_reducible refine gate_callee (f:=9) rfl ?_);refine goesL_ (some 28) rfl rfl Try.func9 zK rfl #[] rfl zM ?_;(with_reducible refine (ancepslaw42_awake.calls k  t840 _ A60.out).mono ?_);rintro e w64 ⟨rfl,hb⟩;refine ⟨_,rfl,?_⟩;replace HO811:=zA (Kd.N_below (zN HO811) hb);replace HB:=zA (below_step zB hb);(try clear hb);(try clear hb2);(try clear hk);(try clear hi)))
   go_ret
   exact ⟨by first|rfl|(simp [errW_none,errW_some] <;> rfl)|(simp [*,errW_none,errW_some] <;> rfl),by repeat (first|(with_reducible first|exact HB.out|apply below_alloc|apply pw_below_drewN|apply below_drew1)|exact HB.out)⟩
 ·replace c6:=Bool.eq_false_iff.mpr c6
  subst c6
  have H1:((ancepslaw42_awake.f k).bind fun t841=>(some t841))=some r:=by rw [if_neg (show ¬ (false=true) by decide)] at H;exact H
  clear H
  have H:=H1
  clear H1
  replace H:=Option.bind_eq_some_iff.mp H
  obtain ⟨t841,A650,H⟩:=H
  replace H:(some t841)=some r:=H
  have A65:=zA A650
  clear A650
  obtain rfl:=Option.some.inj H
  go_wp2_with (first|((with_reducible refine gate_callee (f:=9) rfl ?_);refine goesL_ (some 16) rfl rfl Try.func9 zK rfl #[] rfl zM ?_;(with_reducible refine (ancepslaw42_awake.calls k  false _ A5.out).mono ?_);rintro e w66 ⟨rfl,hb⟩;refine ⟨_,rfl,?_⟩;replace HO811:=zA (Kd.N_below (zN HO811) hb);replace HB:=zA (below_step zB hb);(try clear hb);(try clear hb2);(try clear hk);(try clear hi))|((with_reducible refine gate_callee (f:=9) rfl ?_);refine goesL_ (some 28) rfl rfl Try.func9 zK rfl #[] rfl zM ?_;(with_reducible refine (ancepslaw42_awake.calls k  t841 _ A65.out).mono ?_);rintro e w67 ⟨rfl,hb⟩;refine ⟨_,rfl,?_⟩;replace HO811:=zA (Kd.N_below (zN HO811) hb);replace HB:=zA (below_step zB hb);(try clear hb);(try clear hb2);(try clear hk);(try clear hi)))
  go_ret
  exact ⟨by first|rfl|(simp [errW_none,errW_some] <;> rfl)|(simp [*,errW_none,errW_some] <;> rfl),by repeat (first|(with_reducible first|exact HB.out|apply below_alloc|apply pw_below_drewN|apply below_drew1)|exact HB.out)⟩
end Go.Proofs.Ytkjghablbeaioaa.S
