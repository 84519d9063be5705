import Derived.Test.YtkjghablbeaioaaS0
import Derived.Test.YtkjghablbeaioaaS1
import Derived.Test.YtkjghablbeaioaaS5
import Derived.Test.YtkjghablbeaioaaS6
import Derived.Test.YtkjghablbeaioaaS8
import Derived.Test.YtkjghablbeaioaaS9
import Derived.Test.YtkjghablbeaioaaS10
import Derived.Test.YtkjghablbeaioaaS13
import Derived.Test.YtkjghablbeaioaaS15
import Derived.Test.YtkjghablbeaioaaS16
namespace Go.Proofs.Ytkjghablbeaioaa.S
open Go.RowKit Go.Proofs.YtkjghablbeaioaaW.PrintWords Go.Proofs.YtkjghablbeaioaaW.PrintLast Go.Proofs.YtkjghablbeaioaaW.PrintMore
attribute [local go_sem] max2_int min2_int max_two min_two max_three min_three max_four min_four
set_option linter.unusedVariables false
set_option linter.unusedSimpArgs false
def ancepsref42_Is.l0:Nat→List (S50)→List Int→Int→Option (Bool)
 | 0,_,_,_=>none
 | k+1,x0,x1,x5=>if x5<(x1.length:Int) then (if 0≤x5 then (if (rd x1 x5)<0 then (some false) else (if (rd x1 x5)≥(x0.length:Int) then (some false) else (if x5>0 then (if 0≤(wrap64 (x5 - 1)) then (if (wrap64 (x5 - 1))<(x1.length:Int) then (if (rd x1 x5)≤(rd x1 (wrap64 (x5 - 1))) then (some false) else (ancepsref42_Is.l0 k x0 x1 (wrap64 (x5+1)))) else (none)) else (none)) else (ancepsref42_Is.l0 k x0 x1 (wrap64 (x5+1)))))) else (none)) else (some true)
def ancepsref42_Is.f (k:Nat) (l0:List (S50)) (l1:List Int):Option (Bool):=ancepsref42_Is.l0 k l0 l1 0
theorem ancepsref42_Is.mono_l:∀ k,(∀ y0 y1 y2,LeO (ancepsref42_Is.l0 k y0 y1 y2) (ancepsref42_Is.l0 (k+1) y0 y1 y2))
 | 0=>fun _ _ _ r h=>by simp [ancepsref42_Is.l0] at h
 | k+1=>by
  have ih0:=ancepsref42_Is.mono_l k
  ·intro y0 y1 y2
   unfold ancepsref42_Is.l0
   repeat' first
   | (with_reducible exact ih0 _ _ _)
   | (with_reducible exact LeO.refl _)
   | (with_reducible exact LeO.none _)
   | (with_reducible refine LeO.ite ?_ ?_)
   | (with_reducible refine LeO.bind ?_ (fun _=>?_))
   | exact LeO.none _
   | refine LeO.ite ?_ ?_
   | refine LeO.bind ?_ (fun _=>?_)
theorem ancepsref42_Is.mono:∀ a0 a1 k,LeO (ancepsref42_Is.f k a0 a1) (ancepsref42_Is.f (k+1) a0 a1):=by
 intro a0 a1 k
 have ih0:=ancepsref42_Is.mono_l k
 unfold ancepsref42_Is.f
 repeat' first
   | (with_reducible exact ih0 _ _ _)
   | (with_reducible exact LeO.refl _)
   | (with_reducible exact LeO.none _)
   | (with_reducible refine LeO.ite ?_ ?_)
   | (with_reducible refine LeO.bind ?_ (fun _=>?_))
   | exact LeO.none _
   | refine LeO.ite ?_ ?_
   | refine LeO.bind ?_ (fun _=>?_)
set_option maxHeartbeats 8000000 in
set_option maxRecDepth 100000 in
theorem ancepsref42_Is.calls (k:Nat) (A0:Option Addr) (c0:Nat) (l0:List (S50)) (A1:Option Addr) (c1:Nat) (l1:List Int) (r:Bool) (w:World) (hr0:Kd.C k50 w A0 l0.length l0) (hc0:l0.length≤c0) (hr1:Kd.C (Kd.int .i64) w A1 l1.length l1) (hc1:l1.length≤c1) (h:ancepsref42_Is.f k l0 l1=some r) :
  Calls Try.prog 56 #[.slice A0 l0.length c0,.slice A1 l1.length c1] w fun e w'=>e=.returned (.bool r)∧Drawn0 w w':=by
 have hu3:=Try.underlying3
 have HR0:=zA hr0
 have HC0:=zA hc0
 clear hr0 hc0
 have HR1:=zA hr1
 have HC1:=zA hc1
 clear hr1 hc1
 have H:(ancepsref42_Is.l0 k l0 l1 0)=some r:=h
 clear h
 have H':=zA H
 clear H
 go_enter Try.func56,Try.ntmps56
 go_wp2
 repeat (go_quiet (fail);try go_wp2)
 go_loopg [5] k (fun kq v5 w'=>∃ (x5_1:Int),v5=.int .i64 x5_1∧Aside0 (ancepsref42_Is.l0 kq l0 l1 x5_1=some r)∧Aside0 (kq≤k)∧Drawn0 w w')
 case atStart=>exact ⟨(0),zT,H',⟨Nat.le_refl _⟩,by repeat (first|exact Drawn0.refl _|apply Drawn0.step)⟩
 case round=>
  clear H'
  obtain ⟨x5_1,rfl,HA,HK1,⟨m1,rfl⟩⟩:=hrel
  cases gk with
  | zero=>exact absurd HA.out (by simp [ancepsref42_Is.l0])
  | succ k1=>
   have H:=HA.out
   clear HA
   simp only [ancepsref42_Is.l0] at H
   by_cases c3:x5_1<(l1.length:Int)
   ·rw [if_pos c3] at H
    have c3b0:decide (x5_1<(l1.length:Int))=true:=decide_eq_true c3
    clear c3
    by_cases c4:0≤x5_1
    ·rw [if_pos c4] at H
     have c4b0:decide (0≤x5_1)=true:=decide_eq_true c4
     clear c4
     by_cases c5:(rd l1 x5_1)<0
     ·rw [if_pos c5] at H
      have c5b0:decide ((rd l1 x5_1)<0)=true:=decide_eq_true c5
      clear c5
      obtain rfl:=Option.some.inj H
      have p743:0≤(x5_1:Int):=of_decide_eq_true zh
      have q743:x5_1<(l1.length:Int):=of_decide_eq_true zh
      obtain ⟨ad743,e743,hx743_0⟩:=Kd.at_int HR1.out x5_1 p743 q743
      cases e743
      replace p743:=eq_true p743
      replace q743:=eq_true q743
      go_wp2
      repeat (go_quiet (fail);try go_wp2)
      go_ret
      exact ⟨by first|rfl|(simp;done)|(simp [*];done),by repeat (first|exact Drawn0.refl _|apply Drawn0.step)⟩
     ·rw [if_neg c5] at H
      have c5b0:decide ((rd l1 x5_1)<0)=false:=decide_eq_false c5
      clear c5
      by_cases c6:(rd l1 x5_1)≥(l0.length:Int)
      ·rw [if_pos c6] at H
       have c6b0:decide ((l0.length:Int)≤(rd l1 x5_1))=true:=decide_eq_true c6
       clear c6
       obtain rfl:=Option.some.inj H
       have p743:0≤(x5_1:Int):=of_decide_eq_true zh
       have q743:x5_1<(l1.length:Int):=of_decide_eq_true zh
       obtain ⟨ad743,e743,hx743_0⟩:=Kd.at_int HR1.out x5_1 p743 q743
       cases e743
       replace p743:=eq_true p743
       replace q743:=eq_true q743
       have p744:0≤(x5_1:Int):=of_decide_eq_true zh
       have q744:x5_1<(l1.length:Int):=of_decide_eq_true zh
       obtain ⟨ad744,e744,hx744_0⟩:=Kd.at_int HR1.out x5_1 p744 q744
       obtain rfl:ad743=ad744:=(by injection e744)
       replace p744:=eq_true p744
       replace q744:=eq_true q744
       go_wp2
       repeat (go_quiet (fail);try go_wp2)
       go_ret
       exact ⟨by first|rfl|(simp;done)|(simp [*];done),by repeat (first|exact Drawn0.refl _|apply Drawn0.step)⟩
      ·rw [if_neg c6] at H
       have c6b0:decide ((l0.length:Int)≤(rd l1 x5_1))=false:=decide_eq_false c6
       clear c6
       by_cases c7:x5_1>0
       ·rw [if_pos c7] at H
        have c7b0:decide (0<x5_1)=true:=decide_eq_true c7
        clear c7
        obtain ⟨ji8,hji8⟩:∃ j_:Int,(wrap64 (x5_1 - 1))=j_:=⟨_,rfl⟩
        replace H:(if 0≤(ji8) then (if (ji8)<(l1.length:Int) then (if (rd l1 x5_1)≤(rd l1 (ji8)) then (some false) else (ancepsref42_Is.l0 k1 l0 l1 (wrap64 (x5_1+1)))) else (none)) else (none))=some r:=by first|(rw [hji8] at H;exact H)|(simp only [hji8] at H ⊢;exact H)
        have hji8w:(IntKind.i64.wrap (x5_1 - 1))=ji8:=(i64_w _).trans hji8
        by_cases c9:0≤(ji8)
        ·rw [if_pos c9] at H
         have c9b0:decide (0≤(ji8))=true:=decide_eq_true c9
         clear c9
         by_cases c10:(ji8)<(l1.length:Int)
         ·rw [if_pos c10] at H
          have c10b0:decide ((ji8)<(l1.length:Int))=true:=decide_eq_true c10
          clear c10
          by_cases c11:(rd l1 x5_1)≤(rd l1 (ji8))
          ·rw [if_pos c11] at H
           have c11b0:decide ((rd l1 x5_1)≤(rd l1 (ji8)))=true:=decide_eq_true c11
           clear c11
           obtain rfl:=Option.some.inj H
           have p743:0≤(x5_1:Int):=of_decide_eq_true zh
           have q743:x5_1<(l1.length:Int):=of_decide_eq_true zh
           obtain ⟨ad743,e743,hx743_0⟩:=Kd.at_int HR1.out x5_1 p743 q743
           cases e743
           replace p743:=eq_true p743
           replace q743:=eq_true q743
           have p744:0≤(x5_1:Int):=of_decide_eq_true zh
           have q744:x5_1<(l1.length:Int):=of_decide_eq_true zh
           obtain ⟨ad744,e744,hx744_0⟩:=Kd.at_int HR1.out x5_1 p744 q744
           obtain rfl:ad743=ad744:=(by injection e744)
           replace p744:=eq_true p744
           replace q744:=eq_true q744
           have p745:0≤(x5_1:Int):=of_decide_eq_true zh
           have q745:x5_1<(l1.length:Int):=of_decide_eq_true zh
           obtain ⟨ad745,e745,hx745_0⟩:=Kd.at_int HR1.out x5_1 p745 q745
           obtain rfl:ad743=ad745:=(by injection e745)
           replace p745:=eq_true p745
           replace q745:=eq_true q745
           have p746:0≤((ji8):Int):=of_decide_eq_true zh
           have q746:(ji8)<(l1.length:Int):=of_decide_eq_true zh
           obtain ⟨ad746,e746,hx746_0⟩:=Kd.at_int HR1.out (ji8) p746 q746
           obtain rfl:ad743=ad746:=(by injection e746)
           replace p746:=eq_true p746
           replace q746:=eq_true q746
           go_wp2
           repeat (go_quiet (fail);try go_wp2)
           go_ret
           exact ⟨by first|rfl|(simp;done)|(simp only [← hji8] <;> (first|rfl|simp))|(simp [*];done),by repeat (first|exact Drawn0.refl _|apply Drawn0.step)⟩
          ·rw [if_neg c11] at H
           have c11b0:decide ((rd l1 x5_1)≤(rd l1 (ji8)))=false:=decide_eq_false c11
           clear c11
           have H':=zA H
           clear H
           have p743:0≤(x5_1:Int):=of_decide_eq_true zh
           have q743:x5_1<(l1.length:Int):=of_decide_eq_true zh
           obtain ⟨ad743,e743,hx743_0⟩:=Kd.at_int HR1.out x5_1 p743 q743
           cases e743
           replace p743:=eq_true p743
           replace q743:=eq_true q743
           have p744:0≤(x5_1:Int):=of_decide_eq_true zh
           have q744:x5_1<(l1.length:Int):=of_decide_eq_true zh
           obtain ⟨ad744,e744,hx744_0⟩:=Kd.at_int HR1.out x5_1 p744 q744
           obtain rfl:ad743=ad744:=(by injection e744)
           replace p744:=eq_true p744
           replace q744:=eq_true q744
           have p745:0≤(x5_1:Int):=of_decide_eq_true zh
           have q745:x5_1<(l1.length:Int):=of_decide_eq_true zh
           obtain ⟨ad745,e745,hx745_0⟩:=Kd.at_int HR1.out x5_1 p745 q745
           obtain rfl:ad743=ad745:=(by injection e745)
           replace p745:=eq_true p745
           replace q745:=eq_true q745
           have p746:0≤((ji8):Int):=of_decide_eq_true zh
           have q746:(ji8)<(l1.length:Int):=of_decide_eq_true zh
           obtain ⟨ad746,e746,hx746_0⟩:=Kd.at_int HR1.out (ji8) p746 q746
           obtain rfl:ad743=ad746:=(by injection e746)
           replace p746:=eq_true p746
           replace q746:=eq_true q746
           go_wp2
           repeat (go_quiet (fail);try go_wp2)
           go_roundg k1
           case measure=>have:=HK1.out;omega
           case rel=>exact ⟨(wrap64 (x5_1+1)),zT,H',⟨by have:=HK1.out;omega⟩,by repeat (first|exact Drawn0.refl _|apply Drawn0.step)⟩
         ·rw [if_neg c10] at H
          exact absurd H (by simp)
        ·rw [if_neg c9] at H
         exact absurd H (by simp)
       ·rw [if_neg c7] at H
        have c7b0:decide (0<x5_1)=false:=decide_eq_false c7
        clear c7
        have H':=zA H
        clear H
        have p743:0≤(x5_1:Int):=of_decide_eq_true zh
        have q743:x5_1<(l1.length:Int):=of_decide_eq_true zh
        obtain ⟨ad743,e743,hx743_0⟩:=Kd.at_int HR1.out x5_1 p743 q743
        cases e743
        replace p743:=eq_true p743
        replace q743:=eq_true q743
        have p744:0≤(x5_1:Int):=of_decide_eq_true zh
        have q744:x5_1<(l1.length:Int):=of_decide_eq_true zh
        obtain ⟨ad744,e744,hx744_0⟩:=Kd.at_int HR1.out x5_1 p744 q744
        obtain rfl:ad743=ad744:=(by injection e744)
        replace p744:=eq_true p744
        replace q744:=eq_true q744
        go_wp2
        repeat (go_quiet (fail);try go_wp2)
        go_roundg k1
        case measure=>have:=HK1.out;omega
        case rel=>exact ⟨(wrap64 (x5_1+1)),zT,H',⟨by have:=HK1.out;omega⟩,by repeat (first|exact Drawn0.refl _|apply Drawn0.step)⟩
    ·rw [if_neg c4] at H
     exact absurd H (by simp)
   ·rw [if_neg c3] at H
    have c3b0:decide (x5_1<(l1.length:Int))=false:=decide_eq_false c3
    clear c3
    obtain rfl:=Option.some.inj H
    go_wp2
    repeat (go_quiet (fail);try go_wp2)
    go_ret
    exact ⟨by first|rfl|(simp;done)|(simp [*];done),by repeat (first|exact Drawn0.refl _|apply Drawn0.step)⟩
mutual
def ancepsref42_Shrink.l0:Nat→List (S50)→List Int→List Int→Int→Option (List Int×Int)
 | 0,_,_,_,_=>none
 | k+1,x0,x1,x7,x8=>if x8<(x1.length:Int) then (ancepsref42_Shrink.l1 k x0 x1 x7 x8 0) else (some (x7,0))
def ancepsref42_Shrink.l1:Nat→List (S50)→List Int→List Int→Int→Int→Option (List Int×Int)
 | 0,_,_,_,_,_=>none
 | k+1,x0,x1,x7,x8,x9=>if x9<(x7.length:Int) then (if 0≤x9 then (if 0≤x8 then (if x8<(x1.length:Int) then (if (rd x7 x9)=(rd x1 x8) then ((ancepsref42_Without.f x7 x9).bind fun t758=>((ancepsref42_contradictory.f k x0 t758).bind fun t761=>(if t761=true then ((ancepsref42_Without.f x7 x9).bind fun t762=>(ancepsref42_Shrink.l0 k x0 x1 t762 (wrap64 (x8+1)))) else (ancepsref42_Shrink.l1 k x0 x1 x7 x8 (wrap64 (x9+1)))))) else (ancepsref42_Shrink.l1 k x0 x1 x7 x8 (wrap64 (x9+1)))) else (none)) else (none)) else (none)) else (ancepsref42_Shrink.l0 k x0 x1 x7 (wrap64 (x8+1)))
end
def ancepsref42_Shrink.f (k:Nat) (l0:List (S50)) (l1:List Int):Option (List Int×Int):=(ancepsref42_Valid.f k l0).bind fun t747=>(if t747=0 then ((ancepsref42_Is.f k l0 l1).bind fun t748=>(if t748=true then ((ancepsref42_contradictory.f k l0 l1).bind fun t749=>(if t749=true then ((some (([]:List Int):List Int)).bind fun y750=>(if y750.length+l1.length<17592186044416 then (ancepsref42_Shrink.l0 k l0 l1 (y750++l1) 0) else (none))) else (some (([]:List Int),11)))) else (some (([]:List Int),1)))) else (some (([]:List Int),t747)))
theorem ancepsref42_Shrink.mono_l:∀ k,(∀ y0 y1 y2 y3,LeO (ancepsref42_Shrink.l0 k y0 y1 y2 y3) (ancepsref42_Shrink.l0 (k+1) y0 y1 y2 y3))∧(∀ y0 y1 y2 y3 y4,LeO (ancepsref42_Shrink.l1 k y0 y1 y2 y3 y4) (ancepsref42_Shrink.l1 (k+1) y0 y1 y2 y3 y4))
 | 0=>⟨fun _ _ _ _ r h=>by simp [ancepsref42_Shrink.l0] at h,fun _ _ _ _ _ r h=>by simp [ancepsref42_Shrink.l1] at h⟩
 | k+1=>by
  obtain ⟨ih0,ih1⟩:=ancepsref42_Shrink.mono_l k
  refine ⟨?_,?_⟩
  ·intro y0 y1 y2 y3
   unfold ancepsref42_Shrink.l0
   repeat' first
   | (with_reducible exact ih0 _ _ _ _)
   | (with_reducible exact ih1 _ _ _ _ _)
   | (with_reducible exact ancepsref42_Is.mono _ _ _)
   | (with_reducible exact ancepsref42_Valid.mono _ _)
   | (with_reducible exact ancepsref42_contradictory.mono _ _ _)
   | (with_reducible exact LeO.refl _)
   | (with_reducible exact LeO.none _)
   | (with_reducible refine LeO.ite ?_ ?_)
   | (with_reducible refine LeO.bind ?_ (fun _=>?_))
   | exact LeO.none _
   | refine LeO.ite ?_ ?_
   | refine LeO.bind ?_ (fun _=>?_)
  ·intro y0 y1 y2 y3 y4
   unfold ancepsref42_Shrink.l1
   repeat' first
   | (with_reducible exact ih0 _ _ _ _)
   | (with_reducible exact ih1 _ _ _ _ _)
   | (with_reducible exact ancepsref42_Is.mono _ _ _)
   | (with_reducible exact ancepsref42_Valid.mono _ _)
   | (with_reducible exact ancepsref42_contradictory.mono _ _ _)
   | (with_reducible exact LeO.refl _)
   | (with_reducible exact LeO.none _)
   | (with_reducible refine LeO.ite ?_ ?_)
   | (with_reducible refine LeO.bind ?_ (fun _=>?_))
   | exact LeO.none _
   | refine LeO.ite ?_ ?_
   | refine LeO.bind ?_ (fun _=>?_)
theorem ancepsref42_Shrink.mono:∀ a0 a1 k,LeO (ancepsref42_Shrink.f k a0 a1) (ancepsref42_Shrink.f (k+1) a0 a1):=by
 intro a0 a1 k
 obtain ⟨ih0,ih1⟩:=ancepsref42_Shrink.mono_l k
 unfold ancepsref42_Shrink.f
 repeat' first
   | (with_reducible exact ih0 _ _ _ _)
   | (with_reducible exact ih1 _ _ _ _ _)
   | (with_reducible exact ancepsref42_Is.mono _ _ _)
   | (with_reducible exact ancepsref42_Valid.mono _ _)
   | (with_reducible exact ancepsref42_contradictory.mono _ _ _)
   | (with_reducible exact LeO.refl _)
   | (with_reducible exact LeO.none _)
   | (with_reducible refine LeO.ite ?_ ?_)
   | (with_reducible refine LeO.bind ?_ (fun _=>?_))
   | exact LeO.none _
   | refine LeO.ite ?_ ?_
   | refine LeO.bind ?_ (fun _=>?_)
def ancepsref42_Shrink.T15:Bool×List (List Nat×List Nat):=(true,[([],[]),([],[]),([0,1],[0,1]),([2],[2]),([],[]),([],[]),([4,5],[4,5]),([6],[6]),([3,7],[3,7]),([8],[8]),([9],[9]),([9],[9]),([9],[9]),([11,12,9,9],[9,11,12]),([10,13,13,9],[9,10,13]),([9,14],[9,14])])
def ancepsref42_Shrink.B15:List Nat:=[0,0,3,7,0,0,48,112,255,511,1023,1023,1023,7167,16383,32767]
theorem ancepsref42_Shrink.tab15:rtab .any (opsOf Try.f22 15)=ancepsref42_Shrink.T15:=by kernel_rfl
theorem ancepsref42_Shrink.bits15:waitsOk ancepsref42_Shrink.T15.2 ancepsref42_Shrink.B15=true:=by kernel_rfl
set_option maxHeartbeats 8000000 in
set_option maxRecDepth 100000 in
theorem ancepsref42_Shrink.calls (k:Nat) (A0:Option Addr) (c0:Nat) (l0:List (S50)) (A1:Option Addr) (c1:Nat) (l1:List Int) (r1:List Int) (r2:Int) (w:World) (hr0:Kd.C k50 w A0 l0.length l0) (hc0:l0.length≤c0) (hr1:Kd.C (Kd.int .i64) w A1 l1.length l1) (hc1:l1.length≤c1) (h:ancepsref42_Shrink.f k l0 l1=some (r1,r2)) :
  Calls Try.prog 22 #[.slice A0 l0.length c0,.slice A1 l1.length c1] w fun e w'=>∃ v0_:Value,e=.returned (.tuple #[v0_,.int .i64 r2])∧Kd.R (Kd.int .i64) 3 w' w.heap.size (fun _=>True) v0_ r1∧Below w.heap.size w w':=by
 have hu3:=Try.underlying3
 have HR0:=zA hr0
 have HC0:=zA hc0
 clear hr0 hc0
 have HR1:=zA hr1
 have HC1:=zA hc1
 clear hr1 hc1
 have HB:=zA (Below.refl w.heap.size w)
 have H:((ancepsref42_Valid.f k l0).bind fun t747=>(if t747=0 then ((ancepsref42_Is.f k l0 l1).bind fun t748=>(if t748=true then ((ancepsref42_contradictory.f k l0 l1).bind fun t749=>(if t749=true then ((some (([]:List Int):List Int)).bind fun y750=>(if y750.length+l1.length<17592186044416 then (ancepsref42_Shrink.l0 k l0 l1 (y750++l1) 0) else (none))) else (some (([]:List Int),11)))) else (some (([]:List Int),1)))) else (some (([]:List Int),t747))))=some (r1,r2):=h
 clear h
 replace H:=Option.bind_eq_some_iff.mp H
 obtain ⟨t747,A30,H⟩:=H
 replace H:(if t747=0 then ((ancepsref42_Is.f k l0 l1).bind fun t748=>(if t748=true then ((ancepsref42_contradictory.f k l0 l1).bind fun t749=>(if t749=true then ((some (([]:List Int):List Int)).bind fun y750=>(if y750.length+l1.length<17592186044416 then (ancepsref42_Shrink.l0 k l0 l1 (y750++l1) 0) else (none))) else (some (([]:List Int),11)))) else (some (([]:List Int),1)))) else (some (([]:List Int),t747)))=some (r1,r2):=H
 have A3:=zA A30
 clear A30
 have HC4:=zA H
 clear H
 go_enter Try.func22,Try.ntmps22
 go_upto_if 13 with (first|((with_reducible refine gate_callee (f:=26) rfl ?_);refine goesL_ (some 11) rfl rfl Try.func26 zK rfl #[.slice A0 l0.length c0] rfl zM ?_;(with_reducible refine (ancepsref42_Valid.calls k _ _ l0 t747 _ ?side1 ?side2 A3.out).mono ?_);(case side1=>repeat (first|exact HR0.out|(with_reducible refine Kd.C_alloc ?_ _)|(with_reducible refine Kd.C_drewN ?_ _)|(with_reducible refine Kd.C_drew ?_)));(case side2=>exact HC0.out);rintro e w5 ⟨rfl,hb⟩;refine ⟨_,rfl,?_⟩;replace HB:=zA (below_step zB hb);(try clear hb);(try clear hb2);(try clear hk);(try clear hi)))
 (try simp only [Act.put,zi,zs,zt])
 have H:=HC4.out
 clear HC4
 by_cases c6:t747=0
 ·rw [if_pos c6] at H
  have c6b0:(t747 == 0)=true:=beq_iff_eq.mpr c6
  have c6b1:(t747 != 0)=false:=bne_eq_false_iff_eq.mpr c6
  clear c6
  (first|rw [c6b0]|(simp only [i64_w,i32_w];rw [c6b0])|skip)
  (try rw [c6b1])
  replace H:=Option.bind_eq_some_iff.mp H
  obtain ⟨t748,A70,H⟩:=H
  replace H:(if t748=true then ((ancepsref42_contradictory.f k l0 l1).bind fun t749=>(if t749=true then ((some (([]:List Int):List Int)).bind fun y750=>(if y750.length+l1.length<17592186044416 then (ancepsref42_Shrink.l0 k l0 l1 (y750++l1) 0) else (none))) else (some (([]:List Int),11)))) else (some (([]:List Int),1)))=some (r1,r2):=H
  have A7:=zA A70
  clear A70
  have HC8:=zA H
  clear H
  go_upto_if 18 with (first|((with_reducible refine gate_callee (f:=56) rfl ?_);refine goesL_ (some 17) rfl rfl Try.func56 zK rfl #[.slice A0 l0.length c0,.slice A1 l1.length c1] rfl zM ?_;(with_reducible refine (ancepsref42_Is.calls k _ _ l0 _ _ l1 t748 _ ?side1 ?side2 ?side3 ?side4 A7.out).mono ?_);(case side1=>exact zC (Kd.C_below HR0.out HB.out));(case side2=>exact HC0.out);(case side3=>exact zC (Kd.C_below HR1.out HB.out));(case side4=>exact HC1.out);rintro e w' ⟨rfl,⟨nd,rfl⟩⟩;refine ⟨_,rfl,?_⟩))
  (try simp only [Act.put,zi,zs,zt])
  have H:=HC8.out
  clear HC8
  by_cases c9:t748=true
  ·subst c9
   have H1:((ancepsref42_contradictory.f k l0 l1).bind fun t749=>(if t749=true then ((some (([]:List Int):List Int)).bind fun y750=>(if y750.length+l1.length<17592186044416 then (ancepsref42_Shrink.l0 k l0 l1 (y750++l1) 0) else (none))) else (some (([]:List Int),11))))=some (r1,r2):=by rw [if_pos rfl] at H;exact H
   clear H
   have H:=H1
   clear H1
   replace H:=Option.bind_eq_some_iff.mp H
   obtain ⟨t749,A100,H⟩:=H
   replace H:(if t749=true then ((some (([]:List Int):List Int)).bind fun y750=>(if y750.length+l1.length<17592186044416 then (ancepsref42_Shrink.l0 k l0 l1 (y750++l1) 0) else (none))) else (some (([]:List Int),11)))=some (r1,r2):=H
   have A10:=zA A100
   clear A100
   have HC11:=zA H
   clear H
   go_upto_if 22 with (first|((with_reducible refine gate_callee (f:=57) rfl ?_);refine goesL_ (some 21) rfl rfl Try.func57 zK rfl #[.slice A0 l0.length c0,.slice A1 l1.length c1] rfl zM ?_;(with_reducible refine (ancepsref42_contradictory.calls k _ _ l0 _ _ l1 t749 _ ?side1 ?side2 ?side3 ?side4 A10.out).mono ?_);(case side1=>exact zC (Kd.C_below HR0.out HB.out));(case side2=>exact HC0.out);(case side3=>exact zC (Kd.C_below HR1.out HB.out));(case side4=>exact HC1.out);rintro e w12 ⟨rfl,hb⟩;refine ⟨_,rfl,?_⟩;replace HB:=zA (below_step zB hb);(try clear hb);(try clear hb2);(try clear hk);(try clear hi)))
   (try simp only [Act.put,zi,zs,zt])
   have H:=HC11.out
   clear HC11
   by_cases c13:t749=true
   ·subst c13
    have H1:((some (([]:List Int):List Int)).bind fun y750=>(if y750.length+l1.length<17592186044416 then (ancepsref42_Shrink.l0 k l0 l1 (y750++l1) 0) else (none)))=some (r1,r2):=by rw [if_pos rfl] at H;exact H
    clear H
    have H:=H1
    clear H1
    obtain ⟨y750,hy750⟩:∃ y_:List Int,y_=(([]:List Int)):=⟨_,rfl⟩
    replace H:(if y750.length+l1.length<17592186044416 then (ancepsref42_Shrink.l0 k l0 l1 (y750++l1) 0) else (none))=some (r1,r2):=by first|(rw [hy750];with_reducible exact H)|(have H2_:=(Option.bind_some _ _).symm.trans H;rw [hy750];with_reducible exact H2_)|(have H2_:=(Option.bind_some _ _).symm.trans H;with_reducible exact H2_)|with_reducible exact H|(rw [hy750];exact H)|exact H
    have Ny750:=zA hy750
    clear hy750
    by_cases c14:y750.length+l1.length<17592186044416
    ·rw [if_pos c14] at H
     have LMc14:=zA c14
     clear c14
     obtain ⟨y753,hy753⟩:∃ y_:List Int,y_=(y750++l1):=⟨_,rfl⟩
     replace H:(ancepsref42_Shrink.l0 k l0 l1 y753 0)=some (r1,r2):=by first|(rw [hy753];with_reducible exact H)|(have H2_:=(Option.bind_some _ _).symm.trans H;rw [hy753];with_reducible exact H2_)|(have H2_:=(Option.bind_some _ _).symm.trans H;with_reducible exact H2_)|with_reducible exact H|(rw [hy753];exact H)|exact H
     have Ny753:=zA hy753
     clear hy753
     have H':=zA H
     clear H
     go_wp2_with (first|((with_reducible refine gate_dst (N:=23) rfl ?_);refine Kd.R_lit (Kd.int .i64) _ 3 ?hg (N:=23) ?hd (xs:=([]:List Int)) (inner:=[]) (ok:=fun _=>True) (okp:=fun _=>True) ?hr ?hp (fun _ hk=>hk) trivial (Below.refl _ _) (Nat.le_refl _) (by simp) ?_;(case hd=>rfl);(case hg=>rfl);(case hr=>first|(go_simp;done)|(go_simp;rfl));(case hp=>exact (Reps.none _ _));intro v751 w15 ho16 hb hg_ hnew_;clear hg_ hnew_;(first|rw [← Ny750.out] at ho16|(simp only [Int.reduceToNat] at ho16;rw [← Ny750.out] at ho16));have HO752:=zA (Kd.R_lower ho16 (below_size zB));replace HB:=zA (below_step zB hb);clear hb ho16)|((with_reducible refine gate_builtin (b:=.append) (xs:=#[.tmp 23,.tmp 24]) rfl ?_);at_builtin;refine Kd.R_append_rows (Kd.int .i64) (w0:=w) w.heap.size rfl (.tmp 23) (.tmp 24) 30 3 (.int .i64 0) 8 rfl Try.underlying30 info3 rfl (by decide) (by omega) v751 y750 l1 _ _ _ (fun _=>True) (fun _=>False) rfl rfl ?aO ?aR (fun _ _ h=>h) (fun _ h=>h.elim) ?aF ?aB ?aS ?aL ?_;(case aR=>exact zC (Kd.C_below HR1.out HB.out));(case aB=>exact zB);(case aF=>exact (fun _ _=>trivial));(case aO=>exact (zR HO752));(case aS=>exact (below_size zB));(case aL=>have:=LMc14.out;omega);intro v754 w17 ho hb hg hat;rw [← Ny753.out] at ho;have HO755:=zA (ho);replace HB:=zA (hb);clear HO752;clear ho hb hg hat))
     go_loopg [7,8] k (fun kq v7 v8 w'=>∃ (x7_1:List Int) (x8_1:Int),v8=.int .i64 x8_1∧Aside0 (ancepsref42_Shrink.l0 kq l0 l1 x7_1 x8_1=some (r1,r2))∧Aside0 (kq≤k)∧Aside0 (Kd.R (Kd.int .i64) 3 w' w.heap.size (fun _=>True) v7 x7_1)∧Aside0 (Below w.heap.size w w'))
     case atStart=>exact ⟨(y753),(0),zT,H',⟨Nat.le_refl _⟩,⟨by refine zr ?_;exact HO755.out⟩,⟨by repeat (first|(with_reducible first|exact HB.out|apply below_alloc|apply pw_below_drewN|apply below_drew1)|exact HB.out)⟩⟩
     case round=>
      clear H'
      try clear c1
      try clear c6
      try clear c6b0
      try clear c6b1
      try clear c9
      try clear c13
      try clear c14
      obtain ⟨x7_1,x8_1,rfl,HA,HK1,HO_7,HB⟩:=hrel
      cases gk with
      | zero=>exact absurd HA.out (by simp [ancepsref42_Shrink.l0])
      | succ k1=>
       have H:=HA.out
       clear HA
       simp only [ancepsref42_Shrink.l0] at H
       by_cases c18:x8_1<(l1.length:Int)
       ·rw [if_pos c18] at H
        have c18b0:decide (x8_1<(l1.length:Int))=true:=decide_eq_true c18
        clear c18
        (first|rw [c18b0]|(simp only [i64_w,i32_w];rw [c18b0])|skip)
        have H':=zA H
        clear H
        go_wp2
        go_loopg [7,9] k1 (fun kq v7 v9 w'=>∃ (x7_2:List Int) (x9_2:Int),v9=.int .i64 x9_2∧Aside0 (ancepsref42_Shrink.l1 kq l0 l1 x7_2 x8_1 x9_2=some (r1,r2))∧Aside0 (kq≤k1)∧Aside0 (Kd.R (Kd.int .i64) 3 w' w.heap.size (fun _=>True) v7 x7_2)∧Aside0 (Below w.heap.size w w'))
        case atStart=>exact ⟨(x7_1),(0),zT,H',⟨Nat.le_refl _⟩,⟨by refine zr ?_;exact HO_7.out⟩,⟨by repeat (first|(with_reducible first|exact HB.out|apply below_alloc|apply pw_below_drewN|apply below_drew1)|exact HB.out)⟩⟩
        case round=>
         clear H'
         try clear c1
         try clear c6
         try clear c6b0
         try clear c6b1
         try clear c9
         try clear c13
         try clear c14
         try clear c18
         try clear c18b0
         obtain ⟨x7_2,x9_2,rfl,HA,HK2,HO_7,HB⟩:=hrel
         cases gk with
         | zero=>exact absurd HA.out (by simp [ancepsref42_Shrink.l1])
         | succ k2=>
          have H:=HA.out
          clear HA
          simp only [ancepsref42_Shrink.l1] at H
          by_cases c19:x9_2<(x7_2.length:Int)
          ·rw [if_pos c19] at H
           have c19b0:decide (x9_2<(x7_2.length:Int))=true:=decide_eq_true c19
           clear c19
           by_cases c20:0≤x9_2
           ·rw [if_pos c20] at H
            have c20b0:decide (0≤x9_2)=true:=decide_eq_true c20
            clear c20
            by_cases c21:0≤x8_1
            ·rw [if_pos c21] at H
             have c21b0:decide (0≤x8_1)=true:=decide_eq_true c21
             clear c21
             by_cases c22:x8_1<(l1.length:Int)
             ·rw [if_pos c22] at H
              have c22b0:decide (x8_1<(l1.length:Int))=true:=decide_eq_true c22
              clear c22
              by_cases c23:(rd x7_2 x9_2)=(rd l1 x8_1)
              ·rw [if_pos c23] at H
               have c23b0:((rd x7_2 x9_2) == (rd l1 x8_1))=true:=beq_iff_eq.mpr c23
               have c23b1:((rd x7_2 x9_2) != (rd l1 x8_1))=false:=bne_eq_false_iff_eq.mpr c23
               clear c23
               replace H:=Option.bind_eq_some_iff.mp H
               obtain ⟨t758,A240,H⟩:=H
               replace H:((ancepsref42_contradictory.f k2 l0 t758).bind fun t761=>(if t761=true then ((ancepsref42_Without.f x7_2 x9_2).bind fun t762=>(ancepsref42_Shrink.l0 k2 l0 l1 t762 (wrap64 (x8_1+1)))) else (ancepsref42_Shrink.l1 k2 l0 l1 x7_2 x8_1 (wrap64 (x9_2+1)))))=some (r1,r2):=H
               have A24:=zA A240
               clear A240
               replace H:=Option.bind_eq_some_iff.mp H
               obtain ⟨t761,A250,H⟩:=H
               replace H:(if t761=true then ((ancepsref42_Without.f x7_2 x9_2).bind fun t762=>(ancepsref42_Shrink.l0 k2 l0 l1 t762 (wrap64 (x8_1+1)))) else (ancepsref42_Shrink.l1 k2 l0 l1 x7_2 x8_1 (wrap64 (x9_2+1))))=some (r1,r2):=H
               have A25:=zA A250
               clear A250
               have HC26:=zA H
               clear H
               obtain ⟨Ao27,co27,eo27⟩:=Kd.R_slice HO_7.out
               subst eo27
               try go_wp2
               replace HO_7:=zA (Kd.R_drew HO_7.out)
               replace HB:=zA (below_drew1 HB.out)
               have p756:0≤(x9_2:Int):=of_decide_eq_true zh
               have q756:x9_2<(x7_2.length:Int):=of_decide_eq_true zh
               obtain ⟨ad756,e756,hx756_0⟩:=Kd.at_int (Kd.R_reads' HO_7.out).2.2 x9_2 p756 q756
               cases e756
               replace p756:=eq_true p756
               replace q756:=eq_true q756
               have p757:0≤(x8_1:Int):=of_decide_eq_true zh
               have q757:x8_1<(l1.length:Int):=of_decide_eq_true zh
               obtain ⟨ad757,e757,hx757_0⟩:=Kd.at_int HR1.out x8_1 p757 q757
               have hw757_0:=hx757_0
               cases e757
               replace hx757_0:=(HB.out.cell (World.block_lt_of_cell? w _ hx757_0)).trans hx757_0
               replace p757:=eq_true p757
               replace q757:=eq_true q757
               refine start_ (n:=16) (S:=fun w'=>w'.cell? (ad756.add (x9_2).toNat)=some (.int .i64 (rd x7_2 x9_2))∧w'.cell? (ad757.add (x8_1).toNat)=some (.int .i64 (rd l1 x8_1))) (ds:=[]) #[false,false,false,false,false,false,false,false,false,false,false,false,false,false,false,false] zK rfl rfl ⟨hx756_0,((HB.out.cell (World.block_lt_of_cell? w _ hw757_0)).trans hw757_0)⟩ (fun hHeld=>?_);refine with_tabW ancepsref42_Shrink.tab15 ancepsref42_Shrink.bits15 (fun HT_ HW_=>?_)
               generalize wr.drew=w28 at HO_7 HB hx756_0 hx757_0 hHeld ⊢
               refine pure_ (i:=0) (N:=some 38) (v:=?_) (a':=?_) #[true,false,false,false,false,false,false,false,false,false,false,false,false,false,false,false] rfl rfl (any_of HT_.out zK) (fun _ _ _ h=>h) (Or.inl ⟨by rfl,?_⟩) ?_ ?_
               rotate_left
               ·intro w'
                go_simp
                with_reducible rfl
               rotate_left
               ·simp only [Act.put,zi,zs,zt,i64_w,i32_w]
                rfl
               refine pure_ (i:=1) (N:=some 39) (v:=?_) (a':=?_) #[true,true,false,false,false,false,false,false,false,false,false,false,false,false,false,false] rfl rfl (any_of HT_.out zK) (fun _ _ _ h=>h) (Or.inl ⟨by rfl,?_⟩) ?_ ?_
               rotate_left
               ·intro w'
                go_simp
                with_reducible rfl
               rotate_left
               ·simp only [Act.put,zi,zs,zt,i64_w,i32_w]
                rfl
               refine pure_ (i:=2) (N:=some 40) (v:=?_) (a':=?_) #[true,true,true,false,false,false,false,false,false,false,false,false,false,false,false,false] rfl rfl (any_of HT_.out zK) (fun _ _ _ h=>h) (Or.inl ⟨by rfl,?_⟩) ?_ ?_
               rotate_left
               ·intro w'
                go_simp
                with_reducible rfl
               rotate_left
               ·simp only [Act.put,zi,zs,zt,i64_w,i32_w]
                rfl
               refine pure_ (i:=4) (N:=some 42) (v:=?_) (a':=?_) #[true,true,true,false,true,false,false,false,false,false,false,false,false,false,false,false] rfl rfl (any_of HT_.out zK) (fun _ _ _ h=>h) (Or.inl ⟨by rfl,?_⟩) ?_ ?_
               rotate_left
               ·intro w'
                go_simp
                with_reducible rfl
               rotate_left
               ·simp only [Act.put,zi,zs,zt,i64_w,i32_w]
                rfl
               refine pure_ (i:=5) (N:=some 43) (v:=?_) (a':=?_) #[true,true,true,false,true,true,false,false,false,false,false,false,false,false,false,false] rfl rfl (any_of HT_.out zK) (fun _ _ _ h=>h) (Or.inl ⟨by rfl,?_⟩) ?_ ?_
               rotate_left
               ·intro w'
                go_simp
                with_reducible rfl
               rotate_left
               ·simp only [Act.put,zi,zs,zt,i64_w,i32_w]
                rfl
               refine pure_ (i:=6) (N:=some 44) (v:=?_) (a':=?_) #[true,true,true,false,true,true,true,false,false,false,false,false,false,false,false,false] rfl rfl (any_of HT_.out zK) (fun _ _ _ h=>h) (Or.inl ⟨by rfl,?_⟩) ?_ ?_
               rotate_left
               ·intro w'
                go_simp
                with_reducible rfl
               rotate_left
               ·simp only [Act.put,zi,zs,zt,i64_w,i32_w]
                rfl
               refine take_ (i:=3) (N:=some 41) (v:=?_) (a':=?_) #[true,true,true,true,true,true,true,false,false,false,false,false,false,false,false,false] rfl rfl (take_ofW HT_.out HW_.out zK) (fun _ _ _ h=>h) (Or.inl ⟨by rfl,?_⟩) hHeld ?_ ?_
               rotate_left
               ·rintro w' ⟨s0,s1⟩
                go_simp
                with_reducible rfl
               rotate_left
               ·simp only [Act.put,zi,zs,zt,i64_w,i32_w]
                rfl
               refine take_ (i:=7) (N:=some 45) (v:=?_) (a':=?_) #[true,true,true,true,true,true,true,true,false,false,false,false,false,false,false,false] rfl rfl (take_ofW HT_.out HW_.out zK) (fun _ _ _ h=>h) (Or.inl ⟨by rfl,?_⟩) hHeld ?_ ?_
               rotate_left
               ·rintro w' ⟨s0,s1⟩
                go_simp
                with_reducible rfl
               rotate_left
               ·simp only [Act.put,zi,zs,zt,i64_w,i32_w]
                rfl
               refine pure_ (i:=8) (N:=some 46) (v:=?_) (a':=?_) #[true,true,true,true,true,true,true,true,true,false,false,false,false,false,false,false] rfl rfl (any_of HT_.out zK) (fun _ _ _ h=>h) (Or.inl ⟨by rfl,?_⟩) ?_ ?_
               rotate_left
               ·intro w'
                go_simp
                with_reducible rfl
               rotate_left
               ·simp only [Act.put,zi,zs,zt,i64_w,i32_w]
                rfl
               refine pure_ (i:=9) (N:=some 47) (v:=?_) (a':=?_) #[true,true,true,true,true,true,true,true,true,true,false,false,false,false,false,false] rfl rfl (any_of HT_.out zK) (fun _ _ _ h=>h) (Or.inl ⟨by rfl,?_⟩) ?_ ?_
               rotate_left
               ·intro w'
                go_simp
                with_reducible rfl
               rotate_left
               ·simp only [Act.put,zi,zs,zt,i64_w,i32_w]
                rfl
               refine pure_ (i:=10) (N:=some 48) (v:=?_) (a':=?_) #[true,true,true,true,true,true,true,true,true,true,true,false,false,false,false,false] rfl rfl (any_of HT_.out zK) (fun _ _ _ h=>h) (Or.inl ⟨by rfl,?_⟩) ?_ ?_
               rotate_left
               ·intro w'
                go_simp
                with_reducible rfl
               rotate_left
               ·simp only [Act.put,zi,zs,zt,i64_w,i32_w]
                rfl
               refine pure_ (i:=11) (N:=some 49) (v:=?_) (a':=?_) #[true,true,true,true,true,true,true,true,true,true,true,true,false,false,false,false] rfl rfl (any_of HT_.out zK) (fun _ _ _ h=>h) (Or.inl ⟨by rfl,?_⟩) ?_ ?_
               rotate_left
               ·intro w'
                go_simp
                with_reducible rfl
               rotate_left
               ·simp only [Act.put,zi,zs,zt,i64_w,i32_w]
                rfl
               refine pure_ (i:=12) (N:=some 50) (v:=?_) (a':=?_) #[true,true,true,true,true,true,true,true,true,true,true,true,true,false,false,false] rfl rfl (any_of HT_.out zK) (fun _ _ _ h=>h) (Or.inl ⟨by rfl,?_⟩) ?_ ?_
               rotate_left
               ·intro w'
                go_simp
                with_reducible rfl
               rotate_left
               ·simp only [Act.put,zi,zs,zt,i64_w,i32_w]
                rfl
               refine one_ (i:=13) (N:=some 51) #[true,true,true,true,true,true,true,true,true,true,true,true,true,true,false,false] rfl rfl (one_of HT_.out zK) (by decide) (fun K hK=>?_)
               refine goes_ Try.func58 zK rfl #[.slice (some ad756) x7_2.length co27,.int .i64 x9_2] (by rfl) rfl rfl zM ?_
               with_reducible refine (ancepsref42_Without.calls _ _ x7_2 x9_2 t758 _ ?side1 ?side2 A24.out).mono ?_
               (case side1=>exact zC (Kd.R_reads' HO_7.out).2.2)
               (case side2=>exact (Kd.R_reads' HO_7.out).2.1)
               rintro e w29 ⟨v759,rfl,ho0,hb⟩
               have HS0_:=(hb.cell (World.block_lt_of_cell? _ _ (hHeld.1))).trans (hHeld.1)
               refine ⟨_,rfl,?_⟩
               have HO760:=zA (Kd.R_lower (Kd.R_new' ho0 (Kd.R_lt (zR HO_7))) (below_size zB))
               replace HO_7:=zA (Kd.R_elder' (zR HO_7) (Kd.R_base ho0) hb)
               replace HB:=zA (below_step zB hb)
               (try clear hb)
               (try clear hb2)
               (try clear hk)
               (try clear hi)
               (try clear ho0)
               obtain ⟨Ao30,co30,eo30⟩:=Kd.R_slice HO760.out
               (first|subst eo30|(injection eo30 with f1_ f2_ f3_;have f4_:=f1_.symm;have f5_:=f3_.symm;clear f1_ f2_ f3_;subst f4_;subst f5_))
               refine hK.out _ _ ⟨HS0_,((HB.out.cell (World.block_lt_of_cell? w _ hw757_0)).trans hw757_0)⟩ (fun hHeld=>?_)
               clear hK K
               refine norm_ (a':=?_) ?_ ?_
               rotate_left
               ·show Act.put _ (some 51) _=_
                simp only [Act.put,zi,zs,zt,i64_w,i32_w]
                rfl
               refine one_ (i:=14) (N:=some 52) #[true,true,true,true,true,true,true,true,true,true,true,true,true,true,true,false] rfl rfl (one_of HT_.out zK) (by decide) (fun K hK=>?_)
               refine goes_ Try.func57 zK rfl #[.slice A0 l0.length c0,.slice Ao30 t758.length co30] (by rfl) rfl rfl zM ?_
               with_reducible refine (ancepsref42_contradictory.calls k2 _ _ l0 _ _ t758 t761 _ ?side1 ?side2 ?side3 ?side4 A25.out).mono ?_
               (case side1=>exact zC (Kd.C_below HR0.out HB.out))
               (case side2=>exact HC0.out)
               (case side3=>exact zC (Kd.R_reads' HO760.out).2.2)
               (case side4=>exact (Kd.R_reads' HO760.out).2.1)
               rintro e w31 ⟨rfl,hb⟩
               have HS0_:=(hb.cell (World.block_lt_of_cell? _ _ (hHeld.1))).trans (hHeld.1)
               refine ⟨_,rfl,?_⟩
               replace HO_7:=zA (Kd.R_below (zR HO_7) hb)
               replace HO760:=zA (Kd.R_below (zR HO760) hb)
               replace HB:=zA (below_step zB hb)
               (try clear hb)
               (try clear hb2)
               (try clear hk)
               (try clear hi)
               refine hK.out _ _ ⟨HS0_,((HB.out.cell (World.block_lt_of_cell? w _ hw757_0)).trans hw757_0)⟩ (fun hHeld=>?_)
               clear hK K
               refine norm_ (a':=?_) ?_ ?_
               rotate_left
               ·show Act.put _ (some 52) _=_
                simp only [Act.put,zi,zs,zt,i64_w,i32_w]
                rfl
               refine pure_ (i:=15) (N:=some 53) (v:=?_) (a':=?_) #[true,true,true,true,true,true,true,true,true,true,true,true,true,true,true,true] rfl rfl (any_of HT_.out zK) (fun _ _ _ h=>h) (Or.inl ⟨by rfl,?_⟩) ?_ ?_
               rotate_left
               ·intro w'
                go_simp
                with_reducible rfl
               rotate_left
               ·simp only [Act.put,zi,zs,zt,i64_w,i32_w]
                rfl
               refine done_ (done_of HT_.out zK) ?_
               go_upto_if 53 with (fail)
               (try simp only [Act.put,zi,zs,zt])
               have H:=HC26.out
               clear HC26
               by_cases c32:t761=true
               ·subst c32
                have H1:((ancepsref42_Without.f x7_2 x9_2).bind fun t762=>(ancepsref42_Shrink.l0 k2 l0 l1 t762 (wrap64 (x8_1+1))))=some (r1,r2):=by rw [if_pos rfl] at H;exact H
                clear H
                have H:=H1
                clear H1
                replace H:=Option.bind_eq_some_iff.mp H
                obtain ⟨t762,A330,H⟩:=H
                replace H:(ancepsref42_Shrink.l0 k2 l0 l1 t762 (wrap64 (x8_1+1)))=some (r1,r2):=H
                have A33:=zA A330
                clear A330
                have H':=zA H
                clear H
                go_wp2_with (first|((with_reducible refine gate_callee (f:=58) rfl ?_);refine goesL_ (some 56) rfl rfl Try.func58 zK rfl #[.slice (some ad756) x7_2.length co27,.int .i64 x9_2] rfl zM ?_;(with_reducible refine (ancepsref42_Without.calls _ _ x7_2 x9_2 t762 _ ?side1 ?side2 A33.out).mono ?_);(case side1=>exact zC (Kd.R_reads' HO_7.out).2.2);(case side2=>exact (Kd.R_reads' HO_7.out).2.1);rintro e w34 ⟨v763,rfl,ho0,hb⟩;refine ⟨_,rfl,?_⟩;have HO764:=zA (Kd.R_lower (Kd.R_new' (Kd.R_new' ho0 (Kd.R_lt (zR HO_7))) (Kd.R_lt (zR HO760))) (below_size zB));replace HO_7:=zA (Kd.R_elder' (zR HO_7) (Kd.R_base ho0) hb);replace HO760:=zA (Kd.R_elder' (zR HO760) (Kd.R_base ho0) hb);replace HB:=zA (below_step zB hb);(try clear hb);(try clear hb2);(try clear hk);(try clear hi);(try clear ho0)))
                go_roundg k2
                case measure=>have:=HK1.out;have:=HK2.out;omega
                case rel=>exact ⟨(t762),(wrap64 (x8_1+1)),zT,H',⟨by have:=HK1.out;have:=HK2.out;omega⟩,⟨by refine zr ?_;exact Kd.R_mono HO764.out (fun _ hk=>trivial)⟩,⟨by repeat (first|(with_reducible first|exact HB.out|apply below_alloc|apply pw_below_drewN|apply below_drew1)|exact HB.out)⟩⟩
               ·replace c32:=Bool.eq_false_iff.mpr c32
                subst c32
                have H1:(ancepsref42_Shrink.l1 k2 l0 l1 x7_2 x8_1 (wrap64 (x9_2+1)))=some (r1,r2):=by rw [if_neg (show ¬ (false=true) by decide)] at H;exact H
                clear H
                have H:=H1
                clear H1
                have H':=zA H
                clear H
                go_wp2
                go_roundg k2
                case measure=>have:=HK1.out;have:=HK2.out;omega
                case rel=>exact ⟨(x7_2),(wrap64 (x9_2+1)),zT,H',⟨by have:=HK1.out;have:=HK2.out;omega⟩,⟨by refine zr ?_;exact Kd.R_mono HO_7.out (fun _ hk=>trivial)⟩,⟨by repeat (first|(with_reducible first|exact HB.out|apply below_alloc|apply pw_below_drewN|apply below_drew1)|exact HB.out)⟩⟩
              ·rw [if_neg c23] at H
               have c23b0:((rd x7_2 x9_2) == (rd l1 x8_1))=false:=beq_eq_false_iff_ne.mpr c23
               have c23b1:((rd x7_2 x9_2) != (rd l1 x8_1))=true:=bne_iff_ne.mpr c23
               have H':=zA H
               clear H
               obtain ⟨Ao35,co35,eo35⟩:=Kd.R_slice HO_7.out
               subst eo35
               try go_wp2
               replace HO_7:=zA (Kd.R_drew HO_7.out)
               replace HB:=zA (below_drew1 HB.out)
               have p756:0≤(x9_2:Int):=of_decide_eq_true zh
               have q756:x9_2<(x7_2.length:Int):=of_decide_eq_true zh
               obtain ⟨ad756,e756,hx756_0⟩:=Kd.at_int (Kd.R_reads' HO_7.out).2.2 x9_2 p756 q756
               cases e756
               replace p756:=eq_true p756
               replace q756:=eq_true q756
               have p757:0≤(x8_1:Int):=of_decide_eq_true zh
               have q757:x8_1<(l1.length:Int):=of_decide_eq_true zh
               obtain ⟨ad757,e757,hx757_0⟩:=Kd.at_int HR1.out x8_1 p757 q757
               have hw757_0:=hx757_0
               cases e757
               replace hx757_0:=(HB.out.cell (World.block_lt_of_cell? w _ hx757_0)).trans hx757_0
               replace p757:=eq_true p757
               replace q757:=eq_true q757
               refine start_ (n:=16) (S:=fun w'=>w'.cell? (ad756.add (x9_2).toNat)=some (.int .i64 (rd x7_2 x9_2))∧w'.cell? (ad757.add (x8_1).toNat)=some (.int .i64 (rd l1 x8_1))) (ds:=[]) #[false,false,false,false,false,false,false,false,false,false,false,false,false,false,false,false] zK rfl rfl ⟨hx756_0,((HB.out.cell (World.block_lt_of_cell? w _ hw757_0)).trans hw757_0)⟩ (fun hHeld=>?_);refine with_tabW ancepsref42_Shrink.tab15 ancepsref42_Shrink.bits15 (fun HT_ HW_=>?_)
               generalize wr.drew=w36 at HO_7 HB hx756_0 hx757_0 hHeld ⊢
               refine pure_ (i:=0) (N:=some 38) (v:=?_) (a':=?_) #[true,false,false,false,false,false,false,false,false,false,false,false,false,false,false,false] rfl rfl (any_of HT_.out zK) (fun _ _ _ h=>h) (Or.inl ⟨by rfl,?_⟩) ?_ ?_
               rotate_left
               ·intro w'
                go_simp
                with_reducible rfl
               rotate_left
               ·simp only [Act.put,zi,zs,zt,i64_w,i32_w]
                rfl
               refine pure_ (i:=1) (N:=some 39) (v:=?_) (a':=?_) #[true,true,false,false,false,false,false,false,false,false,false,false,false,false,false,false] rfl rfl (any_of HT_.out zK) (fun _ _ _ h=>h) (Or.inl ⟨by rfl,?_⟩) ?_ ?_
               rotate_left
               ·intro w'
                go_simp
                with_reducible rfl
               rotate_left
               ·simp only [Act.put,zi,zs,zt,i64_w,i32_w]
                rfl
               refine pure_ (i:=2) (N:=some 40) (v:=?_) (a':=?_) #[true,true,true,false,false,false,false,false,false,false,false,false,false,false,false,false] rfl rfl (any_of HT_.out zK) (fun _ _ _ h=>h) (Or.inl ⟨by rfl,?_⟩) ?_ ?_
               rotate_left
               ·intro w'
                go_simp
                with_reducible rfl
               rotate_left
               ·simp only [Act.put,zi,zs,zt,i64_w,i32_w]
                rfl
               refine pure_ (i:=4) (N:=some 42) (v:=?_) (a':=?_) #[true,true,true,false,true,false,false,false,false,false,false,false,false,false,false,false] rfl rfl (any_of HT_.out zK) (fun _ _ _ h=>h) (Or.inl ⟨by rfl,?_⟩) ?_ ?_
               rotate_left
               ·intro w'
                go_simp
                with_reducible rfl
               rotate_left
               ·simp only [Act.put,zi,zs,zt,i64_w,i32_w]
                rfl
               refine pure_ (i:=5) (N:=some 43) (v:=?_) (a':=?_) #[true,true,true,false,true,true,false,false,false,false,false,false,false,false,false,false] rfl rfl (any_of HT_.out zK) (fun _ _ _ h=>h) (Or.inl ⟨by rfl,?_⟩) ?_ ?_
               rotate_left
               ·intro w'
                go_simp
                with_reducible rfl
               rotate_left
               ·simp only [Act.put,zi,zs,zt,i64_w,i32_w]
                rfl
               refine pure_ (i:=6) (N:=some 44) (v:=?_) (a':=?_) #[true,true,true,false,true,true,true,false,false,false,false,false,false,false,false,false] rfl rfl (any_of HT_.out zK) (fun _ _ _ h=>h) (Or.inl ⟨by rfl,?_⟩) ?_ ?_
               rotate_left
               ·intro w'
                go_simp
                with_reducible rfl
               rotate_left
               ·simp only [Act.put,zi,zs,zt,i64_w,i32_w]
                rfl
               refine take_ (i:=3) (N:=some 41) (v:=?_) (a':=?_) #[true,true,true,true,true,true,true,false,false,false,false,false,false,false,false,false] rfl rfl (take_ofW HT_.out HW_.out zK) (fun _ _ _ h=>h) (Or.inl ⟨by rfl,?_⟩) hHeld ?_ ?_
               rotate_left
               ·rintro w' ⟨s0,s1⟩
                go_simp
                with_reducible rfl
               rotate_left
               ·simp only [Act.put,zi,zs,zt,i64_w,i32_w]
                rfl
               refine take_ (i:=7) (N:=some 45) (v:=?_) (a':=?_) #[true,true,true,true,true,true,true,true,false,false,false,false,false,false,false,false] rfl rfl (take_ofW HT_.out HW_.out zK) (fun _ _ _ h=>h) (Or.inl ⟨by rfl,?_⟩) hHeld ?_ ?_
               rotate_left
               ·rintro w' ⟨s0,s1⟩
                go_simp
                with_reducible rfl
               rotate_left
               ·simp only [Act.put,zi,zs,zt,i64_w,i32_w]
                rfl
               refine pure_ (i:=8) (N:=some 46) (v:=?_) (a':=?_) #[true,true,true,true,true,true,true,true,true,false,false,false,false,false,false,false] rfl rfl (any_of HT_.out zK) (fun _ _ _ h=>h) (Or.inl ⟨by rfl,?_⟩) ?_ ?_
               rotate_left
               ·intro w'
                go_simp
                with_reducible rfl
               rotate_left
               ·simp only [Act.put,zi,zs,zt,i64_w,i32_w]
                rfl
               refine pure_ (i:=9) (N:=some 47) (v:=?_) (a':=?_) #[true,true,true,true,true,true,true,true,true,true,false,false,false,false,false,false] rfl rfl (any_of HT_.out zK) (fun _ _ _ h=>h) (Or.inl ⟨by rfl,?_⟩) ?_ ?_
               rotate_left
               ·intro w'
                go_simp
                with_reducible rfl
               rotate_left
               ·simp only [Act.put,zi,zs,zt,i64_w,i32_w]
                rfl
               refine pure_ (i:=10) (N:=some 48) (v:=undef) (a':=?_) #[true,true,true,true,true,true,true,true,true,true,true,false,false,false,false,false] rfl rfl (any_of HT_.out zK) (fun _ _ _ h=>h) (Or.inr ⟨by rfl,rfl⟩) ?_ ?_
               rotate_left
               ·simp only [Act.put,zi,zs,zt,i64_w,i32_w]
                rfl
               refine pure_ (i:=11) (N:=some 49) (v:=undef) (a':=?_) #[true,true,true,true,true,true,true,true,true,true,true,true,false,false,false,false] rfl rfl (any_of HT_.out zK) (fun _ _ _ h=>h) (Or.inr ⟨by rfl,rfl⟩) ?_ ?_
               rotate_left
               ·simp only [Act.put,zi,zs,zt,i64_w,i32_w]
                rfl
               refine pure_ (i:=12) (N:=some 50) (v:=undef) (a':=?_) #[true,true,true,true,true,true,true,true,true,true,true,true,true,false,false,false] rfl rfl (any_of HT_.out zK) (fun _ _ _ h=>h) (Or.inr ⟨by rfl,rfl⟩) ?_ ?_
               rotate_left
               ·simp only [Act.put,zi,zs,zt,i64_w,i32_w]
                rfl
               refine pure_ (i:=13) (N:=some 51) (v:=undef) (a':=?_) #[true,true,true,true,true,true,true,true,true,true,true,true,true,true,false,false] rfl rfl (any_of HT_.out zK) (fun _ _ _ h=>h) (Or.inr ⟨by rfl,rfl⟩) ?_ ?_
               rotate_left
               ·simp only [Act.put,zi,zs,zt,i64_w,i32_w]
                rfl
               refine pure_ (i:=14) (N:=some 52) (v:=undef) (a':=?_) #[true,true,true,true,true,true,true,true,true,true,true,true,true,true,true,false] rfl rfl (any_of HT_.out zK) (fun _ _ _ h=>h) (Or.inr ⟨by rfl,rfl⟩) ?_ ?_
               rotate_left
               ·simp only [Act.put,zi,zs,zt,i64_w,i32_w]
                rfl
               refine pure_ (i:=15) (N:=some 53) (v:=?_) (a':=?_) #[true,true,true,true,true,true,true,true,true,true,true,true,true,true,true,true] rfl rfl (any_of HT_.out zK) (fun _ _ _ h=>h) (Or.inl ⟨by rfl,?_⟩) ?_ ?_
               rotate_left
               ·intro w'
                go_simp
                with_reducible rfl
               rotate_left
               ·simp only [Act.put,zi,zs,zt,i64_w,i32_w]
                rfl
               refine done_ (done_of HT_.out zK) ?_
               try go_wp2
               go_roundg k2
               case measure=>have:=HK1.out;have:=HK2.out;omega
               case rel=>exact ⟨(x7_2),(wrap64 (x9_2+1)),zT,H',⟨by have:=HK1.out;have:=HK2.out;omega⟩,⟨by refine zr ?_;exact HO_7.out⟩,⟨by repeat (first|(with_reducible first|exact HB.out|apply below_alloc|apply pw_below_drewN|apply below_drew1)|exact HB.out)⟩⟩
             ·rw [if_neg c22] at H
              exact absurd H (by simp)
            ·rw [if_neg c21] at H
             exact absurd H (by simp)
           ·rw [if_neg c20] at H
            exact absurd H (by simp)
          ·rw [if_neg c19] at H
           have c19b0:decide (x9_2<(x7_2.length:Int))=false:=decide_eq_false c19
           clear c19
           have H':=zA H
           clear H
           obtain ⟨Ao37,co37,eo37⟩:=Kd.R_slice HO_7.out
           subst eo37
           go_wp2
           go_roundg k2
           case measure=>have:=HK1.out;have:=HK2.out;omega
           case rel=>exact ⟨(x7_2),(wrap64 (x8_1+1)),zT,H',⟨by have:=HK1.out;have:=HK2.out;omega⟩,⟨by refine zr ?_;exact HO_7.out⟩,⟨by repeat (first|(with_reducible first|exact HB.out|apply below_alloc|apply pw_below_drewN|apply below_drew1)|exact HB.out)⟩⟩
       ·rw [if_neg c18] at H
        have c18b0:decide (x8_1<(l1.length:Int))=false:=decide_eq_false c18
        clear c18
        (first|rw [c18b0]|(simp only [i64_w,i32_w];rw [c18b0])|skip)
        simp only [Option.some.injEq,Prod.mk.injEq] at H
        obtain ⟨rfl,rfl⟩:=H
        go_wp2
        go_ret2
        exact ⟨_,ze,by refine zr ?_;exact HO_7.out,by repeat (first|(with_reducible first|exact HB.out|apply below_alloc|apply pw_below_drewN|apply below_drew1)|exact HB.out)⟩
    ·rw [if_neg c14] at H
     exact absurd H (by simp)
   ·replace c13:=Bool.eq_false_iff.mpr c13
    subst c13
    have H1:(some (([]:List Int),11))=some (r1,r2):=by rw [if_neg (show ¬ (false=true) by decide)] at H;exact H
    clear H
    have H:=H1
    clear H1
    simp only [Option.some.injEq,Prod.mk.injEq] at H
    obtain ⟨rfl,rfl⟩:=H
    go_wp2
    go_ret2
    exact ⟨_,ze,by first|exact Kd.R_nil _ _ _ _ _|exact Kd.N_nil _ _ _ _ _|exact Kd.V_nil _ _ _ _ _|exact Kd.Q_nil _ _ _ _ _|exact Kd.S_nil _ _ _ _ _,by repeat (first|(with_reducible first|exact HB.out|apply below_alloc|apply pw_below_drewN|apply below_drew1)|exact HB.out)⟩
  ·replace c9:=Bool.eq_false_iff.mpr c9
   subst c9
   have H1:(some (([]:List Int),1))=some (r1,r2):=by rw [if_neg (show ¬ (false=true) by decide)] at H;exact H
   clear H
   have H:=H1
   clear H1
   simp only [Option.some.injEq,Prod.mk.injEq] at H
   obtain ⟨rfl,rfl⟩:=H
   go_wp2
   go_ret2
   exact ⟨_,ze,by first|exact Kd.R_nil _ _ _ _ _|exact Kd.N_nil _ _ _ _ _|exact Kd.V_nil _ _ _ _ _|exact Kd.Q_nil _ _ _ _ _|exact Kd.S_nil _ _ _ _ _,by repeat (first|(with_reducible first|exact HB.out|apply below_alloc|apply pw_below_drewN|apply below_drew1)|exact HB.out)⟩
 ·rw [if_neg c6] at H
  have c6b0:(t747 == 0)=false:=beq_eq_false_iff_ne.mpr c6
  have c6b1:(t747 != 0)=true:=bne_iff_ne.mpr c6
  (first|rw [c6b0]|(simp only [i64_w,i32_w];rw [c6b0])|skip)
  (try rw [c6b1])
  simp only [Option.some.injEq,Prod.mk.injEq] at H
  obtain ⟨rfl,rfl⟩:=H
  go_wp2
  go_ret2
  exact ⟨_,ze,by first|exact Kd.R_nil _ _ _ _ _|exact Kd.N_nil _ _ _ _ _|exact Kd.V_nil _ _ _ _ _|exact Kd.Q_nil _ _ _ _ _|exact Kd.S_nil _ _ _ _ _,by repeat (first|(with_reducible first|exact HB.out|apply below_alloc|apply pw_below_drewN|apply below_drew1)|exact HB.out)⟩
def ancepslaw42_ConflictShrinks_1_v1.f (k:Nat) (l0:List Int) (l1_0:List Int):Option (Bool):=(slices_Equal_int_int.f k l0 l1_0).bind fun t766=>(some t766)
theorem ancepslaw42_ConflictShrinks_1_v1.mono:∀ a0 a1 k,LeO (ancepslaw42_ConflictShrinks_1_v1.f k a0 a1) (ancepslaw42_ConflictShrinks_1_v1.f (k+1) a0 a1):=by
 intro a0 a1 k
 unfold ancepslaw42_ConflictShrinks_1_v1.f
 repeat' first
   | (with_reducible exact slices_Equal_int_int.mono _ _ _)
   | (with_reducible exact LeO.refl _)
   | (with_reducible exact LeO.none _)
   | (with_reducible refine LeO.ite ?_ ?_)
   | (with_reducible refine LeO.bind ?_ (fun _=>?_))
   | exact LeO.none _
   | refine LeO.ite ?_ ?_
   | refine LeO.bind ?_ (fun _=>?_)
set_option maxHeartbeats 8000000 in
set_option maxRecDepth 100000 in
theorem ancepslaw42_ConflictShrinks_1_v1.calls (k:Nat) (A0:Option Addr) (c0:Nat) (l0:List Int) (gp1_0:Nat) (A1_0:Option Addr) (c1_0:Nat) (l1_0:List Int) (r:Bool) (w:World) (hr0:Kd.C (Kd.int .i64) w A0 l0.length l0) (hc0:l0.length≤c0) (hr1_0:Kd.C (Kd.int .i64) w A1_0 l1_0.length l1_0) (hc1_0:l1_0.length≤c1_0) (hb_gp1_0:w.heap[gp1_0]?=some (.cells #[.slice A1_0 l1_0.length c1_0] 30 (0,0))) (h:ancepslaw42_ConflictShrinks_1_v1.f k l0 l1_0=some r) :
  Calls Try.prog 24 #[.slice A0 l0.length c0,.pointer (some ⟨gp1_0,0,none⟩)] w fun e w'=>e=.returned (.bool r)∧Drawn0 w w':=by
 have hu30:=Try.underlying30
 have HR0:=zA hr0
 have HC0:=zA hc0
 clear hr0 hc0
 have HR1_0:=zA hr1_0
 have HC1_0:=zA hc1_0
 clear hr1_0 hc1_0
 have BK765:=zA hb_gp1_0
 clear hb_gp1_0
 have H:((slices_Equal_int_int.f k l0 l1_0).bind fun t766=>(some t766))=some r:=h
 clear h
 replace H:=Option.bind_eq_some_iff.mp H
 obtain ⟨t766,A30,H⟩:=H
 replace H:(some t766)=some r:=H
 have A3:=zA A30
 clear A30
 obtain rfl:=Option.some.inj H
 have hcz4_0:w.cell? ⟨gp1_0,0,none⟩=some (.slice A1_0 l1_0.length c1_0):=(blk_cell BK765.out 0).trans rfl
 have hfz4_0:=blk_frozen BK765.out 0
 go_enter Try.func24,Try.ntmps24
 go_wp2_with (first|((with_reducible refine gate_callee (f:=19) rfl ?_);refine goesL_ (some 6) rfl rfl Try.func19 zK rfl #[.slice A0 l0.length c0,.slice A1_0 l1_0.length c1_0] rfl zM ?_;(with_reducible refine (slices_Equal_int_int.calls k _ _ l0 _ _ l1_0 t766 _ ?side1 ?side2 ?side3 ?side4 A3.out).mono ?_);(case side1=>repeat (first|exact HR0.out|(with_reducible refine Kd.C_alloc ?_ _)|(with_reducible refine Kd.C_drewN ?_ _)|(with_reducible refine Kd.C_drew ?_)));(case side2=>exact HC0.out);(case side3=>repeat (first|exact HR1_0.out|(with_reducible refine Kd.C_alloc ?_ _)|(with_reducible refine Kd.C_drewN ?_ _)|(with_reducible refine Kd.C_drew ?_)));(case side4=>exact HC1_0.out);rintro e w' ⟨rfl,⟨nd,rfl⟩⟩;refine ⟨_,rfl,?_⟩))
 go_ret
 exact ⟨by first|rfl|(simp;done)|(simp [*];done),by repeat (first|exact Drawn0.refl _|apply Drawn0.step)⟩
def slices_IndexFunc_int_int_ancepslaw42_ConflictShrinks_1.l0:Nat→List (List Int)→Int→Int→List Int→Option (Int)
 | 0,_,_,_,_=>none
 | k+1,x0,x7,x8,x768000=>if x8<x7 then (if 0≤x8 then (if x8<(x0.length:Int) then ((ancepslaw42_ConflictShrinks_1_v1.f k (rd_L1 x0 x8) x768000).bind fun t769=>(if t769=true then (some x8) else (slices_IndexFunc_int_int_ancepslaw42_ConflictShrinks_1.l0 k x0 x7 (wrap64 (x8+1)) x768000))) else (none)) else (none)) else (some (-1))
def slices_IndexFunc_int_int_ancepslaw42_ConflictShrinks_1.f (k:Nat) (l0:List (List Int)) (l1_0:List Int):Option (Int):=slices_IndexFunc_int_int_ancepslaw42_ConflictShrinks_1.l0 k l0 (l0.length:Int) 0 l1_0
theorem slices_IndexFunc_int_int_ancepslaw42_ConflictShrinks_1.mono_l:∀ k,(∀ y0 y1 y2 y3,LeO (slices_IndexFunc_int_int_ancepslaw42_ConflictShrinks_1.l0 k y0 y1 y2 y3) (slices_IndexFunc_int_int_ancepslaw42_ConflictShrinks_1.l0 (k+1) y0 y1 y2 y3))
 | 0=>fun _ _ _ _ r h=>by simp [slices_IndexFunc_int_int_ancepslaw42_ConflictShrinks_1.l0] at h
 | k+1=>by
  have ih0:=slices_IndexFunc_int_int_ancepslaw42_ConflictShrinks_1.mono_l k
  ·intro y0 y1 y2 y3
   unfold slices_IndexFunc_int_int_ancepslaw42_ConflictShrinks_1.l0
   repeat' first
   | (with_reducible exact ih0 _ _ _ _)
   | (with_reducible exact ancepslaw42_ConflictShrinks_1_v1.mono _ _ _)
   | (with_reducible exact LeO.refl _)
   | (with_reducible exact LeO.none _)
   | (with_reducible refine LeO.ite ?_ ?_)
   | (with_reducible refine LeO.bind ?_ (fun _=>?_))
   | exact LeO.none _
   | refine LeO.ite ?_ ?_
   | refine LeO.bind ?_ (fun _=>?_)
theorem slices_IndexFunc_int_int_ancepslaw42_ConflictShrinks_1.mono:∀ a0 a1 k,LeO (slices_IndexFunc_int_int_ancepslaw42_ConflictShrinks_1.f k a0 a1) (slices_IndexFunc_int_int_ancepslaw42_ConflictShrinks_1.f (k+1) a0 a1):=by
 intro a0 a1 k
 have ih0:=slices_IndexFunc_int_int_ancepslaw42_ConflictShrinks_1.mono_l k
 unfold slices_IndexFunc_int_int_ancepslaw42_ConflictShrinks_1.f
 repeat' first
   | (with_reducible exact ih0 _ _ _ _)
   | (with_reducible exact ancepslaw42_ConflictShrinks_1_v1.mono _ _ _)
   | (with_reducible exact LeO.refl _)
   | (with_reducible exact LeO.none _)
   | (with_reducible refine LeO.ite ?_ ?_)
   | (with_reducible refine LeO.bind ?_ (fun _=>?_))
   | exact LeO.none _
   | refine LeO.ite ?_ ?_
   | refine LeO.bind ?_ (fun _=>?_)
set_option maxHeartbeats 8000000 in
set_option maxRecDepth 100000 in
theorem slices_IndexFunc_int_int_ancepslaw42_ConflictShrinks_1.calls (k:Nat) (A0:Option Addr) (c0:Nat) (l0:List (List Int)) (gp1_0:Nat) (A1_0:Option Addr) (c1_0:Nat) (l1_0:List Int) (r:Int) (w:World) (hr0:Kd.C (Kd.slice 3 (Kd.int .i64)) w A0 l0.length l0) (hc0:l0.length≤c0) (hr1_0:Kd.C (Kd.int .i64) w A1_0 l1_0.length l1_0) (hc1_0:l1_0.length≤c1_0) (hb_gp1_0:w.heap[gp1_0]?=some (.cells #[.slice A1_0 l1_0.length c1_0] 30 (0,0))) (h:slices_IndexFunc_int_int_ancepslaw42_ConflictShrinks_1.f k l0 l1_0=some r) :
  Calls Try.prog 59 #[.slice A0 l0.length c0,.func (.func 24) #[] #[.pointer (some ⟨gp1_0,0,none⟩)]] w fun e w'=>e=.returned (.int .i64 r)∧Below w.heap.size w w':=by
 have hu30:=Try.underlying30
 have HR0:=zA hr0
 have HC0:=zA hc0
 clear hr0 hc0
 have HR1_0:=zA hr1_0
 have HC1_0:=zA hc1_0
 clear hr1_0 hc1_0
 have BK767:=zA hb_gp1_0
 clear hb_gp1_0
 have HB:=zA (Below.refl w.heap.size w)
 have H:(slices_IndexFunc_int_int_ancepslaw42_ConflictShrinks_1.l0 k l0 (l0.length:Int) 0 l1_0)=some r:=h
 clear h
 have H':=zA H
 clear H
 go_enter Try.func59,Try.ntmps59
 go_wp2
 go_loopg [8] k (fun kq v8 w'=>∃ (x8_1:Int),v8=.int .i64 x8_1∧Aside0 (slices_IndexFunc_int_int_ancepslaw42_ConflictShrinks_1.l0 kq l0 (l0.length:Int) x8_1 l1_0=some r)∧Aside0 (kq≤k)∧Aside0 (w'.heap[gp1_0]?=some (.cells #[(.slice A1_0 l1_0.length c1_0)] 30 (0,0)))∧Aside0 (Below w.heap.size w w'))
 case atStart=>exact ⟨(0),zT,H',⟨Nat.le_refl _⟩,⟨by refine zj ?_;exact BK767.out⟩,⟨by repeat (first|(with_reducible first|exact HB.out|apply below_alloc|apply pw_below_drewN|apply below_drew1|refine below_set ?_ GE767.out)|exact HB.out)⟩⟩
 case round=>
  clear H'
  obtain ⟨x8_1,rfl,HA,HK1,BK767,HB⟩:=hrel
  cases gk with
  | zero=>exact absurd HA.out (by simp [slices_IndexFunc_int_int_ancepslaw42_ConflictShrinks_1.l0])
  | succ k1=>
   have H:=HA.out
   clear HA
   simp only [slices_IndexFunc_int_int_ancepslaw42_ConflictShrinks_1.l0] at H
   by_cases c3:x8_1<(l0.length:Int)
   ·rw [if_pos c3] at H
    have c3b0:decide (x8_1<(l0.length:Int))=true:=decide_eq_true c3
    clear c3
    by_cases c4:0≤x8_1
    ·rw [if_pos c4] at H
     have c4b0:decide (0≤x8_1)=true:=decide_eq_true c4
     clear c4
     by_cases c5:x8_1<(l0.length:Int)
     ·rw [if_pos c5] at H
      have c5b0:decide (x8_1<(l0.length:Int))=true:=decide_eq_true c5
      clear c5
      replace H:=Option.bind_eq_some_iff.mp H
      obtain ⟨t769,A60,H⟩:=H
      replace H:(if t769=true then (some x8_1) else (slices_IndexFunc_int_int_ancepslaw42_ConflictShrinks_1.l0 k1 l0 (l0.length:Int) (wrap64 (x8_1+1)) l1_0))=some r:=H
      have A6:=zA A60
      clear A60
      have HC7:=zA H
      clear H
      have p768:0≤(x8_1:Int):=of_decide_eq_true zh
      have q768:x8_1<(l0.length:Int):=of_decide_eq_true zh
      obtain ⟨ad768,A768_0,c768_0,e768,hx768_0,hl768_0,hi768_0⟩:=at_L1 HR0.out x8_1 p768 q768
      cases e768
      replace hx768_0:=(HB.out.cell (World.block_lt_of_cell? w _ hx768_0)).trans hx768_0
      have HR768_0:=zA hi768_0
      have HC768_0:=zA hl768_0
      clear hi768_0 hl768_0
      replace p768:=eq_true p768
      replace q768:=eq_true q768
      go_upto_if 16 with (first|(go_at_call 24;(with_reducible refine (ancepslaw42_ConflictShrinks_1_v1.calls k1 _ _ (rd_L1 l0 x8_1) gp1_0 A1_0 c1_0 l1_0 t769 _ ?side1 ?side2 ?side3 ?side4 ?side5 A6.out).mono ?_);(case side1=>exact zC (Kd.C_below HR768_0.out HB.out));(case side2=>exact HC768_0.out);(case side3=>exact zC (Kd.C_below HR1_0.out HB.out));(case side4=>exact HC1_0.out);(case side5=>refine zj ?_;exact BK767.out);rintro e w' ⟨rfl,⟨nd,rfl⟩⟩))
      (try simp only [Act.put,zi,zs,zt])
      have H:=HC7.out
      clear HC7
      by_cases c8:t769=true
      ·subst c8
       have H1:(some x8_1)=some r:=by rw [if_pos rfl] at H;exact H
       clear H
       have H:=H1
       clear H1
       obtain rfl:=Option.some.inj H
       go_wp2
       go_ret
       exact ⟨ze,by repeat (first|(with_reducible first|exact HB.out|apply below_alloc|apply pw_below_drewN|apply below_drew1|refine below_set ?_ GE767.out)|exact HB.out)⟩
      ·replace c8:=Bool.eq_false_iff.mpr c8
       subst c8
       have H1:(slices_IndexFunc_int_int_ancepslaw42_ConflictShrinks_1.l0 k1 l0 (l0.length:Int) (wrap64 (x8_1+1)) l1_0)=some r:=by rw [if_neg (show ¬ (false=true) by decide)] at H;exact H
       clear H
       have H:=H1
       clear H1
       have H':=zA H
       clear H
       go_wp2
       go_roundg k1
       case measure=>have:=HK1.out;omega
       case rel=>exact ⟨(wrap64 (x8_1+1)),zT,H',⟨by have:=HK1.out;omega⟩,⟨by refine zj ?_;exact BK767.out⟩,⟨by repeat (first|(with_reducible first|exact HB.out|apply below_alloc|apply pw_below_drewN|apply below_drew1|refine below_set ?_ GE767.out)|exact HB.out)⟩⟩
     ·rw [if_neg c5] at H
      exact absurd H (by simp)
    ·rw [if_neg c4] at H
     exact absurd H (by simp)
   ·rw [if_neg c3] at H
    have c3b0:decide (x8_1<(l0.length:Int))=false:=decide_eq_false c3
    clear c3
    obtain rfl:=Option.some.inj H
    go_wp2
    go_ret
    exact ⟨ze,by repeat (first|(with_reducible first|exact HB.out|apply below_alloc|apply pw_below_drewN|apply below_drew1|refine below_set ?_ GE767.out)|exact HB.out)⟩
def slices_ContainsFunc_int_int_ancepslaw42_ConflictShrinks_1.f (k:Nat) (l0:List (List Int)) (l1_0:List Int):Option (Bool):=(slices_IndexFunc_int_int_ancepslaw42_ConflictShrinks_1.f k l0 l1_0).bind fun t771=>(some (decide (t771≥0)))
theorem slices_ContainsFunc_int_int_ancepslaw42_ConflictShrinks_1.mono:∀ a0 a1 k,LeO (slices_ContainsFunc_int_int_ancepslaw42_ConflictShrinks_1.f k a0 a1) (slices_ContainsFunc_int_int_ancepslaw42_ConflictShrinks_1.f (k+1) a0 a1):=by
 intro a0 a1 k
 unfold slices_ContainsFunc_int_int_ancepslaw42_ConflictShrinks_1.f
 repeat' first
   | (with_reducible exact slices_IndexFunc_int_int_ancepslaw42_ConflictShrinks_1.mono _ _ _)
   | (with_reducible exact LeO.refl _)
   | (with_reducible exact LeO.none _)
   | (with_reducible refine LeO.ite ?_ ?_)
   | (with_reducible refine LeO.bind ?_ (fun _=>?_))
   | exact LeO.none _
   | refine LeO.ite ?_ ?_
   | refine LeO.bind ?_ (fun _=>?_)
set_option maxHeartbeats 8000000 in
set_option maxRecDepth 100000 in
theorem slices_ContainsFunc_int_int_ancepslaw42_ConflictShrinks_1.calls (k:Nat) (A0:Option Addr) (c0:Nat) (l0:List (List Int)) (gp1_0:Nat) (A1_0:Option Addr) (c1_0:Nat) (l1_0:List Int) (r:Bool) (w:World) (hr0:Kd.C (Kd.slice 3 (Kd.int .i64)) w A0 l0.length l0) (hc0:l0.length≤c0) (hr1_0:Kd.C (Kd.int .i64) w A1_0 l1_0.length l1_0) (hc1_0:l1_0.length≤c1_0) (hb_gp1_0:w.heap[gp1_0]?=some (.cells #[.slice A1_0 l1_0.length c1_0] 30 (0,0))) (h:slices_ContainsFunc_int_int_ancepslaw42_ConflictShrinks_1.f k l0 l1_0=some r) :
  Calls Try.prog 23 #[.slice A0 l0.length c0,.func (.func 24) #[] #[.pointer (some ⟨gp1_0,0,none⟩)]] w fun e w'=>e=.returned (.bool r)∧Below w.heap.size w w':=by
 have HR0:=zA hr0
 have HC0:=zA hc0
 clear hr0 hc0
 have HR1_0:=zA hr1_0
 have HC1_0:=zA hc1_0
 clear hr1_0 hc1_0
 have BK770:=zA hb_gp1_0
 clear hb_gp1_0
 have HB:=zA (Below.refl w.heap.size w)
 have H:((slices_IndexFunc_int_int_ancepslaw42_ConflictShrinks_1.f k l0 l1_0).bind fun t771=>(some (decide (t771≥0))))=some r:=h
 clear h
 replace H:=Option.bind_eq_some_iff.mp H
 obtain ⟨t771,A30,H⟩:=H
 replace H:(some (decide (t771≥0)))=some r:=H
 have A3:=zA A30
 clear A30
 obtain rfl:=Option.some.inj H
 go_enter Try.func23,Try.ntmps23
 go_wp2_with (first|((with_reducible refine gate_callee (f:=59) rfl ?_);refine goesL_ (some 7) rfl rfl Try.func59 zK rfl #[.slice A0 l0.length c0,.func (.func 24) #[] #[.pointer (some ⟨gp1_0,0,none⟩)]] rfl zM ?_;(with_reducible refine (slices_IndexFunc_int_int_ancepslaw42_ConflictShrinks_1.calls k _ _ l0 gp1_0 A1_0 c1_0 l1_0 t771 _ ?side1 ?side2 ?side3 ?side4 ?side5 A3.out).mono ?_);(case side1=>repeat (first|exact HR0.out|(with_reducible refine Kd.C_alloc ?_ _)|(with_reducible refine Kd.C_drewN ?_ _)|(with_reducible refine Kd.C_drew ?_)));(case side2=>exact HC0.out);(case side3=>repeat (first|exact HR1_0.out|(with_reducible refine Kd.C_alloc ?_ _)|(with_reducible refine Kd.C_drewN ?_ _)|(with_reducible refine Kd.C_drew ?_)));(case side4=>exact HC1_0.out);(case side5=>refine zj ?_;exact BK770.out);rintro e w4 ⟨rfl,hb⟩;refine ⟨_,rfl,?_⟩;replace BK770:=zA (zb BK770 hb);replace HB:=zA (below_step zB hb);(try clear hb);(try clear hb2);(try clear hk);(try clear hi)))
 go_ret
 exact ⟨ze,by repeat (first|(with_reducible first|exact HB.out|apply below_alloc|apply pw_below_drewN|apply below_drew1|refine below_set ?_ GE770.out)|exact HB.out)⟩
def ancepslaw42_ConflictShrinks.f (k:Nat) (l0:List (S50)) (l1:List Int):Option (Bool):=(ancepslaw42_awake.f k).bind fun t772=>(if t772=true then ((ancepsref42_Few.f k l0).bind fun t773=>(if t773=true then (if (l1.length:Int)>20 then ((ancepslaw42_awake.f k).bind fun t774=>(some t774)) else ((ancepslaw42_copied.f k l0).bind fun t775=>((slices_Clone_int_int_21.f l1).bind fun t778=>((conflict_Shrink.f k t775 t778).bind fun bt781=>((ancepsref42_Shrink.f k l0 l1).bind fun bt786=>(if bt781.2=bt786.2 then ((slices_Equal_int_int.f k bt781.1 bt786.1).bind fun t790=>(if t790=true then (if bt781.2=0 then ((conflict_Cores.f k l0).bind fun bt791=>(if bt791.2=0 then ((slices_ContainsFunc_int_int_ancepslaw42_ConflictShrinks_1.f k bt791.1 bt781.1).bind fun t795=>(some t795)) else (none))) else ((slices_Equal_int_int.f k bt781.1 bt786.1).bind fun t796=>(some t796))) else ((slices_Equal_int_int.f k bt781.1 bt786.1).bind fun t797=>(some t797)))) else (none))))))) else ((ancepslaw42_awake.f k).bind fun t798=>(some t798)))) else ((ancepslaw42_awake.f k).bind fun t799=>(some t799)))
theorem ancepslaw42_ConflictShrinks.mono:∀ a0 a1 k,LeO (ancepslaw42_ConflictShrinks.f k a0 a1) (ancepslaw42_ConflictShrinks.f (k+1) a0 a1):=by
 intro a0 a1 k
 unfold ancepslaw42_ConflictShrinks.f
 repeat' first
   | (with_reducible exact ancepslaw42_awake.mono _)
   | (with_reducible exact ancepslaw42_copied.mono _ _)
   | (with_reducible exact ancepsref42_Few.mono _ _)
   | (with_reducible exact ancepsref42_Shrink.mono _ _ _)
   | (with_reducible exact conflict_Cores.mono _ _)
   | (with_reducible exact conflict_Shrink.mono _ _ _)
   | (with_reducible exact slices_ContainsFunc_int_int_ancepslaw42_ConflictShrinks_1.mono _ _ _)
   | (with_reducible exact slices_Equal_int_int.mono _ _ _)
   | (with_reducible exact LeO.refl _)
   | (with_reducible exact LeO.none _)
   | (with_reducible refine LeO.ite ?_ ?_)
   | (with_reducible refine LeO.bind ?_ (fun _=>?_))
   | exact LeO.none _
   | refine LeO.ite ?_ ?_
   | refine LeO.bind ?_ (fun _=>?_)
set_option maxHeartbeats 8000000 in
set_option maxRecDepth 100000 in
theorem ancepslaw42_ConflictShrinks.calls (k:Nat) (A0:Option Addr) (c0:Nat) (l0:List (S50)) (A1:Option Addr) (c1:Nat) (l1:List Int) (r:Bool) (w:World) (hr0:Kd.C k50 w A0 l0.length l0) (hc0:l0.length≤c0) (hr1:Kd.C (Kd.int .i64) w A1 l1.length l1) (hc1:l1.length≤c1) (h:ancepslaw42_ConflictShrinks.f k l0 l1=some r) :
  Calls Try.prog 4 #[.slice A0 l0.length c0,.slice A1 l1.length c1] w fun e w'=>e=.returned (.bool r)∧Below w.heap.size w w':=by
 have hu30:=Try.underlying30
 have HR0:=zA hr0
 have HC0:=zA hc0
 clear hr0 hc0
 have HR1:=zA hr1
 have HC1:=zA hc1
 clear hr1 hc1
 have HB:=zA (Below.refl w.heap.size w)
 have H:((ancepslaw42_awake.f k).bind fun t772=>(if t772=true then ((ancepsref42_Few.f k l0).bind fun t773=>(if t773=true then (if (l1.length:Int)>20 then ((ancepslaw42_awake.f k).bind fun t774=>(some t774)) else ((ancepslaw42_copied.f k l0).bind fun t775=>((slices_Clone_int_int_21.f l1).bind fun t778=>((conflict_Shrink.f k t775 t778).bind fun bt781=>((ancepsref42_Shrink.f k l0 l1).bind fun bt786=>(if bt781.2=bt786.2 then ((slices_Equal_int_int.f k bt781.1 bt786.1).bind fun t790=>(if t790=true then (if bt781.2=0 then ((conflict_Cores.f k l0).bind fun bt791=>(if bt791.2=0 then ((slices_ContainsFunc_int_int_ancepslaw42_ConflictShrinks_1.f k bt791.1 bt781.1).bind fun t795=>(some t795)) else (none))) else ((slices_Equal_int_int.f k bt781.1 bt786.1).bind fun t796=>(some t796))) else ((slices_Equal_int_int.f k bt781.1 bt786.1).bind fun t797=>(some t797)))) else (none))))))) else ((ancepslaw42_awake.f k).bind fun t798=>(some t798)))) else ((ancepslaw42_awake.f k).bind fun t799=>(some t799))))=some r:=h
 clear h
 replace H:=Option.bind_eq_some_iff.mp H
 obtain ⟨t772,A30,H⟩:=H
 replace H:(if t772=true then ((ancepsref42_Few.f k l0).bind fun t773=>(if t773=true then (if (l1.length:Int)>20 then ((ancepslaw42_awake.f k).bind fun t774=>(some t774)) else ((ancepslaw42_copied.f k l0).bind fun t775=>((slices_Clone_int_int_21.f l1).bind fun t778=>((conflict_Shrink.f k t775 t778).bind fun bt781=>((ancepsref42_Shrink.f k l0 l1).bind fun bt786=>(if bt781.2=bt786.2 then ((slices_Equal_int_int.f k bt781.1 bt786.1).bind fun t790=>(if t790=true then (if bt781.2=0 then ((conflict_Cores.f k l0).bind fun bt791=>(if bt791.2=0 then ((slices_ContainsFunc_int_int_ancepslaw42_ConflictShrinks_1.f k bt791.1 bt781.1).bind fun t795=>(some t795)) else (none))) else ((slices_Equal_int_int.f k bt781.1 bt786.1).bind fun t796=>(some t796))) else ((slices_Equal_int_int.f k bt781.1 bt786.1).bind fun t797=>(some t797)))) else (none))))))) else ((ancepslaw42_awake.f k).bind fun t798=>(some t798)))) else ((ancepslaw42_awake.f k).bind fun t799=>(some t799)))=some r:=H
 have A3:=zA A30
 clear A30
 by_cases c4:t772=true
 ·subst c4
  have H1:((ancepsref42_Few.f k l0).bind fun t773=>(if t773=true then (if (l1.length:Int)>20 then ((ancepslaw42_awake.f k).bind fun t774=>(some t774)) else ((ancepslaw42_copied.f k l0).bind fun t775=>((slices_Clone_int_int_21.f l1).bind fun t778=>((conflict_Shrink.f k t775 t778).bind fun bt781=>((ancepsref42_Shrink.f k l0 l1).bind fun bt786=>(if bt781.2=bt786.2 then ((slices_Equal_int_int.f k bt781.1 bt786.1).bind fun t790=>(if t790=true then (if bt781.2=0 then ((conflict_Cores.f k l0).bind fun bt791=>(if bt791.2=0 then ((slices_ContainsFunc_int_int_ancepslaw42_ConflictShrinks_1.f k bt791.1 bt781.1).bind fun t795=>(some t795)) else (none))) else ((slices_Equal_int_int.f k bt781.1 bt786.1).bind fun t796=>(some t796))) else ((slices_Equal_int_int.f k bt781.1 bt786.1).bind fun t797=>(some t797)))) else (none))))))) else ((ancepslaw42_awake.f k).bind fun t798=>(some t798))))=some r:=by rw [if_pos rfl] at H;exact H
  clear H
  have H:=H1
  clear H1
  replace H:=Option.bind_eq_some_iff.mp H
  obtain ⟨t773,A50,H⟩:=H
  replace H:(if t773=true then (if (l1.length:Int)>20 then ((ancepslaw42_awake.f k).bind fun t774=>(some t774)) else ((ancepslaw42_copied.f k l0).bind fun t775=>((slices_Clone_int_int_21.f l1).bind fun t778=>((conflict_Shrink.f k t775 t778).bind fun bt781=>((ancepsref42_Shrink.f k l0 l1).bind fun bt786=>(if bt781.2=bt786.2 then ((slices_Equal_int_int.f k bt781.1 bt786.1).bind fun t790=>(if t790=true then (if bt781.2=0 then ((conflict_Cores.f k l0).bind fun bt791=>(if bt791.2=0 then ((slices_ContainsFunc_int_int_ancepslaw42_ConflictShrinks_1.f k bt791.1 bt781.1).bind fun t795=>(some t795)) else (none))) else ((slices_Equal_int_int.f k bt781.1 bt786.1).bind fun t796=>(some t796))) else ((slices_Equal_int_int.f k bt781.1 bt786.1).bind fun t797=>(some t797)))) else (none))))))) else ((ancepslaw42_awake.f k).bind fun t798=>(some t798)))=some r:=H
  have A5:=zA A50
  clear A50
  by_cases c6:t773=true
  ·subst c6
   have H1:(if (l1.length:Int)>20 then ((ancepslaw42_awake.f k).bind fun t774=>(some t774)) else ((ancepslaw42_copied.f k l0).bind fun t775=>((slices_Clone_int_int_21.f l1).bind fun t778=>((conflict_Shrink.f k t775 t778).bind fun bt781=>((ancepsref42_Shrink.f k l0 l1).bind fun bt786=>(if bt781.2=bt786.2 then ((slices_Equal_int_int.f k bt781.1 bt786.1).bind fun t790=>(if t790=true then (if bt781.2=0 then ((conflict_Cores.f k l0).bind fun bt791=>(if bt791.2=0 then ((slices_ContainsFunc_int_int_ancepslaw42_ConflictShrinks_1.f k bt791.1 bt781.1).bind fun t795=>(some t795)) else (none))) else ((slices_Equal_int_int.f k bt781.1 bt786.1).bind fun t796=>(some t796))) else ((slices_Equal_int_int.f k bt781.1 bt786.1).bind fun t797=>(some t797)))) else (none)))))))=some r:=by rw [if_pos rfl] at H;exact H
   clear H
   have H:=H1
   clear H1
   have HC7:=zA H
   clear H
   go_enter Try.func4,Try.ntmps4
   go_upto_if 22 with (first|((with_reducible refine gate_callee (f:=9) rfl ?_);refine goesL_ (some 11) rfl rfl Try.func9 zK rfl #[] rfl zM ?_;(with_reducible refine (ancepslaw42_awake.calls k  true _ A3.out).mono ?_);rintro e w8 ⟨rfl,hb⟩;refine ⟨_,rfl,?_⟩;replace HB:=zA (below_step zB hb);(try clear hb);(try clear hb2);(try clear hk);(try clear hi))|(go_at_call 10;(with_reducible refine (ancepsref42_Few.calls k _ _ l0 true _ ?side1 ?side2 A5.out).mono ?_);(case side1=>exact zC (Kd.C_below HR0.out HB.out));(case side2=>exact HC0.out);rintro e w9 ⟨rfl,hb⟩;replace HB:=zA (below_step zB hb);(try clear hb);(try clear hb2);(try clear hk);(try clear hi)))
   (try simp only [Act.put,zi,zs,zt])
   have H:=HC7.out
   clear HC7
   by_cases c10:(l1.length:Int)>20
   ·rw [if_pos c10] at H
    have c10b0:decide (20<(l1.length:Int))=true:=decide_eq_true c10
    have c10b1:decide (20<l1.length)=true:=decide_eq_true (by omega)
    clear c10
    (first|rw [c10b0]|(simp only [i64_w,i32_w];rw [c10b0])|skip)
    (try rw [c10b1])
    replace H:=Option.bind_eq_some_iff.mp H
    obtain ⟨t774,A110,H⟩:=H
    replace H:(some t774)=some r:=H
    have A11:=zA A110
    clear A110
    obtain rfl:=Option.some.inj H
    go_wp2_with (first|((with_reducible refine gate_callee (f:=9) rfl ?_);refine goesL_ (some 23) rfl rfl Try.func9 zK rfl #[] rfl zM ?_;(with_reducible refine (ancepslaw42_awake.calls k  t774 _ A11.out).mono ?_);rintro e w12 ⟨rfl,hb⟩;refine ⟨_,rfl,?_⟩;replace HB:=zA (below_step zB hb);(try clear hb);(try clear hb2);(try clear hk);(try clear hi)))
    go_ret
    exact ⟨ze,by repeat (first|(with_reducible first|exact HB.out|apply below_alloc|apply pw_below_drewN|apply below_drew1)|exact HB.out)⟩
   ·rw [if_neg c10] at H
    have c10b0:decide (20<(l1.length:Int))=false:=decide_eq_false c10
    have c10b1:decide (20<l1.length)=false:=decide_eq_false (by omega)
    clear c10
    (first|rw [c10b0]|(simp only [i64_w,i32_w];rw [c10b0])|skip)
    (try rw [c10b1])
    replace H:=Option.bind_eq_some_iff.mp H
    obtain ⟨t775,A130,H⟩:=H
    replace H:((slices_Clone_int_int_21.f l1).bind fun t778=>((conflict_Shrink.f k t775 t778).bind fun bt781=>((ancepsref42_Shrink.f k l0 l1).bind fun bt786=>(if bt781.2=bt786.2 then ((slices_Equal_int_int.f k bt781.1 bt786.1).bind fun t790=>(if t790=true then (if bt781.2=0 then ((conflict_Cores.f k l0).bind fun bt791=>(if bt791.2=0 then ((slices_ContainsFunc_int_int_ancepslaw42_ConflictShrinks_1.f k bt791.1 bt781.1).bind fun t795=>(some t795)) else (none))) else ((slices_Equal_int_int.f k bt781.1 bt786.1).bind fun t796=>(some t796))) else ((slices_Equal_int_int.f k bt781.1 bt786.1).bind fun t797=>(some t797)))) else (none)))))=some r:=H
    have A13:=zA A130
    clear A130
    replace H:=Option.bind_eq_some_iff.mp H
    obtain ⟨t778,A140,H⟩:=H
    replace H:((conflict_Shrink.f k t775 t778).bind fun bt781=>((ancepsref42_Shrink.f k l0 l1).bind fun bt786=>(if bt781.2=bt786.2 then ((slices_Equal_int_int.f k bt781.1 bt786.1).bind fun t790=>(if t790=true then (if bt781.2=0 then ((conflict_Cores.f k l0).bind fun bt791=>(if bt791.2=0 then ((slices_ContainsFunc_int_int_ancepslaw42_ConflictShrinks_1.f k bt791.1 bt781.1).bind fun t795=>(some t795)) else (none))) else ((slices_Equal_int_int.f k bt781.1 bt786.1).bind fun t796=>(some t796))) else ((slices_Equal_int_int.f k bt781.1 bt786.1).bind fun t797=>(some t797)))) else (none))))=some r:=H
    have A14:=zA A140
    clear A140
    replace H:=Option.bind_eq_some_iff.mp H
    obtain ⟨⟨t781,t782⟩,A150,H⟩:=H
    replace H:((ancepsref42_Shrink.f k l0 l1).bind fun bt786=>(if t782=bt786.2 then ((slices_Equal_int_int.f k t781 bt786.1).bind fun t790=>(if t790=true then (if t782=0 then ((conflict_Cores.f k l0).bind fun bt791=>(if bt791.2=0 then ((slices_ContainsFunc_int_int_ancepslaw42_ConflictShrinks_1.f k bt791.1 t781).bind fun t795=>(some t795)) else (none))) else ((slices_Equal_int_int.f k t781 bt786.1).bind fun t796=>(some t796))) else ((slices_Equal_int_int.f k t781 bt786.1).bind fun t797=>(some t797)))) else (none)))=some r:=H
    have A15:=zA A150
    clear A150
    replace H:=Option.bind_eq_some_iff.mp H
    obtain ⟨⟨t786,t787⟩,A160,H⟩:=H
    replace H:(if t782=t787 then ((slices_Equal_int_int.f k t781 t786).bind fun t790=>(if t790=true then (if t782=0 then ((conflict_Cores.f k l0).bind fun bt791=>(if bt791.2=0 then ((slices_ContainsFunc_int_int_ancepslaw42_ConflictShrinks_1.f k bt791.1 t781).bind fun t795=>(some t795)) else (none))) else ((slices_Equal_int_int.f k t781 t786).bind fun t796=>(some t796))) else ((slices_Equal_int_int.f k t781 t786).bind fun t797=>(some t797)))) else (none))=some r:=H
    have A16:=zA A160
    clear A160
    have HC17:=zA H
    clear H
    go_upto_region 5 with (first|((with_reducible refine gate_callee (f:=12) rfl ?_);refine goesL_ (some 26) rfl rfl Try.func12 zK rfl #[.slice A0 l0.length c0] rfl zM ?_;(with_reducible refine (ancepslaw42_copied.calls k _ _ l0 t775 _ ?side1 ?side2 A13.out).mono ?_);(case side1=>exact zC (Kd.C_below HR0.out HB.out));(case side2=>exact HC0.out);rintro e w18 ⟨v776,rfl,ho0,hb⟩;refine ⟨_,rfl,?_⟩;have HO777:=zA (Kd.N_lower (Kd.N_mono (ok':=fun k_=>True) (Kd.S_N (Kd.S_bound ho0)) (fun k_ hk_=>trivial)) (below_size zB));replace HB:=zA (below_step zB hb);(try clear hb);(try clear hb2);(try clear hk);(try clear hi);(try clear ho0))|((with_reducible refine gate_callee (f:=21) rfl ?_);refine goesL_ (some 28) rfl rfl Try.func21 zK rfl #[.slice A1 l1.length c1] rfl zM ?_;(with_reducible refine (slices_Clone_int_int_21.calls _ _ l1 t778 _ ?side1 ?side2 A14.out).mono ?_);(case side1=>exact zC (Kd.C_below HR1.out HB.out));(case side2=>exact HC1.out);rintro e w19 ⟨v779,rfl,ho0,hb⟩;refine ⟨_,rfl,?_⟩;have HO780:=zA (Kd.R_lower ho0 (below_size zB));replace HO777:=zA (Kd.N_elder' (zN HO777) (Kd.R_base ho0) hb);replace HB:=zA (below_step zB hb);(try clear hb);(try clear hb2);(try clear hk);(try clear hi);(try clear ho0);obtain ⟨Ao20,co20,eo20⟩:=Kd.N_slice HO777.out;subst eo20;obtain ⟨Ao21,co21,eo21⟩:=Kd.R_slice HO780.out;subst eo21)|((with_reducible refine gate_callee (f:=20) rfl ?_);refine goesL_ (some 29) rfl rfl Try.func20 zK rfl #[.slice Ao20 t775.length co20,.slice Ao21 t778.length co21] rfl zM ?_;(with_reducible refine (conflict_Shrink.calls k _ _ t775 _ _ t778 t781 t782 _ ?side1 ?side2 ?side3 ?side4 A15.out).mono ?_);(case side1=>exact zC (Kd.N_reads' HO777.out).2.2);(case side2=>exact (Kd.N_reads' HO777.out).2.1);(case side3=>exact zC (Kd.R_reads' HO780.out).2.2);(case side4=>exact (Kd.R_reads' HO780.out).2.1);rintro e w22 ⟨v783,rfl,ho0,hb⟩;refine ⟨_,rfl,?_⟩;have HO784:=zA (Kd.R_lower (Kd.R_new' ho0 (Kd.R_lt (zR HO780))) (below_size zB));replace HO777:=zA (Kd.N_elder' (zN HO777) (Kd.R_base ho0) hb);replace HO780:=zA (Kd.R_elder' (zR HO780) (Kd.R_base ho0) hb);replace HB:=zA (below_step zB hb);(try clear hb);(try clear hb2);(try clear hk);(try clear hi);(try clear ho0))|((with_reducible refine gate_dst (N:=5) rfl ?_);(try (refine gate_guard (by rfl) ?_;dsimp only));refine box_event ?hg (N:=5) ?hd (cs:=#[.slice none 0 0]) (t:=30) ?hr ?_;(case hd=>rfl);(case hg=>rfl);(case hr=>first|(go_simp;done)|(go_simp;rfl));intro gb785 hg w23 hbox hb;have BK785:=zA (hbox);have GW785:=zA (zG hg (below_size zB):w.heap.size≤gb785);have GE785:=GW785;replace HO777:=zA (Kd.N_below (Kd.N_elderB (zN HO777) gb785 (Nat.le_of_eq hg.symm)) hb);replace HO780:=zA (Kd.R_below (zR HO780) hb);replace HO784:=zA (Kd.R_below (zR HO784) hb);replace HB:=zA (below_step zB hb);clear hb hbox hg;obtain ⟨Ao24,co24,eo24⟩:=Kd.R_slice HO784.out;subst eo24;have hcz25_0:w23.cell? ⟨gb785,0,none⟩=some (.slice none 0 0):=(blk_cell BK785.out 0).trans rfl;have hfz25_0:=blk_frozen BK785.out 0)|((with_reducible refine gate_callee (f:=22) rfl ?_);refine goesL_ (some 35) rfl rfl Try.func22 zK rfl #[.slice A0 l0.length c0,.slice A1 l1.length c1] rfl zM ?_;(with_reducible refine (ancepsref42_Shrink.calls k _ _ l0 _ _ l1 t786 t787 _ ?side1 ?side2 ?side3 ?side4 A16.out).mono ?_);(case side1=>exact Kd.C_below HR0.out zB);(case side2=>exact HC0.out);(case side3=>exact Kd.C_below HR1.out zB);(case side4=>exact HC1.out);rintro e w26 ⟨v788,rfl,ho0,hb⟩;refine ⟨_,rfl,?_⟩;have HO789:=zA (Kd.R_lower (Kd.R_new' (Kd.R_new' ho0 (Kd.R_lt (by refine zr ?_;exact (Kd.R_mono (Kd.R_far (p:=⟨gb785,0,none⟩) (Kd.R_types HO780.out BK785.out (by decide)) (fun _ hk=>hk.2) (.slice Ao24 t781.length co24)) (fun _ h_=>h_.1))))) (Kd.R_lt (by refine zr ?_;exact (Kd.R_mono (Kd.R_far (p:=⟨gb785,0,none⟩) (Kd.R_types HO784.out BK785.out (by decide)) (fun _ hk=>hk.2) (.slice Ao24 t781.length co24)) (fun _ h_=>h_.1))))) (below_size zB));replace HO777:=zA (Kd.N_elder' (by (with_reducible repeat (first|apply Kd.N_alloc|apply Kd.N_drewN|apply Kd.N_drew));exact (Kd.N_mono (Kd.N_far (p:=⟨gb785,0,none⟩) (Kd.N_mono HO777.out (fun k_ hk=>(⟨hk,hk.2⟩:_∧k_≠gb785))) (fun _ hk=>hk.2) (.slice Ao24 t781.length co24)) (fun _ h_=>h_.1))) (Kd.R_base ho0) hb);replace HO780:=zA (Kd.R_elder' (by refine zr ?_;exact (Kd.R_mono (Kd.R_far (p:=⟨gb785,0,none⟩) (Kd.R_types HO780.out BK785.out (by decide)) (fun _ hk=>hk.2) (.slice Ao24 t781.length co24)) (fun _ h_=>h_.1))) (Kd.R_base ho0) hb);replace HO784:=zA (Kd.R_elder' (by refine zr ?_;exact (Kd.R_mono (Kd.R_far (p:=⟨gb785,0,none⟩) (Kd.R_types HO784.out BK785.out (by decide)) (fun _ hk=>hk.2) (.slice Ao24 t781.length co24)) (fun _ h_=>h_.1))) (Kd.R_base ho0) hb);replace BK785:=zA (blk_below (g:=gb785) (o:=.cells #[.slice Ao24 t781.length co24] 30 (0,0)) (by refine zj ?_;refine blk_put (cs:=#[.slice none 0 0]) ?_ 0 _ rfl;refine zj ?_;exact BK785.out) hb);replace HB:=zA (below_step zB hb);(try clear hb);(try clear hb2);(try clear hk);(try clear hi);(try clear ho0)))
    (try simp only [Act.put,zi,zs,zt])
    have H:=HC17.out
    clear HC17
    by_cases c27:t782=t787
    ·rw [if_pos c27] at H
     have c27b0:(t782 == t787)=true:=beq_iff_eq.mpr c27
     have c27b1:(t782 != t787)=false:=bne_eq_false_iff_eq.mpr c27
     clear c27
     (first|rw [c27b0]|(simp only [i64_w,i32_w];rw [c27b0])|skip)
     (try rw [c27b1])
     replace H:=Option.bind_eq_some_iff.mp H
     obtain ⟨t790,A280,H⟩:=H
     replace H:(if t790=true then (if t782=0 then ((conflict_Cores.f k l0).bind fun bt791=>(if bt791.2=0 then ((slices_ContainsFunc_int_int_ancepslaw42_ConflictShrinks_1.f k bt791.1 t781).bind fun t795=>(some t795)) else (none))) else ((slices_Equal_int_int.f k t781 t786).bind fun t796=>(some t796))) else ((slices_Equal_int_int.f k t781 t786).bind fun t797=>(some t797)))=some r:=H
     have A28:=zA A280
     clear A280
     by_cases c29:t790=true
     ·subst c29
      have H1:(if t782=0 then ((conflict_Cores.f k l0).bind fun bt791=>(if bt791.2=0 then ((slices_ContainsFunc_int_int_ancepslaw42_ConflictShrinks_1.f k bt791.1 t781).bind fun t795=>(some t795)) else (none))) else ((slices_Equal_int_int.f k t781 t786).bind fun t796=>(some t796)))=some r:=by rw [if_pos rfl] at H;exact H
      clear H
      have H:=H1
      clear H1
      have HC30:=zA H
      clear H
      have hcz31_0:w26.cell? ⟨gb785,0,none⟩=some (.slice Ao24 t781.length co24):=(blk_cell BK785.out 0).trans rfl
      have hfz31_0:=blk_frozen BK785.out 0
      obtain ⟨Ao32,co32,eo32⟩:=Kd.R_slice HO789.out
      subst eo32
      go_upto_if 50 with (first|(go_at_call 19;(with_reducible refine (slices_Equal_int_int.calls k _ _ t781 _ _ t786 true _ ?side1 ?side2 ?side3 ?side4 A28.out).mono ?_);(case side1=>exact zC (Kd.R_reads' HO784.out).2.2);(case side2=>exact (Kd.R_reads' HO784.out).2.1);(case side3=>exact zC (Kd.R_reads' HO789.out).2.2);(case side4=>exact (Kd.R_reads' HO789.out).2.1);rintro e w' ⟨rfl,⟨nd,rfl⟩⟩))
      (try simp only [Act.put,zi,zs,zt])
      have H:=HC30.out
      clear HC30
      by_cases c33:t782=0
      ·rw [if_pos c33] at H
       have c33b0:(t782 == 0)=true:=beq_iff_eq.mpr c33
       have c33b1:(t782 != 0)=false:=bne_eq_false_iff_eq.mpr c33
       clear c33
       (first|rw [c33b0]|(simp only [i64_w,i32_w];rw [c33b0])|skip)
       (try rw [c33b1])
       replace H:=Option.bind_eq_some_iff.mp H
       obtain ⟨⟨t791,t794⟩,A340,H⟩:=H
       replace H:(if t794=0 then ((slices_ContainsFunc_int_int_ancepslaw42_ConflictShrinks_1.f k t791 t781).bind fun t795=>(some t795)) else (none))=some r:=H
       have A34:=zA A340
       clear A340
       by_cases c35:t794=0
       ·rw [if_pos c35] at H
        have c35b0:(t794 == 0)=true:=beq_iff_eq.mpr c35
        have c35b1:(t794 != 0)=false:=bne_eq_false_iff_eq.mpr c35
        clear c35
        replace H:=Option.bind_eq_some_iff.mp H
        obtain ⟨t795,A360,H⟩:=H
        replace H:(some t795)=some r:=H
        have A36:=zA A360
        clear A360
        obtain rfl:=Option.some.inj H
        go_wp2_with (first|((with_reducible refine gate_callee (f:=11) rfl ?_);refine goesL_ (some 61) rfl rfl Try.func11 zK rfl #[.slice A0 l0.length c0] rfl zM ?_;(with_reducible refine (conflict_Cores.calls k _ _ l0 t791 t794 _ ?side1 ?side2 A34.out).mono ?_);(case side1=>repeat (first|exact (Kd.C_below HR0.out zB)|(with_reducible refine Kd.C_alloc ?_ _)|(with_reducible refine Kd.C_drewN ?_ _)|(with_reducible refine Kd.C_drew ?_)));(case side2=>exact HC0.out);rintro e w37 ⟨v792,rfl,ho0,hb⟩;refine ⟨_,rfl,?_⟩;have HO793:=zA (Kd.N_lower (Kd.N_mono (ok':=fun k_=>some k_≠(.slice Ao20 t775.length co20:Value).ownBlock∧some k_≠(.slice Ao21 t778.length co21:Value).ownBlock∧some k_≠(.slice Ao24 t781.length co24:Value).ownBlock∧some k_≠(.slice Ao32 t786.length co32:Value).ownBlock∧k_≠gb785) ho0 (fun k_ hk_=>⟨(Kd.fresh' (Kd.N_lt (zN HO777)) k_ hk_),(Kd.fresh' (Kd.R_lt (zR HO780)) k_ hk_),(Kd.fresh' (Kd.R_lt (zR HO784)) k_ hk_),(Kd.fresh' (Kd.R_lt (zR HO789)) k_ hk_),(Kd.freshB (g:=gb785) (o:=.cells #[.slice Ao24 t781.length co24] 30 (0,0)) (zk BK785) k_ hk_)⟩)) (below_size zB));replace HO777:=zA (Kd.N_elder' (zN HO777) (Kd.N_base ho0) hb);replace HO780:=zA (Kd.R_below (zR HO780) hb);replace HO784:=zA (Kd.R_below (zR HO784) hb);replace HO789:=zA (Kd.R_below (zR HO789) hb);replace BK785:=zA (zb BK785 hb);replace HB:=zA (below_step zB hb);(try clear hb);(try clear hb2);(try clear hk);(try clear hi);(try clear ho0);obtain ⟨Ao38,co38,eo38⟩:=Kd.N_slice HO793.out;subst eo38)|(go_at_call 23;(with_reducible refine (slices_ContainsFunc_int_int_ancepslaw42_ConflictShrinks_1.calls k _ _ t791 gb785 Ao24 co24 t781 t795 _ ?side1 ?side2 ?side3 ?side4 ?side5 A36.out).mono ?_);(case side1=>exact zC (Kd.N_reads' HO793.out).2.2);(case side2=>exact (Kd.N_reads' HO793.out).2.1);(case side3=>exact zC (Kd.R_reads' HO784.out).2.2);(case side4=>exact (Kd.R_reads' HO784.out).2.1);(case side5=>refine zj ?_;exact BK785.out);rintro e w39 ⟨rfl,hb⟩;replace HO777:=zA (Kd.N_below (zN HO777) hb);replace HO780:=zA (Kd.R_below (zR HO780) hb);replace HO784:=zA (Kd.R_below (zR HO784) hb);replace HO789:=zA (Kd.R_below (zR HO789) hb);replace HO793:=zA (Kd.N_below (zN HO793) hb);replace BK785:=zA (zb BK785 hb);replace HB:=zA (below_step zB hb);(try clear hb);(try clear hb2);(try clear hk);(try clear hi)))
        go_ret
        exact ⟨ze,by repeat (first|(with_reducible first|exact HB.out|apply below_alloc|apply pw_below_drewN|apply below_drew1|refine below_set ?_ GE785.out)|exact HB.out)⟩
       ·rw [if_neg c35] at H
        exact absurd H (by simp)
      ·rw [if_neg c33] at H
       have c33b0:(t782 == 0)=false:=beq_eq_false_iff_ne.mpr c33
       have c33b1:(t782 != 0)=true:=bne_iff_ne.mpr c33
       (first|rw [c33b0]|(simp only [i64_w,i32_w];rw [c33b0])|skip)
       (try rw [c33b1])
       replace H:=Option.bind_eq_some_iff.mp H
       obtain ⟨t796,A400,H⟩:=H
       replace H:(some t796)=some r:=H
       have A40:=zA A400
       clear A400
       obtain rfl:=Option.some.inj H
       have hcz41_0:w26.cell? ⟨gb785,0,none⟩=some (.slice Ao24 t781.length co24):=(blk_cell BK785.out 0).trans rfl
       have hfz41_0:=blk_frozen BK785.out 0
       go_wp2_with (first|(go_at_call 19;(with_reducible refine (slices_Equal_int_int.calls k _ _ t781 _ _ t786 t796 _ ?side1 ?side2 ?side3 ?side4 A40.out).mono ?_);(case side1=>exact zC (Kd.R_reads' HO784.out).2.2);(case side2=>exact (Kd.R_reads' HO784.out).2.1);(case side3=>exact zC (Kd.R_reads' HO789.out).2.2);(case side4=>exact (Kd.R_reads' HO789.out).2.1);rintro e w' ⟨rfl,⟨nd,rfl⟩⟩))
       go_ret
       exact ⟨ze,by repeat (first|(with_reducible first|exact HB.out|apply below_alloc|apply pw_below_drewN|apply below_drew1|refine below_set ?_ GE785.out)|exact HB.out)⟩
     ·replace c29:=Bool.eq_false_iff.mpr c29
      subst c29
      have H1:((slices_Equal_int_int.f k t781 t786).bind fun t797=>(some t797))=some r:=by rw [if_neg (show ¬ (false=true) by decide)] at H;exact H
      clear H
      have H:=H1
      clear H1
      replace H:=Option.bind_eq_some_iff.mp H
      obtain ⟨t797,A420,H⟩:=H
      replace H:(some t797)=some r:=H
      have A42:=zA A420
      clear A420
      obtain rfl:=Option.some.inj H
      obtain rfl : t797 = false := Option.some.inj (A42.out.symm.trans A28.out)
      have hcz43_0:w26.cell? ⟨gb785,0,none⟩=some (.slice Ao24 t781.length co24):=(blk_cell BK785.out 0).trans rfl
      have hfz43_0:=blk_frozen BK785.out 0
      obtain ⟨Ao44,co44,eo44⟩:=Kd.R_slice HO789.out
      subst eo44
      go_wp2_with (first|(go_at_call 19;(with_reducible refine (slices_Equal_int_int.calls k _ _ t781 _ _ t786 false _ ?side1 ?side2 ?side3 ?side4 A28.out).mono ?_);(case side1=>exact zC (Kd.R_reads' HO784.out).2.2);(case side2=>exact (Kd.R_reads' HO784.out).2.1);(case side3=>exact zC (Kd.R_reads' HO789.out).2.2);(case side4=>exact (Kd.R_reads' HO789.out).2.1);rintro e w' ⟨rfl,⟨nd,rfl⟩⟩)|(go_at_call 19;(with_reducible refine (slices_Equal_int_int.calls k _ _ t781 _ _ t786 t797 _ ?side1 ?side2 ?side3 ?side4 A42.out).mono ?_);(case side1=>exact zC (Kd.R_reads' HO784.out).2.2);(case side2=>exact (Kd.R_reads' HO784.out).2.1);(case side3=>exact zC (Kd.R_reads' HO789.out).2.2);(case side4=>exact (Kd.R_reads' HO789.out).2.1);rintro e w' ⟨rfl,⟨nd,rfl⟩⟩))
      go_ret
      exact ⟨ze,by repeat (first|(with_reducible first|exact HB.out|apply below_alloc|apply pw_below_drewN|apply below_drew1|refine below_set ?_ GE785.out)|exact HB.out)⟩
    ·rw [if_neg c27] at H
     exact absurd H (by simp)
  ·replace c6:=Bool.eq_false_iff.mpr c6
   subst c6
   have H1:((ancepslaw42_awake.f k).bind fun t798=>(some t798))=some r:=by rw [if_neg (show ¬ (false=true) by decide)] at H;exact H
   clear H
   have H:=H1
   clear H1
   replace H:=Option.bind_eq_some_iff.mp H
   obtain ⟨t798,A450,H⟩:=H
   replace H:(some t798)=some r:=H
   have A45:=zA A450
   clear A450
   obtain rfl:=Option.some.inj H
   go_enter Try.func4,Try.ntmps4
   go_wp2_with (first|((with_reducible refine gate_callee (f:=9) rfl ?_);refine goesL_ (some 11) rfl rfl Try.func9 zK rfl #[] rfl zM ?_;(with_reducible refine (ancepslaw42_awake.calls k  true _ A3.out).mono ?_);rintro e w46 ⟨rfl,hb⟩;refine ⟨_,rfl,?_⟩;replace HB:=zA (below_step zB hb);(try clear hb);(try clear hb2);(try clear hk);(try clear hi))|(go_at_call 10;(with_reducible refine (ancepsref42_Few.calls k _ _ l0 false _ ?side1 ?side2 A5.out).mono ?_);(case side1=>exact zC (Kd.C_below HR0.out HB.out));(case side2=>exact HC0.out);rintro e w47 ⟨rfl,hb⟩;replace HB:=zA (below_step zB hb);(try clear hb);(try clear hb2);(try clear hk);(try clear hi))|((with_reducible refine gate_callee (f:=9) rfl ?_);refine goesL_ (some 23) rfl rfl Try.func9 zK rfl #[] rfl zM ?_;(with_reducible refine (ancepslaw42_awake.calls k  t798 _ A45.out).mono ?_);rintro e w48 ⟨rfl,hb⟩;refine ⟨_,rfl,?_⟩;replace HB:=zA (below_step zB hb);(try clear hb);(try clear hb2);(try clear hk);(try clear hi)))
   go_ret
   exact ⟨ze,by repeat (first|(with_reducible first|exact HB.out|apply below_alloc|apply pw_below_drewN|apply below_drew1)|exact HB.out)⟩
 ·replace c4:=Bool.eq_false_iff.mpr c4
  subst c4
  have H1:((ancepslaw42_awake.f k).bind fun t799=>(some t799))=some r:=by rw [if_neg (show ¬ (false=true) by decide)] at H;exact H
  clear H
  have H:=H1
  clear H1
  replace H:=Option.bind_eq_some_iff.mp H
  obtain ⟨t799,A490,H⟩:=H
  replace H:(some t799)=some r:=H
  have A49:=zA A490
  clear A490
  obtain rfl:=Option.some.inj H
  go_enter Try.func4,Try.ntmps4
  go_wp2_with (first|((with_reducible refine gate_callee (f:=9) rfl ?_);refine goesL_ (some 11) rfl rfl Try.func9 zK rfl #[] rfl zM ?_;(with_reducible refine (ancepslaw42_awake.calls k  false _ A3.out).mono ?_);rintro e w50 ⟨rfl,hb⟩;refine ⟨_,rfl,?_⟩;replace HB:=zA (below_step zB hb);(try clear hb);(try clear hb2);(try clear hk);(try clear hi))|((with_reducible refine gate_callee (f:=9) rfl ?_);refine goesL_ (some 23) rfl rfl Try.func9 zK rfl #[] rfl zM ?_;(with_reducible refine (ancepslaw42_awake.calls k  t799 _ A49.out).mono ?_);rintro e w51 ⟨rfl,hb⟩;refine ⟨_,rfl,?_⟩;replace HB:=zA (below_step zB hb);(try clear hb);(try clear hb2);(try clear hk);(try clear hi)))
  go_ret
  exact ⟨ze,by repeat (first|(with_reducible first|exact HB.out|apply below_alloc|apply pw_below_drewN|apply below_drew1)|exact HB.out)⟩
end Go.Proofs.Ytkjghablbeaioaa.S
