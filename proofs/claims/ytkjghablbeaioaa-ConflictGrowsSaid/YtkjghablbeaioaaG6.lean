import Derived.Test.YtkjghablbeaioaaG0
import Derived.Test.YtkjghablbeaioaaG1
import Derived.Test.YtkjghablbeaioaaG4
namespace Go.Proofs.Ytkjghablbeaioaa.G
open Go.RowKit Go.Proofs.YtkjghablbeaioaaW.PrintWords Go.Proofs.YtkjghablbeaioaaW.PrintLast Go.Proofs.YtkjghablbeaioaaW.PrintMore
attribute [local go_sem] max2_int min2_int max_two min_two max_three min_three max_four min_four
set_option linter.unusedVariables false
set_option linter.unusedSimpArgs false
def ancepsref42_Ints.l0:Nat→List Int→List Int→Int→Option (Bool)
 | 0,_,_,_=>none
 | k+1,x0,x1,x5=>if x5<(x0.length:Int) then (if 0≤x5 then (if x5<(x1.length:Int) then (if (rd x0 x5)=(rd x1 x5) then (ancepsref42_Ints.l0 k x0 x1 (wrap64 (x5+1))) else (some false)) else (none)) else (none)) else (some true)
def ancepsref42_Ints.f (k:Nat) (l0:List Int) (l1:List Int):Option (Bool):=if (l0.length:Int)=(l1.length:Int) then (ancepsref42_Ints.l0 k l0 l1 0) else (some false)
theorem ancepsref42_Ints.mono_l:∀ k,(∀ y0 y1 y2,LeO (ancepsref42_Ints.l0 k y0 y1 y2) (ancepsref42_Ints.l0 (k+1) y0 y1 y2))
 | 0=>fun _ _ _ r h=>by simp [ancepsref42_Ints.l0] at h
 | k+1=>by
  have ih0:=ancepsref42_Ints.mono_l k
  ·intro y0 y1 y2
   unfold ancepsref42_Ints.l0
   repeat' first
   | (with_reducible exact ih0 _ _ _)
   | (with_reducible exact LeO.refl _)
   | (with_reducible exact LeO.none _)
   | (with_reducible refine LeO.ite ?_ ?_)
   | (with_reducible refine LeO.bind ?_ (fun _=>?_))
   | exact LeO.none _
   | refine LeO.ite ?_ ?_
   | refine LeO.bind ?_ (fun _=>?_)
theorem ancepsref42_Ints.mono:∀ a0 a1 k,LeO (ancepsref42_Ints.f k a0 a1) (ancepsref42_Ints.f (k+1) a0 a1):=by
 intro a0 a1 k
 have ih0:=ancepsref42_Ints.mono_l k
 unfold ancepsref42_Ints.f
 repeat' first
   | (with_reducible exact ih0 _ _ _)
   | (with_reducible exact LeO.refl _)
   | (with_reducible exact LeO.none _)
   | (with_reducible refine LeO.ite ?_ ?_)
   | (with_reducible refine LeO.bind ?_ (fun _=>?_))
   | exact LeO.none _
   | refine LeO.ite ?_ ?_
   | refine LeO.bind ?_ (fun _=>?_)
set_option maxHeartbeats 8000000 in
set_option maxRecDepth 100000 in
theorem ancepsref42_Ints.calls (k:Nat) (A0:Option Addr) (c0:Nat) (l0:List Int) (A1:Option Addr) (c1:Nat) (l1:List Int) (r:Bool) (w:World) (hr0:Kd.C (Kd.int .i64) w A0 l0.length l0) (hc0:l0.length≤c0) (hr1:Kd.C (Kd.int .i64) w A1 l1.length l1) (hc1:l1.length≤c1) (h:ancepsref42_Ints.f k l0 l1=some r) :
  Calls Try.prog 52 #[.slice A0 l0.length c0,.slice A1 l1.length c1] w fun e w'=>e=.returned (.bool r)∧Drawn0 w w':=by
 have hu3:=Try.underlying3
 have HR0:=zA hr0
 have HC0:=zA hc0
 clear hr0 hc0
 have HR1:=zA hr1
 have HC1:=zA hc1
 clear hr1 hc1
 have H:(if (l0.length:Int)=(l1.length:Int) then (ancepsref42_Ints.l0 k l0 l1 0) else (some false))=some r:=h
 clear h
 rcases if0 H with ⟨c3,H⟩|⟨c3,H⟩
 ·have c3b0:((l0.length:Int) == (l1.length:Int))=true:=beq_iff_eq.mpr c3
  have c3b1:((l0.length:Int) != (l1.length:Int))=false:=bne_eq_false_iff_eq.mpr c3
  have c3b2:(l0.length == l1.length)=true:=by first|simpa using c3|(simp at c3 ⊢;omega)
  clear c3
  have H':=zA H
  clear H
  go_enter Try.func52,Try.ntmps52
  go_wp2
  repeat (go_quiet (fail);try go_wp2)
  go_loopg [5] k (fun kq v5 w'=>∃ (x5_1:Int),v5=.int .i64 x5_1∧Aside0 (ancepsref42_Ints.l0 kq l0 l1 x5_1=some r)∧Aside0 (kq≤k)∧Drawn0 w w')
  case atStart=>exact ⟨(0),zT,H',⟨Nat.le_refl _⟩,by repeat (first|exact Drawn0.refl _|apply Drawn0.step)⟩
  case round=>
   clear H'
   try clear c3
   try clear c3b0
   try clear c3b1
   try clear c3b2
   obtain ⟨x5_1,rfl,HA,HK1,⟨m1,rfl⟩⟩:=hrel
   cases gk with
   | zero=>exact absurd HA.out (by simp [ancepsref42_Ints.l0])
   | succ k1=>
    have H:=HA.out
    clear HA
    simp only [ancepsref42_Ints.l0] at H
    rcases ifd H with ⟨c4b0,H⟩|⟨c4b0,H⟩
    ·obtain ⟨c5b0,H⟩:=ifd1 H
     obtain ⟨c6b0,H⟩:=ifd1 H
     rcases ife H with ⟨c7b0,c7b1,H⟩|⟨c7,c7b0,c7b1,H⟩
     ·have H':=zA H
      clear H
      obtain ⟨p365,q365,ad365,e365,hx365_0⟩:=zp (Kd.at_int HR0.out x5_1)
      cases e365
      replace p365:=eq_true p365
      replace q365:=eq_true q365
      obtain ⟨p366,q366,ad366,e366,hx366_0⟩:=zp (Kd.at_int HR1.out x5_1)
      cases e366
      replace p366:=eq_true p366
      replace q366:=eq_true q366
      go_wp2
      repeat (go_quiet (fail);try go_wp2)
      go_roundg k1
      case measure=>have:=HK1.out;omega
      case rel=>exact ⟨(wrap64 (x5_1+1)),zT,H',⟨by have:=HK1.out;omega⟩,by repeat (first|exact Drawn0.refl _|apply Drawn0.step)⟩
     ·obtain rfl:=Option.some.inj H
      obtain ⟨p365,q365,ad365,e365,hx365_0⟩:=zp (Kd.at_int HR0.out x5_1)
      cases e365
      replace p365:=eq_true p365
      replace q365:=eq_true q365
      obtain ⟨p366,q366,ad366,e366,hx366_0⟩:=zp (Kd.at_int HR1.out x5_1)
      cases e366
      replace p366:=eq_true p366
      replace q366:=eq_true q366
      go_wp2
      repeat (go_quiet (fail);try go_wp2)
      go_ret
      exact ⟨by first|rfl|(simp;done)|(simp [*];done),by repeat (first|exact Drawn0.refl _|apply Drawn0.step)⟩
    ·obtain rfl:=Option.some.inj H
     go_wp2
     repeat (go_quiet (fail);try go_wp2)
     go_ret
     exact ⟨by first|rfl|(simp;done)|(simp [*];done),by repeat (first|exact Drawn0.refl _|apply Drawn0.step)⟩
 ·have c3b0:((l0.length:Int) == (l1.length:Int))=false:=beq_eq_false_iff_ne.mpr c3
  have c3b1:((l0.length:Int) != (l1.length:Int))=true:=bne_iff_ne.mpr c3
  have c3b2:(l0.length == l1.length)=false:=by first|simpa using c3|(simp at c3 ⊢;omega)
  obtain rfl:=Option.some.inj H
  go_enter Try.func52,Try.ntmps52
  go_wp2
  repeat (go_quiet (fail);try go_wp2)
  go_ret
  exact ⟨by first|rfl|(simp;done)|(simp [*];done),by repeat (first|exact Drawn0.refl _|apply Drawn0.step)⟩
def ancepsref42_Lists.l0:Nat→List (List Int)→List (List Int)→Int→Option (Bool)
 | 0,_,_,_=>none
 | k+1,x0,x1,x5=>if x5<(x0.length:Int) then (if 0≤x5 then (if x5<(x1.length:Int) then ((ancepsref42_Ints.f k (rd_L1 x0 x5) (rd_L1 x1 x5)).bind fun t369=>(if t369=true then (ancepsref42_Lists.l0 k x0 x1 (wrap64 (x5+1))) else (some false))) else (none)) else (none)) else (some true)
def ancepsref42_Lists.f (k:Nat) (l0:List (List Int)) (l1:List (List Int)):Option (Bool):=if (l0.length:Int)=(l1.length:Int) then (ancepsref42_Lists.l0 k l0 l1 0) else (some false)
theorem ancepsref42_Lists.mono_l:∀ k,(∀ y0 y1 y2,LeO (ancepsref42_Lists.l0 k y0 y1 y2) (ancepsref42_Lists.l0 (k+1) y0 y1 y2))
 | 0=>fun _ _ _ r h=>by simp [ancepsref42_Lists.l0] at h
 | k+1=>by
  have ih0:=ancepsref42_Lists.mono_l k
  ·intro y0 y1 y2
   unfold ancepsref42_Lists.l0
   repeat' first
   | (with_reducible exact ih0 _ _ _)
   | (with_reducible exact ancepsref42_Ints.mono _ _ _)
   | (with_reducible exact LeO.refl _)
   | (with_reducible exact LeO.none _)
   | (with_reducible refine LeO.ite ?_ ?_)
   | (with_reducible refine LeO.bind ?_ (fun _=>?_))
   | exact LeO.none _
   | refine LeO.ite ?_ ?_
   | refine LeO.bind ?_ (fun _=>?_)
theorem ancepsref42_Lists.mono:∀ a0 a1 k,LeO (ancepsref42_Lists.f k a0 a1) (ancepsref42_Lists.f (k+1) a0 a1):=by
 intro a0 a1 k
 have ih0:=ancepsref42_Lists.mono_l k
 unfold ancepsref42_Lists.f
 repeat' first
   | (with_reducible exact ih0 _ _ _)
   | (with_reducible exact ancepsref42_Ints.mono _ _ _)
   | (with_reducible exact LeO.refl _)
   | (with_reducible exact LeO.none _)
   | (with_reducible refine LeO.ite ?_ ?_)
   | (with_reducible refine LeO.bind ?_ (fun _=>?_))
   | exact LeO.none _
   | refine LeO.ite ?_ ?_
   | refine LeO.bind ?_ (fun _=>?_)
set_option maxHeartbeats 8000000 in
set_option maxRecDepth 100000 in
theorem ancepsref42_Lists.calls (k:Nat) (A0:Option Addr) (c0:Nat) (l0:List (List Int)) (A1:Option Addr) (c1:Nat) (l1:List (List Int)) (r:Bool) (w:World) (hr0:Kd.C (Kd.slice 3 (Kd.int .i64)) w A0 l0.length l0) (hc0:l0.length≤c0) (hr1:Kd.C (Kd.slice 3 (Kd.int .i64)) w A1 l1.length l1) (hc1:l1.length≤c1) (h:ancepsref42_Lists.f k l0 l1=some r) :
  Calls Try.prog 18 #[.slice A0 l0.length c0,.slice A1 l1.length c1] w fun e w'=>e=.returned (.bool r)∧Drawn0 w w':=by
 have hu30:=Try.underlying30
 have HR0:=zA hr0
 have HC0:=zA hc0
 clear hr0 hc0
 have HR1:=zA hr1
 have HC1:=zA hc1
 clear hr1 hc1
 have H:(if (l0.length:Int)=(l1.length:Int) then (ancepsref42_Lists.l0 k l0 l1 0) else (some false))=some r:=h
 clear h
 rcases if0 H with ⟨c3,H⟩|⟨c3,H⟩
 ·have c3b0:((l0.length:Int) == (l1.length:Int))=true:=beq_iff_eq.mpr c3
  have c3b1:((l0.length:Int) != (l1.length:Int))=false:=bne_eq_false_iff_eq.mpr c3
  have c3b2:(l0.length == l1.length)=true:=by first|simpa using c3|(simp at c3 ⊢;omega)
  clear c3
  have H':=zA H
  clear H
  go_enter Try.func18,Try.ntmps18
  go_wp2
  repeat (go_quiet (fail);try go_wp2)
  go_loopg [5] k (fun kq v5 w'=>∃ (x5_1:Int),v5=.int .i64 x5_1∧Aside0 (ancepsref42_Lists.l0 kq l0 l1 x5_1=some r)∧Aside0 (kq≤k)∧Drawn0 w w')
  case atStart=>exact ⟨(0),zT,H',⟨Nat.le_refl _⟩,by repeat (first|exact Drawn0.refl _|apply Drawn0.step)⟩
  case round=>
   clear H'
   try clear c3
   try clear c3b0
   try clear c3b1
   try clear c3b2
   obtain ⟨x5_1,rfl,HA,HK1,⟨m1,rfl⟩⟩:=hrel
   cases gk with
   | zero=>exact absurd HA.out (by simp [ancepsref42_Lists.l0])
   | succ k1=>
    have H:=HA.out
    clear HA
    simp only [ancepsref42_Lists.l0] at H
    rcases ifd H with ⟨c4b0,H⟩|⟨c4b0,H⟩
    ·obtain ⟨c5b0,H⟩:=ifd1 H
     obtain ⟨c6b0,H⟩:=ifd1 H
     obtain ⟨t369,A7,H⟩:=zo H
     have HC8:=zA H
     clear H
     obtain ⟨p367,q367,ad367,A367_0,c367_0,e367,hx367_0,hl367_0,hi367_0⟩:=zp (at_L1 HR0.out x5_1)
     cases e367
     have HR367_0:=zA hi367_0
     have HC367_0:=zA hl367_0
     clear hi367_0 hl367_0
     replace p367:=eq_true p367
     replace q367:=eq_true q367
     obtain ⟨p368,q368,ad368,A368_0,c368_0,e368,hx368_0,hl368_0,hi368_0⟩:=zp (at_L1 HR1.out x5_1)
     cases e368
     have HR368_0:=zA hi368_0
     have HC368_0:=zA hl368_0
     clear hi368_0 hl368_0
     replace p368:=eq_true p368
     replace q368:=eq_true q368
     go_upto_if 26 with (first|(go_at_call 52;(with_reducible refine (ancepsref42_Ints.calls k1 _ _ (rd_L1 l0 x5_1) _ _ (rd_L1 l1 x5_1) t369 _ ?side1 HC367_0.out ?side3 HC368_0.out A7.out).mono ?_);(case side1=>repeat (first|exact HR367_0.out|(with_reducible refine Kd.C_alloc ?_ _)|(with_reducible refine Kd.C_drewN ?_ _)|(with_reducible refine Kd.C_drew ?_)));(case side3=>repeat (first|exact HR368_0.out|(with_reducible refine Kd.C_alloc ?_ _)|(with_reducible refine Kd.C_drewN ?_ _)|(with_reducible refine Kd.C_drew ?_)));rintro e w' ⟨rfl,⟨nd,rfl⟩⟩;(try first|exact ⟨rfl,_,World.drewN_drewN _ _ _⟩|exact ⟨rfl,_,Eq.trans (World.drewN_drewN _ _ _) (congrArg (World.drewN _) (Nat.add_assoc _ _ _))⟩)))
     repeat (go_quiet (first|(go_at_call 52;(with_reducible refine (ancepsref42_Ints.calls k1 _ _ (rd_L1 l0 x5_1) _ _ (rd_L1 l1 x5_1) t369 _ ?side1 HC367_0.out ?side3 HC368_0.out A7.out).mono ?_);(case side1=>repeat (first|exact HR367_0.out|(with_reducible refine Kd.C_alloc ?_ _)|(with_reducible refine Kd.C_drewN ?_ _)|(with_reducible refine Kd.C_drew ?_)));(case side3=>repeat (first|exact HR368_0.out|(with_reducible refine Kd.C_alloc ?_ _)|(with_reducible refine Kd.C_drewN ?_ _)|(with_reducible refine Kd.C_drew ?_)));rintro e w' ⟨rfl,⟨nd,rfl⟩⟩;(try first|exact ⟨rfl,_,World.drewN_drewN _ _ _⟩|exact ⟨rfl,_,Eq.trans (World.drewN_drewN _ _ _) (congrArg (World.drewN _) (Nat.add_assoc _ _ _))⟩)));go_upto_if 26 with (first|(go_at_call 52;(with_reducible refine (ancepsref42_Ints.calls k1 _ _ (rd_L1 l0 x5_1) _ _ (rd_L1 l1 x5_1) t369 _ ?side1 HC367_0.out ?side3 HC368_0.out A7.out).mono ?_);(case side1=>repeat (first|exact HR367_0.out|(with_reducible refine Kd.C_alloc ?_ _)|(with_reducible refine Kd.C_drewN ?_ _)|(with_reducible refine Kd.C_drew ?_)));(case side3=>repeat (first|exact HR368_0.out|(with_reducible refine Kd.C_alloc ?_ _)|(with_reducible refine Kd.C_drewN ?_ _)|(with_reducible refine Kd.C_drew ?_)));rintro e w' ⟨rfl,⟨nd,rfl⟩⟩;(try first|exact ⟨rfl,_,World.drewN_drewN _ _ _⟩|exact ⟨rfl,_,Eq.trans (World.drewN_drewN _ _ _) (congrArg (World.drewN _) (Nat.add_assoc _ _ _))⟩))))
     (try simp only [Act.put,zi,zs,zt])
     have H:=HC8.out
     clear HC8
     by_cases c9:t369=true
     ·subst c9
      have H1:(ancepsref42_Lists.l0 k1 l0 l1 (wrap64 (x5_1+1)))=some r:=by rw [if_pos rfl] at H;exact H
      clear H
      have H:=H1
      clear H1
      have H':=zA H
      clear H
      go_wp2
      repeat (go_quiet (fail);try go_wp2)
      go_roundg k1
      case measure=>have:=HK1.out;omega
      case rel=>exact ⟨(wrap64 (x5_1+1)),zT,H',⟨by have:=HK1.out;omega⟩,by repeat (first|exact Drawn0.refl _|apply Drawn0.step)⟩
     ·replace c9:=Bool.eq_false_iff.mpr c9
      subst c9
      have H1:(some false)=some r:=by rw [if_neg (show ¬ (false=true) by decide)] at H;exact H
      clear H
      have H:=H1
      clear H1
      obtain rfl:=Option.some.inj H
      go_wp2
      repeat (go_quiet (fail);try go_wp2)
      go_ret
      exact ⟨by first|rfl|(simp;done)|(simp [*];done),by repeat (first|exact Drawn0.refl _|apply Drawn0.step)⟩
    ·obtain rfl:=Option.some.inj H
     go_wp2
     repeat (go_quiet (fail);try go_wp2)
     go_ret
     exact ⟨by first|rfl|(simp;done)|(simp [*];done),by repeat (first|exact Drawn0.refl _|apply Drawn0.step)⟩
 ·have c3b0:((l0.length:Int) == (l1.length:Int))=false:=beq_eq_false_iff_ne.mpr c3
  have c3b1:((l0.length:Int) != (l1.length:Int))=true:=bne_iff_ne.mpr c3
  have c3b2:(l0.length == l1.length)=false:=by first|simpa using c3|(simp at c3 ⊢;omega)
  obtain rfl:=Option.some.inj H
  go_enter Try.func18,Try.ntmps18
  go_wp2
  repeat (go_quiet (fail);try go_wp2)
  go_ret
  exact ⟨by first|rfl|(simp;done)|(simp [*];done),by repeat (first|exact Drawn0.refl _|apply Drawn0.step)⟩
def slices_Equal_int_int.l0:Nat→List Int→List Int→Int→Int→Option (Bool)
 | 0,_,_,_,_=>none
 | k+1,x0,x1,x12,x13=>if x13<x12 then (if 0≤x13 then (if x13<(x0.length:Int) then (if x13<(x1.length:Int) then (if (rd x0 x13)=(rd x1 x13) then (slices_Equal_int_int.l0 k x0 x1 x12 (wrap64 (x13+1))) else (some false)) else (none)) else (none)) else (none)) else (some true)
def slices_Equal_int_int.f (k:Nat) (l0:List Int) (l1:List Int):Option (Bool):=if (l0.length:Int)=(l1.length:Int) then (slices_Equal_int_int.l0 k l0 l1 (l0.length:Int) 0) else (some false)
theorem slices_Equal_int_int.mono_l:∀ k,(∀ y0 y1 y2 y3,LeO (slices_Equal_int_int.l0 k y0 y1 y2 y3) (slices_Equal_int_int.l0 (k+1) y0 y1 y2 y3))
 | 0=>fun _ _ _ _ r h=>by simp [slices_Equal_int_int.l0] at h
 | k+1=>by
  have ih0:=slices_Equal_int_int.mono_l k
  ·intro y0 y1 y2 y3
   unfold slices_Equal_int_int.l0
   repeat' first
   | (with_reducible exact ih0 _ _ _ _)
   | (with_reducible exact LeO.refl _)
   | (with_reducible exact LeO.none _)
   | (with_reducible refine LeO.ite ?_ ?_)
   | (with_reducible refine LeO.bind ?_ (fun _=>?_))
   | exact LeO.none _
   | refine LeO.ite ?_ ?_
   | refine LeO.bind ?_ (fun _=>?_)
theorem slices_Equal_int_int.mono:∀ a0 a1 k,LeO (slices_Equal_int_int.f k a0 a1) (slices_Equal_int_int.f (k+1) a0 a1):=by
 intro a0 a1 k
 have ih0:=slices_Equal_int_int.mono_l k
 unfold slices_Equal_int_int.f
 repeat' first
   | (with_reducible exact ih0 _ _ _ _)
   | (with_reducible exact LeO.refl _)
   | (with_reducible exact LeO.none _)
   | (with_reducible refine LeO.ite ?_ ?_)
   | (with_reducible refine LeO.bind ?_ (fun _=>?_))
   | exact LeO.none _
   | refine LeO.ite ?_ ?_
   | refine LeO.bind ?_ (fun _=>?_)
set_option maxHeartbeats 8000000 in
set_option maxRecDepth 100000 in
theorem slices_Equal_int_int.calls (k:Nat) (A0:Option Addr) (c0:Nat) (l0:List Int) (A1:Option Addr) (c1:Nat) (l1:List Int) (r:Bool) (w:World) (hr0:Kd.C (Kd.int .i64) w A0 l0.length l0) (hc0:l0.length≤c0) (hr1:Kd.C (Kd.int .i64) w A1 l1.length l1) (hc1:l1.length≤c1) (h:slices_Equal_int_int.f k l0 l1=some r) :
  Calls Try.prog 19 #[.slice A0 l0.length c0,.slice A1 l1.length c1] w fun e w'=>e=.returned (.bool r)∧Drawn0 w w':=by
 have hu3:=Try.underlying3
 have HR0:=zA hr0
 have HC0:=zA hc0
 clear hr0 hc0
 have HR1:=zA hr1
 have HC1:=zA hc1
 clear hr1 hc1
 have H:(if (l0.length:Int)=(l1.length:Int) then (slices_Equal_int_int.l0 k l0 l1 (l0.length:Int) 0) else (some false))=some r:=h
 clear h
 rcases if0 H with ⟨c3,H⟩|⟨c3,H⟩
 ·have c3b0:((l0.length:Int) == (l1.length:Int))=true:=beq_iff_eq.mpr c3
  have c3b1:((l0.length:Int) != (l1.length:Int))=false:=bne_eq_false_iff_eq.mpr c3
  have c3b2:(l0.length == l1.length)=true:=by first|simpa using c3|(simp at c3 ⊢;omega)
  clear c3
  have H':=zA H
  clear H
  go_enter Try.func19,Try.ntmps19
  go_wp2
  repeat (go_quiet (fail);try go_wp2)
  go_loopg [13] k (fun kq v13 w'=>∃ (x13_1:Int),v13=.int .i64 x13_1∧Aside0 (slices_Equal_int_int.l0 kq l0 l1 (l0.length:Int) x13_1=some r)∧Aside0 (kq≤k)∧Drawn0 w w')
  case atStart=>exact ⟨(0),zT,H',⟨Nat.le_refl _⟩,by repeat (first|exact Drawn0.refl _|apply Drawn0.step)⟩
  case round=>
   clear H'
   try clear c3
   try clear c3b0
   try clear c3b1
   try clear c3b2
   obtain ⟨x13_1,rfl,HA,HK1,⟨m1,rfl⟩⟩:=hrel
   cases gk with
   | zero=>exact absurd HA.out (by simp [slices_Equal_int_int.l0])
   | succ k1=>
    have H:=HA.out
    clear HA
    simp only [slices_Equal_int_int.l0] at H
    rcases ifd H with ⟨c4b0,H⟩|⟨c4b0,H⟩
    ·obtain ⟨c5b0,H⟩:=ifd1 H
     obtain ⟨c6b0,H⟩:=ifd1 H
     obtain ⟨c7b0,H⟩:=ifd1 H
     rcases ife H with ⟨c8b0,c8b1,H⟩|⟨c8,c8b0,c8b1,H⟩
     ·have H':=zA H
      clear H
      obtain ⟨p370,q370,ad370,e370,hx370_0⟩:=zp (Kd.at_int HR0.out x13_1)
      cases e370
      replace p370:=eq_true p370
      replace q370:=eq_true q370
      obtain ⟨p371,q371,ad371,e371,hx371_0⟩:=zp (Kd.at_int HR1.out x13_1)
      cases e371
      replace p371:=eq_true p371
      replace q371:=eq_true q371
      go_wp2
      repeat (go_quiet (fail);try go_wp2)
      go_roundg k1
      case measure=>have:=HK1.out;omega
      case rel=>exact ⟨(wrap64 (x13_1+1)),zT,H',⟨by have:=HK1.out;omega⟩,by repeat (first|exact Drawn0.refl _|apply Drawn0.step)⟩
     ·obtain rfl:=Option.some.inj H
      obtain ⟨p370,q370,ad370,e370,hx370_0⟩:=zp (Kd.at_int HR0.out x13_1)
      cases e370
      replace p370:=eq_true p370
      replace q370:=eq_true q370
      obtain ⟨p371,q371,ad371,e371,hx371_0⟩:=zp (Kd.at_int HR1.out x13_1)
      cases e371
      replace p371:=eq_true p371
      replace q371:=eq_true q371
      go_wp2
      repeat (go_quiet (fail);try go_wp2)
      go_ret
      exact ⟨by first|rfl|(simp;done)|(simp [*];done),by repeat (first|exact Drawn0.refl _|apply Drawn0.step)⟩
    ·obtain rfl:=Option.some.inj H
     go_wp2
     repeat (go_quiet (fail);try go_wp2)
     go_ret
     exact ⟨by first|rfl|(simp;done)|(simp [*];done),by repeat (first|exact Drawn0.refl _|apply Drawn0.step)⟩
 ·have c3b0:((l0.length:Int) == (l1.length:Int))=false:=beq_eq_false_iff_ne.mpr c3
  have c3b1:((l0.length:Int) != (l1.length:Int))=true:=bne_iff_ne.mpr c3
  have c3b2:(l0.length == l1.length)=false:=by first|simpa using c3|(simp at c3 ⊢;omega)
  obtain rfl:=Option.some.inj H
  go_enter Try.func19,Try.ntmps19
  go_wp2
  repeat (go_quiet (fail);try go_wp2)
  go_ret
  exact ⟨by first|rfl|(simp;done)|(simp [*];done),by repeat (first|exact Drawn0.refl _|apply Drawn0.step)⟩
def conflict_ascending.l0:Nat→List Int→Int→List Int→Int→Int→Option (Bool)
 | 0,_,_,_,_,_=>none
 | k+1,x0,x1,x7,x8,x9=>if x9<x8 then (if 0≤x9 then (if x9<(x7.length:Int) then (if (rd x7 x9)<0 then (some false) else (if (rd x7 x9)≥x1 then (some false) else (if x9>0 then (if 0≤(wrap64 (x9 - 1)) then (if (wrap64 (x9 - 1))<(x0.length:Int) then (if (rd x0 (wrap64 (x9 - 1)))≥(rd x7 x9) then (some false) else (conflict_ascending.l0 k x0 x1 x7 x8 (wrap64 (x9+1)))) else (none)) else (none)) else (conflict_ascending.l0 k x0 x1 x7 x8 (wrap64 (x9+1)))))) else (none)) else (none)) else (some true)
def conflict_ascending.f (k:Nat) (l0:List Int) (a1:Int):Option (Bool):=conflict_ascending.l0 k l0 a1 l0 (l0.length:Int) 0
theorem conflict_ascending.mono_l:∀ k,(∀ y0 y1 y2 y3 y4,LeO (conflict_ascending.l0 k y0 y1 y2 y3 y4) (conflict_ascending.l0 (k+1) y0 y1 y2 y3 y4))
 | 0=>fun _ _ _ _ _ r h=>by simp [conflict_ascending.l0] at h
 | k+1=>by
  have ih0:=conflict_ascending.mono_l k
  ·intro y0 y1 y2 y3 y4
   unfold conflict_ascending.l0
   repeat' first
   | (with_reducible exact ih0 _ _ _ _ _)
   | (with_reducible exact LeO.refl _)
   | (with_reducible exact LeO.none _)
   | (with_reducible refine LeO.ite ?_ ?_)
   | (with_reducible refine LeO.bind ?_ (fun _=>?_))
   | exact LeO.none _
   | refine LeO.ite ?_ ?_
   | refine LeO.bind ?_ (fun _=>?_)
theorem conflict_ascending.mono:∀ a0 a1 k,LeO (conflict_ascending.f k a0 a1) (conflict_ascending.f (k+1) a0 a1):=by
 intro a0 a1 k
 have ih0:=conflict_ascending.mono_l k
 unfold conflict_ascending.f
 repeat' first
   | (with_reducible exact ih0 _ _ _ _ _)
   | (with_reducible exact LeO.refl _)
   | (with_reducible exact LeO.none _)
   | (with_reducible refine LeO.ite ?_ ?_)
   | (with_reducible refine LeO.bind ?_ (fun _=>?_))
   | exact LeO.none _
   | refine LeO.ite ?_ ?_
   | refine LeO.bind ?_ (fun _=>?_)
set_option maxHeartbeats 8000000 in
set_option maxRecDepth 100000 in
theorem conflict_ascending.calls (k:Nat) (A0:Option Addr) (c0:Nat) (l0:List Int) (a1:Int) (r:Bool) (w:World) (hr0:Kd.C (Kd.int .i64) w A0 l0.length l0) (hc0:l0.length≤c0) (h:conflict_ascending.f k l0 a1=some r) :
  Calls Try.prog 53 #[.slice A0 l0.length c0,.int .i64 a1] w fun e w'=>e=.returned (.bool r)∧Drawn0 w w':=by
 have hu3:=Try.underlying3
 have HR0:=zA hr0
 have HC0:=zA hc0
 clear hr0 hc0
 have H:(conflict_ascending.l0 k l0 a1 l0 (l0.length:Int) 0)=some r:=h
 clear h
 have H':=zA H
 clear H
 go_enter Try.func53,Try.ntmps53
 go_wp2
 go_loopg [9] k (fun kq v9 w'=>∃ (x9_1:Int),v9=.int .i64 x9_1∧Aside0 (conflict_ascending.l0 kq l0 a1 l0 (l0.length:Int) x9_1=some r)∧Aside0 (kq≤k)∧Drawn0 w w')
 case atStart=>exact ⟨(0),zT,H',⟨Nat.le_refl _⟩,by repeat (first|exact Drawn0.refl _|apply Drawn0.step)⟩
 case round=>
  clear H'
  obtain ⟨x9_1,rfl,HA,HK1,⟨m1,rfl⟩⟩:=hrel
  cases gk with
  | zero=>exact absurd HA.out (by simp [conflict_ascending.l0])
  | succ k1=>
   have H:=HA.out
   clear HA
   simp only [conflict_ascending.l0] at H
   rcases ifd H with ⟨c3b0,H⟩|⟨c3b0,H⟩
   ·obtain ⟨c4b0,H⟩:=ifd1 H
    obtain ⟨c5b0,H⟩:=ifd1 H
    rcases ifd H with ⟨c6b0,H⟩|⟨c6b0,H⟩
    ·obtain rfl:=Option.some.inj H
     obtain ⟨p372,q372,ad372,e372,hx372_0⟩:=zp (Kd.at_int HR0.out x9_1)
     cases e372
     replace p372:=eq_true p372
     replace q372:=eq_true q372
     go_wp2
     go_ret
     exact ⟨by first|rfl|(simp;done)|(simp [*];done),by repeat (first|exact Drawn0.refl _|apply Drawn0.step)⟩
    ·rcases if0 H with ⟨c7,H⟩|⟨c7,H⟩
     ·have c7b0:decide (a1≤(rd l0 x9_1))=true:=decide_eq_true c7
      clear c7
      obtain rfl:=Option.some.inj H
      obtain ⟨p372,q372,ad372,e372,hx372_0⟩:=zp (Kd.at_int HR0.out x9_1)
      cases e372
      replace p372:=eq_true p372
      replace q372:=eq_true q372
      go_wp2
      go_ret
      exact ⟨by first|rfl|(simp;done)|(simp [*];done),by repeat (first|exact Drawn0.refl _|apply Drawn0.step)⟩
     ·have c7b0:decide (a1≤(rd l0 x9_1))=false:=decide_eq_false c7
      clear c7
      rcases if0 H with ⟨c8,H⟩|⟨c8,H⟩
      ·have c8b0:decide (0<x9_1)=true:=decide_eq_true c8
       clear c8
       obtain ⟨ji9,hji9⟩:=zZ (wrap64 (x9_1 - 1))
       first|rw [hji9] at H|simp only [hji9] at H
       have hji9w:(IntKind.i64.wrap (x9_1 - 1))=ji9:=(i64_w _).trans hji9
       obtain ⟨c10b0,H⟩:=ifd1 H
       obtain ⟨c11b0,H⟩:=ifd1 H
       rcases if0 H with ⟨c12,H⟩|⟨c12,H⟩
       ·have c12b0:decide ((rd l0 x9_1)≤(rd l0 (ji9)))=true:=decide_eq_true c12
        clear c12
        obtain rfl:=Option.some.inj H
        obtain ⟨p372,q372,ad372,e372,hx372_0⟩:=zp (Kd.at_int HR0.out x9_1)
        cases e372
        replace p372:=eq_true p372
        replace q372:=eq_true q372
        obtain ⟨p373,q373,ad373,e373,hx373_0⟩:=zp (Kd.at_int HR0.out (ji9))
        obtain rfl:ad372=ad373:=(by injection e373)
        replace p373:=eq_true p373
        replace q373:=eq_true q373
        go_wp2
        go_ret
        exact ⟨by first|rfl|(simp;done)|(simp only [← hji9] <;> (first|rfl|simp))|(simp [*];done),by repeat (first|exact Drawn0.refl _|apply Drawn0.step)⟩
       ·have c12b0:decide ((rd l0 x9_1)≤(rd l0 (ji9)))=false:=decide_eq_false c12
        clear c12
        have H':=zA H
        clear H
        obtain ⟨p372,q372,ad372,e372,hx372_0⟩:=zp (Kd.at_int HR0.out x9_1)
        cases e372
        replace p372:=eq_true p372
        replace q372:=eq_true q372
        obtain ⟨p373,q373,ad373,e373,hx373_0⟩:=zp (Kd.at_int HR0.out (ji9))
        obtain rfl:ad372=ad373:=(by injection e373)
        replace p373:=eq_true p373
        replace q373:=eq_true q373
        go_wp2
        go_roundg k1
        case measure=>have:=HK1.out;omega
        case rel=>exact ⟨(wrap64 (x9_1+1)),zT,H',⟨by have:=HK1.out;omega⟩,by repeat (first|exact Drawn0.refl _|apply Drawn0.step)⟩
      ·have c8b0:decide (0<x9_1)=false:=decide_eq_false c8
       clear c8
       have H':=zA H
       clear H
       obtain ⟨p372,q372,ad372,e372,hx372_0⟩:=zp (Kd.at_int HR0.out x9_1)
       cases e372
       replace p372:=eq_true p372
       replace q372:=eq_true q372
       go_wp2
       go_roundg k1
       case measure=>have:=HK1.out;omega
       case rel=>exact ⟨(wrap64 (x9_1+1)),zT,H',⟨by have:=HK1.out;omega⟩,by repeat (first|exact Drawn0.refl _|apply Drawn0.step)⟩
   ·obtain rfl:=Option.some.inj H
    go_wp2
    go_ret
    exact ⟨by first|rfl|(simp;done)|(simp [*];done),by repeat (first|exact Drawn0.refl _|apply Drawn0.step)⟩
section
open Go.Sort Go.Shelf
def slices_Delete_int_int.f (l0:List Int) (a1:Int) (a2:Int):Option (List Int):=if 0≤a1 then (if a1<a2 then (if a2≤(l0.length:Int) then some (l0.take a1.toNat++l0.drop a2.toNat) else none) else none) else none
theorem slices_Delete_int_int.calls (P0_:Nat→Prop) (u9000_:Value) (l0:List Int) (a1:Int) (a2:Int) (r:List Int) (w0 w:World) (hB:Below w0.heap.size w0 w) (ho0:Kd.R (Kd.int .i64) 3 w w0.heap.size P0_ u9000_ l0) (h:slices_Delete_int_int.f l0 a1 a2=some r) :
 Calls Try.prog 55 #[u9000_,.int .i64 a1,.int .i64 a2] w fun e w'=>∃ v0_:Value,e=.returned (v0_)∧Kd.R (Kd.int .i64) 3 w' w0.heap.size (fun k_=>(P0_ k_∨w.heap.size≤k_)) v0_ r∧Below w0.heap.size w0 w'∧Kept w w' (fun k_=>P0_ k_):=by
 unfold slices_Delete_int_int.f at h
 by_cases h0:0≤a1
 case neg=>rw [if_neg h0] at h;cases h
 rw [if_pos h0] at h
 by_cases h1:a1<a2
 case neg=>rw [if_neg h1] at h;cases h
 rw [if_pos h1] at h
 by_cases h2:a2≤(l0.length:Int)
 case neg=>rw [if_neg h2] at h;cases h
 rw [if_pos h2] at h
 obtain rfl:=Option.some.inj h
 clear h
 obtain ⟨i,rfl⟩:∃ i:Nat,a1=i:=⟨a1.toNat,by omega⟩
 obtain ⟨j,rfl⟩:∃ j:Nat,a2=j:=⟨a2.toNat,by omega⟩
 simp only [Int.toNat_natCast]
 obtain ⟨A,c,rfl⟩:=Kd.R_slice ho0
 have hone:OneCell (Value.int .i64):=fun _=>rfl
 have had:∃ g,A=some ⟨g,0,none⟩:=by
  have ho:=Kd.own_of_R (enc:=Value.int .i64) (h1:=fun _=>rfl) ho0
  rcases ho.2 with ⟨_,h3⟩|⟨g,_,_,h3,_⟩
  ·omega
  ·injection h3 with h3;exact ⟨g,h3⟩
 obtain ⟨g,rfl⟩:=had
 obtain ⟨k1,k2,k3,k4,k5,k6,k7⟩:=int_row ho0
 obtain ⟨i0,hi0,hz1⟩:=Option.map_eq_some_iff.1 (show (Try.prog.info? 3).map (fun i=>i.size)=some 1 by kernel_rfl)
 have key:=AnyE.slices_Delete laysDel (Value.int .i64) hone 0 Try.zeroValue3 i0 hi0 hz1 g 0 c i j l0.toArray w k7 (by simpa using k5) (by unfold maxLen at k6;omega) (by omega) (by simp;omega)
 rw [List.size_toArray] at key
 refine key.mono ?_
 rintro e w' ⟨rfl,q,rfl⟩
 have hlen:(l0.take i++l0.drop j).length=l0.length - (j - i):=by simp;omega
 have hr:=int_row_put (ok':=fun k_=>(P0_ k_∨w.heap.size≤k_)) (ys:=(l0.take i++l0.drop j)++List.replicate (j - i) 0) (k:=(l0.take i++l0.drop j).length) ho0 q #[] (by simp;omega) (by omega) (.inl k1)
 rw [List.take_left,grow_empty] at hr
 have hb:=put_below hB k2 q #[] ((l0.take i++l0.drop j)++List.replicate (j - i) 0).toArray
 have hk:=put_kept (ok:=fun k_=>P0_ k_) (w:=w) q #[] ((l0.take i++l0.drop j)++List.replicate (j - i) 0).toArray k1
 rw [grow_empty] at hb hk
 rw [hlen] at hr
 exact ⟨_,rfl,hr,hb,hk⟩
end
def conflict_Shrink.l0:Nat→List (S50)→List Int→List Int→Int→Int→Option (List Int×Int)
 | 0,_,_,_,_,_=>none
 | k+1,x0,x7,x27,x28,x29=>if x29<x28 then (if 0≤x29 then (if x29<(x27.length:Int) then ((slices_Index_int_int.f k x7 (rd x27 x29)).bind fun t381=>((slices_Clone_int_int_21.f x7).bind fun t382=>((slices_Delete_int_int.f t382 t381 (wrap64 (t381+1))).bind fun t385=>((conflict_solvable.f k x0 t385).bind fun t388=>(if t388=true then (conflict_Shrink.l0 k x0 x7 x27 x28 (wrap64 (x29+1))) else (conflict_Shrink.l0 k x0 t385 x27 x28 (wrap64 (x29+1)))))))) else (none)) else (none)) else (some (x7,0))
def conflict_Shrink.f (k:Nat) (l0:List (S50)) (l1:List Int):Option (List Int×Int):=(conflict_valid.f k l0).bind fun t374=>(if t374=0 then ((conflict_ascending.f k l1 (l0.length:Int)).bind fun t375=>(if t375=true then ((conflict_solvable.f k l0 l1).bind fun t376=>(if t376=true then (some (([]:List Int),11)) else ((slices_Clone_int_int_21.f l1).bind fun t377=>(conflict_Shrink.l0 k l0 t377 l1 (l1.length:Int) 0)))) else (some (([]:List Int),1)))) else (some (([]:List Int),t374)))
theorem conflict_Shrink.mono_l:∀ k,(∀ y0 y1 y2 y3 y4,LeO (conflict_Shrink.l0 k y0 y1 y2 y3 y4) (conflict_Shrink.l0 (k+1) y0 y1 y2 y3 y4))
 | 0=>fun _ _ _ _ _ r h=>by simp [conflict_Shrink.l0] at h
 | k+1=>by
  have ih0:=conflict_Shrink.mono_l k
  ·intro y0 y1 y2 y3 y4
   unfold conflict_Shrink.l0
   repeat' first
   | (with_reducible exact ih0 _ _ _ _ _)
   | (with_reducible exact conflict_ascending.mono _ _ _)
   | (with_reducible exact conflict_solvable.mono _ _ _)
   | (with_reducible exact conflict_valid.mono _ _)
   | (with_reducible exact slices_Index_int_int.mono _ _ _)
   | (with_reducible exact LeO.refl _)
   | (with_reducible exact LeO.none _)
   | (with_reducible refine LeO.ite ?_ ?_)
   | (with_reducible refine LeO.bind ?_ (fun _=>?_))
   | exact LeO.none _
   | refine LeO.ite ?_ ?_
   | refine LeO.bind ?_ (fun _=>?_)
theorem conflict_Shrink.mono:∀ a0 a1 k,LeO (conflict_Shrink.f k a0 a1) (conflict_Shrink.f (k+1) a0 a1):=by
 intro a0 a1 k
 have ih0:=conflict_Shrink.mono_l k
 unfold conflict_Shrink.f
 repeat' first
   | (with_reducible exact ih0 _ _ _ _ _)
   | (with_reducible exact conflict_ascending.mono _ _ _)
   | (with_reducible exact conflict_solvable.mono _ _ _)
   | (with_reducible exact conflict_valid.mono _ _)
   | (with_reducible exact slices_Index_int_int.mono _ _ _)
   | (with_reducible exact LeO.refl _)
   | (with_reducible exact LeO.none _)
   | (with_reducible refine LeO.ite ?_ ?_)
   | (with_reducible refine LeO.bind ?_ (fun _=>?_))
   | exact LeO.none _
   | refine LeO.ite ?_ ?_
   | refine LeO.bind ?_ (fun _=>?_)
set_option maxHeartbeats 8000000 in
set_option maxRecDepth 100000 in
theorem conflict_Shrink.calls (k:Nat) (A0:Option Addr) (c0:Nat) (l0:List (S50)) (A1:Option Addr) (c1:Nat) (l1:List Int) (r1:List Int) (r2:Int) (w:World) (hr0:Kd.C k50 w A0 l0.length l0) (hc0:l0.length≤c0) (hr1:Kd.C (Kd.int .i64) w A1 l1.length l1) (hc1:l1.length≤c1) (h:conflict_Shrink.f k l0 l1=some (r1,r2)) :
  Calls Try.prog 20 #[.slice A0 l0.length c0,.slice A1 l1.length c1] w fun e w'=>∃ v0_:Value,e=.returned (.tuple #[v0_,.int .i64 r2])∧Kd.R (Kd.int .i64) 3 w' w.heap.size (fun _=>True) v0_ r1∧Below w.heap.size w w':=by
 have hu3:=Try.underlying3
 have HR0:=zA hr0
 have HC0:=zA hc0
 clear hr0 hc0
 have HR1:=zA hr1
 have HC1:=zA hc1
 clear hr1 hc1
 have HB:=zA (Below.refl w.heap.size w)
 have H:((conflict_valid.f k l0).bind fun t374=>(if t374=0 then ((conflict_ascending.f k l1 (l0.length:Int)).bind fun t375=>(if t375=true then ((conflict_solvable.f k l0 l1).bind fun t376=>(if t376=true then (some (([]:List Int),11)) else ((slices_Clone_int_int_21.f l1).bind fun t377=>(conflict_Shrink.l0 k l0 t377 l1 (l1.length:Int) 0)))) else (some (([]:List Int),1)))) else (some (([]:List Int),t374))))=some (r1,r2):=h
 clear h
 obtain ⟨t374,A3,H⟩:=zo H
 have HC4:=zA H
 clear H
 go_enter Try.func20,Try.ntmps20
 go_upto_if 15 with (first|((with_reducible refine gate_callee (f:=40) rfl ?_);refine goesL_ (some 13) rfl rfl Try.func40 zK rfl #[.slice A0 l0.length c0] rfl zM ?_;(with_reducible refine (conflict_valid.calls k _ _ l0 t374 _ ?side1 HC0.out A3.out).mono ?_);(case side1=>repeat (first|exact HR0.out|(with_reducible refine Kd.C_alloc ?_ _)|(with_reducible refine Kd.C_drewN ?_ _)|(with_reducible refine Kd.C_drew ?_)));rintro e w5 ⟨rfl,hb⟩;refine ⟨_,rfl,?_⟩;replace HB:=zu hb;clear hb))
 (try simp only [Act.put,zi,zs,zt])
 have H:=HC4.out
 clear HC4
 rcases ife H with ⟨c6b0,c6b1,H⟩|⟨c6,c6b0,c6b1,H⟩
 ·(first|rw [c6b0]|(simp only [i64_w,i32_w];rw [c6b0])|skip)
  (try rw [c6b1])
  obtain ⟨t375,A7,H⟩:=zo H
  have HC8:=zA H
  clear H
  go_upto_if 21 with (first|((with_reducible refine gate_callee (f:=53) rfl ?_);refine goesL_ (some 20) rfl rfl Try.func53 zK rfl #[.slice A1 l1.length c1,.int .i64 (l0.length:Int)] rfl zM ?_;(with_reducible refine (conflict_ascending.calls k _ _ l1 (l0.length:Int) t375 _ (zD HR1 HB) HC1.out A7.out).mono ?_);rintro e w' ⟨rfl,⟨nd,rfl⟩⟩;refine ⟨_,rfl,?_⟩))
  (try simp only [Act.put,zi,zs,zt])
  have H:=HC8.out
  clear HC8
  by_cases c9:t375=true
  ·subst c9
   have H1:((conflict_solvable.f k l0 l1).bind fun t376=>(if t376=true then (some (([]:List Int),11)) else ((slices_Clone_int_int_21.f l1).bind fun t377=>(conflict_Shrink.l0 k l0 t377 l1 (l1.length:Int) 0))))=some (r1,r2):=by rw [if_pos rfl] at H;exact H
   clear H
   have H:=H1
   clear H1
   obtain ⟨t376,A10,H⟩:=zo H
   have HC11:=zA H
   clear H
   go_upto_if 24 with (first|((with_reducible refine gate_callee (f:=43) rfl ?_);refine goesL_ (some 24) rfl rfl Try.func43 zK rfl #[.slice A0 l0.length c0,.slice A1 l1.length c1] rfl zM ?_;(with_reducible refine (conflict_solvable.calls k _ _ l0 _ _ l1 t376 _ (zD HR0 HB) HC0.out (zD HR1 HB) HC1.out A10.out).mono ?_);rintro e w12 ⟨rfl,hb⟩;refine ⟨_,rfl,?_⟩;replace HB:=zu hb;clear hb))
   (try simp only [Act.put,zi,zs,zt])
   have H:=HC11.out
   clear HC11
   by_cases c13:t376=true
   ·subst c13
    have H1:(some (([]:List Int),11))=some (r1,r2):=by rw [if_pos rfl] at H;exact H
    clear H
    have H:=H1
    clear H1
    simp only [Option.some.injEq,Prod.mk.injEq] at H
    obtain ⟨rfl,rfl⟩:=H
    go_wp2
    go_ret2
    exact ⟨_,ze,by first|exact Kd.R_nil _ _ _ _ _|exact Kd.N_nil _ _ _ _ _|exact Kd.V_nil _ _ _ _ _|exact Kd.Q_nil _ _ _ _ _|exact Kd.S_nil _ _ _ _ _,by repeat (first|(with_reducible first|exact HB.out|apply below_alloc|apply pw_below_drewN|apply below_drew1)|exact HB.out)⟩
   ·replace c13:=Bool.eq_false_iff.mpr c13
    subst c13
    have H1:((slices_Clone_int_int_21.f l1).bind fun t377=>(conflict_Shrink.l0 k l0 t377 l1 (l1.length:Int) 0))=some (r1,r2):=by rw [if_neg (show ¬ (false=true) by decide)] at H;exact H
    clear H
    have H:=H1
    clear H1
    obtain ⟨t377,A14,H⟩:=zo H
    have H':=zA H
    clear H
    go_wp2_with (first|((with_reducible refine gate_callee (f:=21) rfl ?_);refine goesL_ (some 26) rfl rfl Try.func21 zK rfl #[.slice A1 l1.length c1] rfl zM ?_;(with_reducible refine (slices_Clone_int_int_21.calls _ _ l1 t377 _ (zD HR1 HB) HC1.out A14.out).mono ?_);rintro e w15 ⟨v378,rfl,ho0,hb⟩;refine ⟨_,rfl,?_⟩;have HO379:=zA (Kd.R_lower ho0 (below_size zB));replace HB:=zu hb;clear hb;(try clear ho0)))
    go_loopg [7,29] k (fun kq v7 v29 w'=>∃ (x7_1:List Int) (x29_1:Int),v29=.int .i64 x29_1∧Aside0 (conflict_Shrink.l0 kq l0 x7_1 l1 (l1.length:Int) x29_1=some (r1,r2))∧Aside0 (kq≤k)∧Aside0 (Kd.R (Kd.int .i64) 3 w' w.heap.size (fun _=>True) v7 x7_1)∧Aside0 (Below w.heap.size w w'))
    case atStart=>exact ⟨(t377),(0),zT,H',⟨Nat.le_refl _⟩,⟨by refine zr ?_;exact HO379.out⟩,⟨by repeat (first|(with_reducible first|exact HB.out|apply below_alloc|apply pw_below_drewN|apply below_drew1)|exact HB.out)⟩⟩
    case round=>
     clear H'
     try clear c1
     try clear c6
     try clear c6b0
     try clear c6b1
     try clear c9
     try clear c13
     obtain ⟨x7_1,x29_1,rfl,HA,HK1,HO_7,HB⟩:=hrel
     cases gk with
     | zero=>exact absurd HA.out (by simp [conflict_Shrink.l0])
     | succ k1=>
      have H:=HA.out
      clear HA
      simp only [conflict_Shrink.l0] at H
      rcases ifd H with ⟨c16b0,H⟩|⟨c16b0,H⟩
      ·(first|rw [c16b0]|(simp only [i64_w,i32_w];rw [c16b0])|skip)
       obtain ⟨c17b0,H⟩:=ifd1 H
       obtain ⟨c18b0,H⟩:=ifd1 H
       obtain ⟨t381,A19,H⟩:=zo H
       obtain ⟨t382,A20,H⟩:=zo H
       obtain ⟨t385,A21,H⟩:=zo H
       obtain ⟨t388,A22,H⟩:=zo H
       have HC23:=zA H
       clear H
       obtain ⟨p380,q380,ad380,e380,hx380_0⟩:=zp (Kd.at_int HR1.out x29_1)
       cases e380
       replace hx380_0:=zd HB hx380_0
       replace p380:=eq_true p380
       replace q380:=eq_true q380
       obtain ⟨Ao24,co24,eo24⟩:=Kd.R_slice HO_7.out
       subst eo24
       go_upto_if 45 with (first|((with_reducible refine gate_callee (f:=54) rfl ?_);refine goesL_ (some 35) rfl rfl Try.func54 zK rfl #[.slice Ao24 x7_1.length co24,.int .i64 (rd l1 x29_1)] rfl zM ?_;(with_reducible refine (slices_Index_int_int.calls k1 _ _ x7_1 (rd l1 x29_1) t381 _ ?side1 ?side2 A19.out).mono ?_);(case side1=>exact zC (Kd.R_reads' HO_7.out).2.2);(case side2=>exact (Kd.R_reads' HO_7.out).2.1);rintro e w' ⟨rfl,⟨nd,rfl⟩⟩;refine ⟨_,rfl,?_⟩)|((with_reducible refine gate_callee (f:=21) rfl ?_);refine goesL_ (some 37) rfl rfl Try.func21 zK rfl #[.slice Ao24 x7_1.length co24] rfl zM ?_;(with_reducible refine (slices_Clone_int_int_21.calls _ _ x7_1 t382 _ ?side1 ?side2 A20.out).mono ?_);(case side1=>exact zC (Kd.R_reads' HO_7.out).2.2);(case side2=>exact (Kd.R_reads' HO_7.out).2.1);rintro e w25 ⟨v383,rfl,ho0,hb⟩;refine ⟨_,rfl,?_⟩;have HO384:=zA (Kd.R_lower (Kd.R_new' ho0 (Kd.R_lt (zR HO_7))) (below_size zB));replace HO_7:=zA (Kd.R_elder' (zR HO_7) (Kd.R_base ho0) hb);replace HB:=zu hb;clear hb;(try clear ho0);obtain ⟨Ao26,co26,eo26⟩:=Kd.R_slice HO384.out;subst eo26)|((with_reducible refine gate_callee (f:=55) rfl ?_);refine goesL_ (some 41) rfl rfl Try.func55 zK rfl #[.slice Ao26 t382.length co26,.int .i64 t381,.int .i64 (wrap64 (t381+1))] rfl zM ?_;(with_reducible refine (slices_Delete_int_int.calls (fun k_=>some k_=(.slice Ao26 t382.length co26:Value).ownBlock) (.slice Ao26 t382.length co26) t382 t381 (wrap64 (t381+1)) t385 w _ ?side1 ?side2 A21.out).mono ?_);(case side1=>repeat (first|(with_reducible first|exact HB.out|apply below_alloc|apply pw_below_drewN|apply below_drew1)|exact HB.out));(case side2=>exact Kd.R_tight rfl HO384.out);rintro e w27 ⟨v386,rfl,ho0,hb,hkp⟩;refine ⟨_,rfl,?_⟩;have HO387:=zA (Kd.R_mono (ok':=fun k_=>some k_≠(.slice Ao24 x7_1.length co24:Value).ownBlock) ho0 (fun k_ hk_=>Or.elim hk_ (fun hs_=>fun e_=>(((HO_7.out).1 k_ e_.symm).2) hs_) (fun hn_=>(Kd.fresh' (Kd.R_lt (zR HO_7)) k_ hn_))));replace HO_7:=zA (Kd.R_mono (ok':=fun k_=>some k_≠(v386:Value).ownBlock) (Kd.R_keptB (HO_7.out) hkp (fun k_ hk_ hs_=>(hk_.2) hs_)) (fun k_ hk_=>fun e_=>Or.elim (ho0.1 k_ e_.symm) (fun hs_=>hk_.2.1 hs_) (fun hn_=>Nat.not_le.2 hk_.2.2 hn_)));replace HB:=zA (hb);clear HO384;(try clear hb);(try clear hkp);(try clear ho0);obtain ⟨Ao28,co28,eo28⟩:=Kd.R_slice HO387.out;subst eo28)|((with_reducible refine gate_callee (f:=43) rfl ?_);refine goesL_ (some 44) rfl rfl Try.func43 zK rfl #[.slice A0 l0.length c0,.slice Ao28 t385.length co28] rfl zM ?_;(with_reducible refine (conflict_solvable.calls k1 _ _ l0 _ _ t385 t388 _ (zD HR0 HB) HC0.out ?side3 ?side4 A22.out).mono ?_);(case side3=>exact zC (Kd.R_reads' HO387.out).2.2);(case side4=>exact (Kd.R_reads' HO387.out).2.1);rintro e w29 ⟨rfl,hb⟩;refine ⟨_,rfl,?_⟩;replace HO_7:=zA (Kd.R_below (zR HO_7) hb);replace HO387:=zA (Kd.R_below (zR HO387) hb);replace HB:=zu hb;clear hb))
       (try simp only [Act.put,zi,zs,zt])
       have H:=HC23.out
       clear HC23
       by_cases c30:t388=true
       ·subst c30
        have H1:(conflict_Shrink.l0 k1 l0 x7_1 l1 (l1.length:Int) (wrap64 (x29_1+1)))=some (r1,r2):=by rw [if_pos rfl] at H;exact H
        clear H
        have H:=H1
        clear H1
        have H':=zA H
        clear H
        go_wp2
        go_roundg k1
        case measure=>have:=HK1.out;omega
        case rel=>exact ⟨(x7_1),(wrap64 (x29_1+1)),zT,H',⟨by have:=HK1.out;omega⟩,⟨by refine zr ?_;exact Kd.R_mono HO_7.out (fun _ hk=>trivial)⟩,⟨by repeat (first|(with_reducible first|exact HB.out|apply below_alloc|apply pw_below_drewN|apply below_drew1)|exact HB.out)⟩⟩
       ·replace c30:=Bool.eq_false_iff.mpr c30
        subst c30
        have H1:(conflict_Shrink.l0 k1 l0 t385 l1 (l1.length:Int) (wrap64 (x29_1+1)))=some (r1,r2):=by rw [if_neg (show ¬ (false=true) by decide)] at H;exact H
        clear H
        have H:=H1
        clear H1
        have H':=zA H
        clear H
        go_wp2
        go_roundg k1
        case measure=>have:=HK1.out;omega
        case rel=>exact ⟨(t385),(wrap64 (x29_1+1)),zT,H',⟨by have:=HK1.out;omega⟩,⟨by refine zr ?_;exact Kd.R_mono HO387.out (fun _ hk=>trivial)⟩,⟨by repeat (first|(with_reducible first|exact HB.out|apply below_alloc|apply pw_below_drewN|apply below_drew1)|exact HB.out)⟩⟩
      ·(first|rw [c16b0]|(simp only [i64_w,i32_w];rw [c16b0])|skip)
       simp only [Option.some.injEq,Prod.mk.injEq] at H
       obtain ⟨rfl,rfl⟩:=H
       go_wp2
       go_ret2
       exact ⟨_,ze,by refine zr ?_;exact HO_7.out,by repeat (first|(with_reducible first|exact HB.out|apply below_alloc|apply pw_below_drewN|apply below_drew1)|exact HB.out)⟩
  ·replace c9:=Bool.eq_false_iff.mpr c9
   subst c9
   have H1:(some (([]:List Int),1))=some (r1,r2):=by rw [if_neg (show ¬ (false=true) by decide)] at H;exact H
   clear H
   have H:=H1
   clear H1
   simp only [Option.some.injEq,Prod.mk.injEq] at H
   obtain ⟨rfl,rfl⟩:=H
   go_wp2
   go_ret2
   exact ⟨_,ze,by first|exact Kd.R_nil _ _ _ _ _|exact Kd.N_nil _ _ _ _ _|exact Kd.V_nil _ _ _ _ _|exact Kd.Q_nil _ _ _ _ _|exact Kd.S_nil _ _ _ _ _,by repeat (first|(with_reducible first|exact HB.out|apply below_alloc|apply pw_below_drewN|apply below_drew1)|exact HB.out)⟩
 ·(first|rw [c6b0]|(simp only [i64_w,i32_w];rw [c6b0])|skip)
  (try rw [c6b1])
  simp only [Option.some.injEq,Prod.mk.injEq] at H
  obtain ⟨rfl,rfl⟩:=H
  go_wp2
  go_ret2
  exact ⟨_,ze,by first|exact Kd.R_nil _ _ _ _ _|exact Kd.N_nil _ _ _ _ _|exact Kd.V_nil _ _ _ _ _|exact Kd.Q_nil _ _ _ _ _|exact Kd.S_nil _ _ _ _ _,by repeat (first|(with_reducible first|exact HB.out|apply below_alloc|apply pw_below_drewN|apply below_drew1)|exact HB.out)⟩
def solve_split.T10:Bool×List (List Nat×List Nat):=(true,[([],[]),([],[]),([1],[1]),([2],[2]),([3],[3]),([],[]),([5],[5]),([6],[6]),([],[]),([8],[8]),([7,9],[7,9]),([10],[10]),([4,11],[4,11]),([0,0,1,2,3,4,5,6,7,8,9,10,11,12],[0]),([13,0,1,2,3,4,5,6,7,8,9,10,11,12],[13]),([14,12,12,0,1,2,3,4,5,6,7,8,9,10,11,12],[12,14])])
def solve_split.B10:List Nat:=[0,0,2,6,14,0,32,96,0,256,992,2016,4094,8191,16383,32767]
theorem solve_split.tab10:rtab .any (opsOf Try.f86 10)=solve_split.T10:=by kernel_rfl
theorem solve_split.bits10:waitsOk solve_split.T10.2 solve_split.B10=true:=by kernel_rfl
def solve_split.T11:Bool×List (List Nat×List Nat):=(true,[([],[]),([],[]),([1],[1]),([],[]),([],[]),([4],[4]),([5],[5]),([3,6],[3,6]),([],[]),([0,2,7,8,7],[0,2,7,8]),([9],[9])])
def solve_split.B11:List Nat:=[0,0,2,0,0,16,48,120,0,511,1023]
theorem solve_split.tab11:rtab .any (opsOf Try.f86 11)=solve_split.T11:=by kernel_rfl
theorem solve_split.bits11:waitsOk solve_split.T11.2 solve_split.B11=true:=by kernel_rfl
def solve_split.T13:Bool×List (List Nat×List Nat):=(true,[([],[]),([0],[0]),([1],[1]),([2],[2]),([],[]),([],[]),([5],[5]),([6],[6]),([7],[7]),([8],[8]),([3,4,0,1,2,3,4,5,6,7,8,9],[3,4]),([10,0,1,2,3,4,5,6,7,8,9],[10]),([11,9,0,1,2,3,4,5,6,7,8,9],[9,11])])
def solve_split.B13:List Nat:=[0,1,3,7,0,0,32,96,224,480,1023,2047,4095]
theorem solve_split.tab13:rtab .any (opsOf Try.f86 13)=solve_split.T13:=by kernel_rfl
theorem solve_split.bits13:waitsOk solve_split.T13.2 solve_split.B13=true:=by kernel_rfl
def solve_split.T14:Bool×List (List Nat×List Nat):=(true,[([],[]),([],[]),([1],[1]),([],[]),([],[]),([4],[4]),([5],[5]),([3,6],[3,6]),([],[]),([0,2,7,8,7],[0,2,7,8]),([9,9,0,1,2,3,4,5,6,7,8,9],[9])])
def solve_split.B14:List Nat:=[0,0,2,0,0,16,48,120,0,511,1023]
theorem solve_split.tab14:rtab .any (opsOf Try.f86 14)=solve_split.T14:=by kernel_rfl
theorem solve_split.bits14:waitsOk solve_split.T14.2 solve_split.B14=true:=by kernel_rfl
/-- What split keeps: all that lay below n0,and all but the nodes' variable and rows of nodes. -/
def KpR (n0 g:Nat) (W W':World):Prop:=W.heap.size≤W'.heap.size∧(∀ k,k<W.heap.size→(k<n0∨(k≠g∧∀ cs,W.heap[k]?≠some (.cells cs 115 (0,0))))→W'.heap[k]?=W.heap[k]?)∧W'.os=W.os∧W'.tape=W.tape∧W'.output=W.output
theorem KpR.refl {n0 g:Nat} (W:World):KpR n0 g W W:=⟨Nat.le_refl _,fun _ _ _=>rfl,rfl,rfl,rfl⟩
theorem KpR.trans {n0 g:Nat} {A B C:World} (h:KpR n0 g A B) (k:KpR n0 g B C):KpR n0 g A C:=
 ⟨Nat.le_trans h.1 k.1,fun j hj hp=>by
  have e:=h.2.1 j hj hp
  exact (k.2.1 j (Nat.lt_of_lt_of_le hj h.1) (hp.elim .inl (fun ⟨h1,h2⟩=>.inr ⟨h1,fun cs hc=>h2 cs (e.symm.trans hc)⟩))).trans e,k.2.2.1.trans h.2.2.1,k.2.2.2.1.trans h.2.2.2.1,k.2.2.2.2.trans h.2.2.2.2⟩
theorem KpR.below {n0 g:Nat} {A B:World} (h:Below A.heap.size A B):KpR n0 g A B:=⟨h.size,fun j hj _=>h.block j hj,h.os,h.tape,h.output⟩
theorem KpR.belowN {n0 g:Nat} {A B:World} (h:KpR n0 g A B) (hn:n0≤A.heap.size):Below n0 A B:=⟨h.2.2.1,h.2.2.2.1,h.2.2.2.2,h.1,fun k hk=>h.2.1 k (by omega) (.inl hk)⟩
theorem KpR.blk {n0 g:Nat} {A B:World} (h:KpR n0 g A B) {j t:Nat} {cs:Array Value} (hb:A.heap[j]?=some (.cells cs t (0,0))) (hj:j≠g) (ht:t≠115):B.heap[j]?=some (.cells cs t (0,0)):=
 (h.2.1 j (blk_lt hb) (.inr ⟨hj,fun cs' hc=>by rw [hb] at hc;cases hc;exact ht rfl⟩)).trans hb
theorem KpR.other {n0 g:Nat} {A B:World} (h:KpR n0 g A B) {j:Nat} {o:Obj} (hb:A.heap[j]?=some o) (hj:j≠g) (ho:o.isCells=false):B.heap[j]?=some o:=
 (h.2.1 j (Array.getElem?_eq_some_iff.1 hb).1 (.inr ⟨hj,fun cs' hc=>by rw [hb] at hc;cases hc;simp [Obj.isCells] at ho⟩)).trans hb
theorem KpR.kept {n0 g:Nat} {A B:World} (h:KpR n0 g A B):Kept A B (fun k=>n0≤k∧(k=g∨∃ cs,A.heap[k]?=some (.cells cs 115 (0,0)))):=
 ⟨h.1,fun i hi hn=>h.2.1 i hi (by
  by_cases hlt:i<n0
  ·exact .inl hlt
  ·exact .inr ⟨fun e=>hn ⟨by omega,.inl e⟩,fun cs hc=>hn ⟨by omega,.inr ⟨cs,hc⟩⟩⟩)⟩
theorem KpR.set {n0 g:Nat} (W:World) (hg:n0≤g) (j:Nat) (u:Value):KpR n0 g W (W.setCell ⟨g,j,none⟩ u):=
 ⟨by simp [World.setCell],fun k hk hp=>Below.heap_setCell W _ u k (fun e=>by
  dsimp only at e
  subst e
  rcases hp with hp|⟨hp,_⟩
  ·omega
  ·exact hp rfl),rfl,rfl,rfl⟩
theorem KpR.grown {n0 g:Nat} {W W':World} {row:Option Nat} (hg:W.grownBy W' row) (hr:∀ k,row=some k→n0≤k∧∃ cs,W.heap[k]?=some (.cells cs 115 (0,0))):KpR n0 g W W':=
 ⟨hg.size,fun k hk hp=>hg.block k hk (fun e=>by
  obtain ⟨h1,cs,hb⟩:=hr k e.symm
  rcases hp with hp|⟨_,hc⟩
  ·omega
  ·exact hc cs hb),hg.os,hg.tape,hg.output⟩
theorem cell_alloc_ {W:World} {a:Addr} {v:Value} {o:Obj} (h:W.cell? a=some v):(W.alloc o).cell? a=some v:=cell_kept h (World.grownBy_alloc W o none) (fun r e=>by cases e)
def solve_split.f:Nat→List (S50)→List Int→Int→Int→List (S115)→Option (List (S115)×Bool)
 | 0,_,_,_,_,_=>none
 | k+1,l0,l1,a2_0,a2_1,l3=>if (l3.length:Int)=2000 then some (l3,false) else (solve_choices_failing.f k a2_0 a2_1 l0).bind fun t=>(if t≥0 then (if l3.length<4398046511104 then some (l3++[(⟨(-1),0,0,t⟩:S115)],true) else none) else (if (l1.length:Int)=0 then some (l3,false) else (if l3.length<4398046511104 then (solve_choices_with.f a2_0 a2_1 (rd l1 0) 0).bind fun b=>(solve_split.f k l0 (l1.drop 1) b.1 b.2 (l3++[(⟨rd l1 0,wrap64 ((l3.length:Int)+1),0,0⟩:S115)])).bind fun q=>(if q.2=true then (if (l3.length:Int)<(q.1.length:Int) then (solve_choices_with.f a2_0 a2_1 (rd l1 0) 1).bind fun b'=>solve_split.f k l0 (l1.drop 1) b'.1 b'.2 (q.1.set l3.length (⟨(rd_T115 q.1 (l3.length:Int)).f0,(rd_T115 q.1 (l3.length:Int)).f1,(q.1.length:Int),(rd_T115 q.1 (l3.length:Int)).f3⟩:S115)) else none) else some (q.1,false)) else none)))
theorem solve_split.mono_l:∀ k,(∀ y0 y1 y2 y3 y4,LeO (solve_split.f k y0 y1 y2 y3 y4) (solve_split.f (k+1) y0 y1 y2 y3 y4))
 | 0=>fun _ _ _ _ _ r h=>by simp [solve_split.f] at h
 | k+1=>by
  have ih0:=solve_split.mono_l k
  ·intro y0 y1 y2 y3 y4
   unfold solve_split.f
   repeat' first
   | (with_reducible exact ih0 _ _ _ _ _)
   | (with_reducible exact solve_choices_failing.mono _ _ _ _)
   | (with_reducible exact LeO.refl _)
   | (with_reducible exact LeO.none _)
   | (with_reducible refine LeO.ite ?_ ?_)
   | (with_reducible refine LeO.bind ?_ (fun _=>?_))
   | exact LeO.refl _
   | exact LeO.none _
   | refine LeO.ite ?_ ?_
   | refine LeO.bind ?_ (fun _=>?_)
theorem solve_split.mono:∀ a0 a1 a2 a3 a4 k,LeO (solve_split.f k a0 a1 a2 a3 a4) (solve_split.f (k+1) a0 a1 a2 a3 a4):=by
 intro a0 a1 a2 a3 a4 k
 have ih0:=solve_split.mono_l k
 exact ih0 a0 a1 a2 a3 a4
set_option maxHeartbeats 8000000 in
set_option maxRecDepth 100000 in
theorem solve_split.in_ (n0 g:Nat) (hge_:n0≤g) (w1:World) (A0:Option Addr) (c0:Nat) (l0:List (S50)) (hl0_:l0.length≤c0) (hL_:∀ W',KpR n0 g w1 W'→Kd.C k50 W' A0 l0.length l0) (k:Nat) :
  ∀ (A1:Option Addr) (c1:Nat) (l1:List Int) (a2_0 a2_1:Int) (l3:List (S115)) (u:Value) (r:List (S115)) (b:Bool) (w:World) (hK_:KpR n0 g w1 w) (hn_:n0≤w.heap.size) (hV_:∀ W',KpR n0 g w1 W'→Kd.C (Kd.int .i64) W' A1 l1.length l1) (hc1_:l1.length≤c1)
   (hb_:w.heap[g]?=some (.cells #[u] 63 (0,0))) (ho_:Kd.R k115 115 w n0 (fun _=>True) u l3) (h:solve_split.f k l0 l1 a2_0 a2_1 l3=some (r,b)),
  Calls Try.prog 86 #[.slice A0 l0.length c0,.slice A1 l1.length c1,.agg #[.int .i64 a2_0,.int .i64 a2_1],.pointer (some ⟨g,0,none⟩)] w fun e w'=>e=.returned (.bool b)∧∃ u':Value,w'.heap[g]?=some (.cells #[u'] 63 (0,0))∧Kd.R k115 115 w' n0 (fun _=>True) u' r∧KpR n0 g w w':=by
 have hL:=zA hL_
 have hge:=zA hge_
 have hl0:=zA hl0_
 clear hL_ hge_ hl0_
 induction k using Nat.strongRecOn with
 | _ k ih=>
 intro A1 c1 l1 a2_0 a2_1 l3 u r b w hK_ hn_ hV_ hc1_ hb_ ho_ h
 cases k with
 | zero=>exact absurd h (by simp [solve_split.f])
 | succ k=>
 simp only [solve_split.f] at h
 have hu83:=Try.underlying83
 have hu63:=Try.underlying63
 have hu61:=Try.underlying61
 have hu115:=Try.underlying115
 have hu3:=Try.underlying3
 obtain ⟨Au,cu,rfl⟩:=Kd.R_slice ho_
 have HK1:=zA hK_
 have HN:=zA hn_
 have HV:=zA hV_
 have HC1:=zA hc1_
 have BKr:=zA hb_
 have HO:=zA ho_
 have HK:=zA (KpR.refl (n0:=n0) (g:=g) w)
 have IH:=zA ih
 have HGW:=zA (blk_lt hb_)
 clear hK_ hn_ hV_ hc1_ hb_ ho_ ih
 have H0:=zA h
 clear h
 go_enter Try.func86,Try.ntmps86
 go_upto_if 17 with (first|((with_reducible refine gate_dst (N:=6) rfl ?_);refine box_event ?hg (N:=6) ?hd (cs:=#[.int .i64 a2_0,.int .i64 a2_1]) (t:=83) ?hr ?_;(case hd=>rfl);(case hg=>rfl);(case hr=>first|(go_simp;done)|(go_simp;rfl));intro gb hg w7 hbox hb;have BKc:=zA hbox;have GE:=zA (show w.heap.size≤gb by rw [hg];exact Nat.le_refl _);replace BKr:=zA (blk_below BKr.out hb);replace HO:=zA (Kd.R_below HO.out hb);replace HK:=zA (KpR.below (n0:=n0) (g:=g) hb);clear hb hbox hg;have hcr:w7.cell? ⟨g,0,none⟩=some (.slice Au l3.length cu):=(blk_cell BKr.out 0).trans rfl;have hfr:=blk_frozen BKr.out 0;have hc0:w7.cell? ⟨gb,0,none⟩=some (.int .i64 a2_0):=(blk_cell BKc.out 0).trans rfl;have hc1:w7.cell? ⟨gb,1,none⟩=some (.int .i64 a2_1):=(blk_cell BKc.out 1).trans rfl;have hf0:=blk_frozen BKc.out 0;have hf1:=blk_frozen BKc.out 1))
 (try simp only [Act.put,zi,zs,zt])
 have NE:=zA (show gb≠g from by have h1:=GE.out;have h2:=HGW.out;omega)
 have H:=H0.out
 clear H0
 rcases if0 H with ⟨c2,H⟩|⟨c2,H⟩
 ·have c2b0:((l3.length:Int) == 2000)=true:=beq_iff_eq.mpr c2
  (first|rw [c2b0]|(simp only [i64_w,i32_w];rw [c2b0])|skip)
  simp only [Option.some.injEq,Prod.mk.injEq] at H
  obtain ⟨rfl,rfl⟩:=H
  go_wp2
  go_ret
  exact ⟨rfl,_,BKr.out,HO.out,HK.out⟩
 ·have c2b0:((l3.length:Int) == 2000)=false:=beq_eq_false_iff_ne.mpr c2
  (first|rw [c2b0]|(simp only [i64_w,i32_w];rw [c2b0])|skip)
  replace H:=Option.bind_eq_some_iff.mp H
  obtain ⟨t129,A50,H⟩:=H
  have A5:=zA A50
  have HC6:=zA H
  clear A50 H
  go_upto_if 22 with (first|(go_at_call 101;(with_reducible refine (solve_choices_failing.calls k a2_0 a2_1 _ _ l0 t129 _ ?side1 ?side2 A5.out).mono ?_);(case side1=>exact hL.out _ (KpR.trans HK1.out HK.out));(case side2=>exact hl0.out);rintro e w9 ⟨rfl,hb⟩;replace BKr:=zA (blk_below BKr.out hb);replace BKc:=zA (blk_below BKc.out hb);replace HO:=zA (Kd.R_below HO.out hb);replace HK:=zA (KpR.trans HK.out (KpR.below (n0:=n0) (g:=g) hb));clear hb hcr hfr hc0 hc1 hf0 hf1;have hcr:w9.cell? ⟨g,0,none⟩=some (.slice Au l3.length cu):=(blk_cell BKr.out 0).trans rfl;have hfr:=blk_frozen BKr.out 0;have hc0:w9.cell? ⟨gb,0,none⟩=some (.int .i64 a2_0):=(blk_cell BKc.out 0).trans rfl;have hc1:w9.cell? ⟨gb,1,none⟩=some (.int .i64 a2_1):=(blk_cell BKc.out 1).trans rfl;have hf0:=blk_frozen BKc.out 0;have hf1:=blk_frozen BKc.out 1))
  (try simp only [Act.put,zi,zs,zt])
  have hn9:=zA (Nat.le_trans HN.out HK.out.1)
  have H:=HC6.out
  clear HC6
  rcases if0 H with ⟨c10,H⟩|⟨c10,H⟩
  ·have c10b0:decide (0≤t129)=true:=decide_eq_true c10
   clear c10
   (first|rw [c10b0]|(simp only [i64_w,i32_w];rw [c10b0])|skip)
   obtain ⟨c16,H⟩:=if1 H
   have LMc16:=zA c16
   clear c16
   simp only [Option.some.injEq,Prod.mk.injEq] at H
   obtain ⟨hr_,rfl⟩:=H
   have Ny:=zA hr_
   clear hr_
   go_wp2_with (first|((with_reducible refine gate_builtin (b:=.append) (xs:=#[.tmp 27,.tmp 30]) rfl ?_);at_builtin;refine Kd.R_append k115 (w0:=w9) n0 rfl (.tmp 27) (.tmp 30) 61 115 (.agg #[(.int .i64 0),(.int .i64 0),(.int .i64 0),(.int .i64 0)]) 32 rfl Try.underlying61 info115 rfl (by decide) (by omega) (.slice Au l3.length cu) l3 (⟨(-1),0,0,t129⟩:S115) [.int .i64 (-1),.int .i64 0,.int .i64 0,.int .i64 t129] (fun _=>True) (fun _=>False) rfl rfl ?aP (fun _ hk=>hk.elim) ?aF ?aO ?aB ?aS ?aL ?_;(case aP=>exact k115_mkM _ _ _ (⟨(-1),0,0,t129⟩:S115));(case aF=>exact fun _ _=>trivial);(case aB=>first|exact Below.refl n0 w9|exact (Below.refl n0 w9).alloc hn9.out _);(case aO=>exact (by refine zr ?_;exact HO.out));(case aS=>first|exact hn9.out|exact Nat.le_trans hn9.out (by rw [World.size_alloc];omega));(case aL=>have:=LMc16.out;omega);intro v459 w17 ho hb hg hat;rw [Ny.out] at ho;obtain ⟨Av,cv,rfl⟩:=Kd.R_slice ho;have hbr:w17.heap[g]?=some (.cells #[.slice Au l3.length cu] 63 (0,0)):=blk_grown BKr.out hg (Kd.R_ne HO.out BKr.out (by decide));have hcr:w17.cell? ⟨g,0,none⟩=some (.slice Au l3.length cu):=(blk_cell hbr 0).trans rfl;have hfr:=blk_frozen hbr 0))
   go_ret
   exact ⟨rfl,_,blk_put (cs:=#[.slice Au l3.length cu]) hbr 0 _ rfl,Kd.R_mono (Kd.R_far (p:=⟨g,0,none⟩) (Kd.R_types ho hbr (by decide)) (fun _ hk=>hk.2) _) (fun _ _=>trivial),(HK.out.trans (KpR.grown hg (fun k e=>⟨Kd.R_base HO.out k e,Kd.R_typed HO.out k e⟩))).trans (KpR.set _ hge.out _ _)⟩
  ·have c10b0:decide (0≤t129)=false:=decide_eq_false c10
   clear c10
   (first|rw [c10b0]|(simp only [i64_w,i32_w];rw [c10b0])|skip)
   rcases ife H with ⟨c11b0,c11b1,H⟩|⟨c11,c11b0,c11b1,H⟩
   ·simp only [Option.some.injEq,Prod.mk.injEq] at H
    obtain ⟨rfl,rfl⟩:=H
    go_wp2
    go_ret
    exact ⟨rfl,_,BKr.out,HO.out,HK.out⟩
   ·have c11b2:¬ (l1=[]):=fun h_=>c11 (by rw [h_];rfl)
    have hpos:0<(l1.length:Int):=by omega
    obtain ⟨c16,H⟩:=if1 H
    have LMc16:=zA c16
    clear c16 c11
    replace H:=Option.bind_eq_some_iff.mp H
    obtain ⟨⟨t132,t133⟩,A180,H⟩:=H
    have A18:=zA A180
    clear A180
    replace H:=Option.bind_eq_some_iff.mp H
    obtain ⟨⟨q_,qb⟩,A190,H⟩:=H
    obtain ⟨ji,hji⟩:∃ j_:Int,wrap64 ((l3.length:Int)+1)=j_:=⟨_,rfl⟩
    obtain ⟨y_,hy_⟩:∃ y:List (S115),y=l3++[(⟨rd l1 0,ji,0,0⟩:S115)]:=⟨_,rfl⟩
    obtain ⟨lt_,hlt_⟩:∃ t_:List Int,t_=l1.drop 1:=⟨_,rfl⟩
    rw [hji,← hy_,← hlt_] at A190
    simp only [← hlt_] at H
    have hjiw:(IntKind.i64.wrap ((l3.length:Int)+1))=ji:=(i64_w _).trans hji
    have A19:=zA A190
    clear A190
    have Ny:=zA hy_
    clear hy_
    have HC12:=zA H
    clear H
    have p130:0≤(0:Int):=by omega
    obtain ⟨ad130,e130,hx130_0⟩:=Kd.at_int (HV.out w9.drew (HK1.out.trans (HK.out.trans (KpR.below (below_drew1 (Below.refl _ _)))))) 0 p130 hpos
    cases e130
    (try rw [show ((0:Int)).toNat=0 from rfl] at hx130_0)
    (try rw [Addr.add_zero'] at hx130_0)
    obtain ⟨i023,hi023,_,hsz23,_⟩:=info_parts info3
    obtain ⟨A23,hcut23,hA23,hC23⟩:=print_drop_of (P:=Try.prog) (Value.int .i64) 0 30 3 .i64 Try.underlying30 hi023 hsz23 (some ad130) c1 l1 1 (by omega) (by omega) HC1.out
    rw [show (1:Int).toNat=1 from rfl,← hlt_] at hcut23 hA23 hC23
    have HV131:=zA (fun W' hk_=>Kd.C_of_reads (h1:=fun _=>rfl) (hA23 _ (Kd.reads_of_C (HV.out W' hk_))))
    have HC131:=zA hC23
    have HLT:=zA hlt_
    clear hA23 hC23 hi023 hsz23 hlt_
    have qi130:(0<l1.length)=True:=eq_true (by omega)
    have qj130:((0:Int)<(l1.length:Int))=True:=eq_true hpos
    go_wp2
    replace BKr:=zA (blk_drew BKr.out)
    replace BKc:=zA (blk_drew BKc.out)
    replace HO:=zA (Kd.R_drew HO.out)
    replace HK:=zA (HK.out.trans (KpR.below (below_drew1 (Below.refl _ _))))
    clear hcr hfr hc0 hc1 hf0 hf1
    refine start_ (n:=16) (S:=fun w'=>w'.cell? ⟨g,0,none⟩=some (.slice Au l3.length cu)∧w'.cell? ad130=some (.int .i64 (rd l1 0))) (ds:=[15]) (bz 16 0) zK rfl rfl ⟨(blk_cell BKr.out 0).trans rfl,hx130_0⟩ (fun hHeld=>?_);refine with_tabW solve_split.tab10 solve_split.bits10 (fun HT_ HW_=>?_)
    generalize w9.drew=w10 at BKr BKc HO HK hx130_0 hHeld ⊢
    refine zP 0 37 (bz 16 1) HT_ (h:=?_)
    refine zP 1 38 (bz 16 3) HT_ (h:=?_)
    refine zP 2 39 (bz 16 7) HT_ (h:=?_)
    refine zP 3 40 (bz 16 15) HT_ (h:=?_)
    refine zP 5 42 (bz 16 47) HT_ (h:=?_)
    refine zP 6 43 (bz 16 111) HT_ (h:=?_)
    refine zP 8 45 (bz 16 367) HT_ (h:=?_)
    refine zP 9 46 (bz 16 879) HT_ (h:=?_)
    refine zQ 4 41 (bz 16 895) HT_ HW_ hHeld (h:=?_)
    refine zQ 7 44 (bz 16 1023) HT_ HW_ hHeld (h:=?_)
    refine zP 10 47 (bz 16 2047) HT_ (h:=?_)
    refine one_ (i:=11) (N:=some 48) (bz 16 4095) rfl rfl (one_of HT_.out zK) (by decide) (fun K hK=>?_)
    refine value_ (w1:=?_) (v:=?_) (by rfl) rfl ?_ ?_
    rotate_left 2
    ·go_simp
     constructor
     ·rfl
     ·rfl
    refine hK.out _ _ ⟨(blk_cell (blk_alloc BKr.out _) 0).trans rfl,(cell_alloc_ hx130_0)⟩ (fun hHeld=>?_)
    clear hK K
    refine norm_ (a':=?_) ?_ ?_
    rotate_left
    ·show Act.put _ (some 48) _=_
     simp only [Act.put,zi,zs,zt,i64_w,i32_w]
     rfl
    refine one_ (i:=12) (N:=some 49) (bz 16 8191) rfl rfl (one_of HT_.out zK) (by decide) (fun K hK=>?_)
    refine Kd.R_append_step k115 (w0:=w10) n0 (by rfl) (.tmp 41) (.tmp 48) 61 115 (.agg #[(.int .i64 0),(.int .i64 0),(.int .i64 0),(.int .i64 0)]) 32 rfl Try.underlying61 info115 rfl (by decide) (by omega) (.slice Au l3.length cu) l3 (⟨rd l1 0,ji,0,0⟩:S115) [.int .i64 (rd l1 0),.int .i64 ji,.int .i64 0,.int .i64 0] (fun _=>True) (fun _=>False) rfl rfl ?aP (fun _ hk=>hk.elim) ?aF ?aO ?aB ?aS ?aL ?_
    (case aP=>exact k115_mkM _ _ _ (⟨rd l1 0,ji,0,0⟩:S115))
    (case aF=>exact fun _ _=>trivial)
    (case aB=>first|exact Below.refl n0 w10|exact (Below.refl n0 w10).alloc (Nat.le_trans HN.out HK.out.1) _)
    (case aO=>exact (by refine zr ?_;exact HO.out))
    (case aS=>first|exact Nat.le_trans HN.out HK.out.1|exact Nat.le_trans (Nat.le_trans HN.out HK.out.1) (by rw [World.size_alloc];omega))
    (case aL=>have:=LMc16.out;omega)
    intro v459 w11 ho hb hg hat
    rw [← Ny.out] at ho
    obtain ⟨Av,cv,rfl⟩:=Kd.R_slice ho
    replace BKr:=zA (blk_grown BKr.out hg (Kd.R_ne HO.out BKr.out (by decide)))
    replace BKc:=zA (blk_grown BKc.out hg (Kd.R_ne HO.out BKc.out (by decide)))
    replace HK:=zA (HK.out.trans (KpR.grown hg (fun k e=>⟨Kd.R_base HO.out k e,Kd.R_typed HO.out k e⟩)))
    replace HO:=zA ho
    clear ho hb hg hat hx130_0
    obtain ⟨adx,ex,hx130_0⟩:=Kd.at_int (HV.out w11 (HK1.out.trans HK.out)) 0 p130 hpos
    cases ex
    (try rw [show ((0:Int)).toNat=0 from rfl] at hx130_0)
    (try rw [Addr.add_zero'] at hx130_0)
    refine hK.out _ _ ⟨(blk_cell BKr.out 0).trans rfl,hx130_0⟩ (fun hHeld=>?_)
    clear hK K
    refine norm_ (a':=?_) ?_ ?_
    rotate_left
    ·show Act.put _ (some 49) _=_
     simp only [Act.put,zi,zs,zt,i64_w,i32_w]
     rfl
    refine zP 13 50 (bz 16 16383) HT_ (h:=?_)
    refine zP 14 51 (bz 16 32767) HT_ (h:=?_)
    refine last_ (i:=15) (N:=none) (bz 16 65535) rfl rfl (one_of HT_.out zK) (by decide) (fun K hK=>?_)
    have hs38:w11.cell? ⟨g,0,none⟩=some (.slice Au l3.length cu):=(blk_cell BKr.out 0).trans rfl
    have hfs38:=blk_frozen BKr.out 0
    refine skip_ (w1:=?_) (by rfl) rfl ?_ ?_
    rotate_left
    ·go_simp
     rfl
    refine hK.out _ _ ?_
    clear hK K
    clear hs38 hfs38 hHeld
    refine done_ (done_of HT_.out zK) ?_
    have n0_:=zA (blk_put (cs:=#[.slice Au l3.length cu]) BKr.out 0 (.slice Av y_.length cv) rfl)
    have n1_:=zA (blk_far BKc.out NE.out (.slice Av y_.length cv) (p:=⟨g,0,none⟩))
    have n2_:=zA (Kd.R_mono (ok':=fun _=>True) (Kd.R_far (p:=⟨g,0,none⟩) (Kd.R_types HO.out BKr.out (by decide)) (fun _ hk=>hk.2) (.slice Av y_.length cv)) (fun _ _=>trivial))
    have n3_:=zA (HK.out.trans (KpR.set _ hge.out 0 (.slice Av y_.length cv)))
    clear BKr BKc HO HK hx130_0
    generalize w11.setCell ⟨g,0,none⟩ (.slice Av y_.length cv)=w12 at n0_ n1_ n2_ n3_ ⊢
    have BKr:=n0_
    have BKc:=n1_
    have HO:=n2_
    have HK:=n3_
    clear n0_ n1_ n2_ n3_
    go_wp2
    replace BKr:=zA (blk_drew BKr.out)
    replace BKc:=zA (blk_drew BKc.out)
    replace HO:=zA (Kd.R_drew HO.out)
    replace HK:=zA (HK.out.trans (KpR.below (below_drew1 (Below.refl _ _))))
    obtain ⟨adx,ex,hx130_0⟩:=Kd.at_int (HV.out _ (HK1.out.trans HK.out)) 0 p130 hpos
    cases ex
    (try rw [show ((0:Int)).toNat=0 from rfl] at hx130_0)
    (try rw [Addr.add_zero'] at hx130_0)
    refine start_ (n:=11) (S:=fun w'=>w'.cell? ⟨gb,0,none⟩=some (.int .i64 a2_0)∧w'.cell? ⟨gb,1,none⟩=some (.int .i64 a2_1)∧w'.cell? ad130=some (.int .i64 (rd l1 0))) (ds:=[]) (bz 11 0) zK rfl rfl ⟨(blk_cell BKc.out 0).trans rfl,(blk_cell BKc.out 1).trans rfl,hx130_0⟩ (fun hHeld=>?_);refine with_tabW solve_split.tab11 solve_split.bits11 (fun HT_ HW_=>?_)
    generalize w12.drew=w13 at BKr BKc HO HK hx130_0 hHeld ⊢
    refine zP 0 52 (bz 11 1) HT_ (h:=?_)
    refine zP 1 53 (bz 11 3) HT_ (h:=?_)
    refine zP 2 54 (bz 11 7) HT_ (h:=?_)
    refine zP 4 56 (bz 11 23) HT_ (h:=?_)
    refine zP 5 57 (bz 11 55) HT_ (h:=?_)
    refine zP 8 60 (bz 11 311) HT_ (h:=?_)
    refine zQ 3 55 (bz 11 319) HT_ HW_ hHeld (h:=?_)
    refine zQ 6 58 (bz 11 383) HT_ HW_ hHeld (h:=?_)
    refine one_ (i:=7) (N:=some 59) (bz 11 511) rfl rfl (one_of HT_.out zK) (by decide) (fun K hK=>?_)
    refine goes_ Try.func102 zK rfl #[.agg #[.int .i64 a2_0,.int .i64 a2_1],.int .i64 (rd l1 0),.int .i64 0] (by rfl) rfl rfl zM ?_
    with_reducible refine (solve_choices_with.calls a2_0 a2_1 (rd l1 0) 0 t132 t133 _ A18.out).mono ?_
    rintro e w14 ⟨rfl,hb⟩
    refine ⟨_,rfl,?_⟩
    replace BKr:=zA (blk_below BKr.out hb)
    replace BKc:=zA (blk_below BKc.out hb)
    replace HO:=zA (Kd.R_below HO.out hb)
    replace HK:=zA (HK.out.trans (KpR.below (n0:=n0) (g:=g) hb))
    clear hb hx130_0
    obtain ⟨adx,ex,hx130_0⟩:=Kd.at_int (HV.out _ (HK1.out.trans HK.out)) 0 p130 hpos
    cases ex
    (try rw [show ((0:Int)).toNat=0 from rfl] at hx130_0)
    (try rw [Addr.add_zero'] at hx130_0)
    refine hK.out _ _ ⟨(blk_cell BKc.out 0).trans rfl,(blk_cell BKc.out 1).trans rfl,hx130_0⟩ (fun hHeld=>?_)
    clear hK K
    refine norm_ (a':=?_) ?_ ?_
    rotate_left
    ·show Act.put _ (some 59) _=_
     simp only [Act.put,zi,zs,zt,i64_w,i32_w]
     rfl
    refine one_ (i:=9) (N:=some 61) (bz 11 1023) rfl rfl (one_of HT_.out zK) (by decide) (fun K hK=>?_)
    refine goes_ Try.func86 zK rfl #[.slice A0 l0.length c0,.slice A23 lt_.length (c1 - 1),.agg #[.int .i64 t132,.int .i64 t133],.pointer (some ⟨g,0,none⟩)] (by rfl) rfl rfl zM ?_
    with_reducible refine (IH.out k (by omega) A23 (c1 - 1) lt_ t132 t133 y_ (.slice Av y_.length cv) q_ qb _ ?side1 ?side2 ?side3 ?side4 ?side5 ?side6 A19.out).mono ?_
    (case side1=>exact HK1.out.trans HK.out)
    (case side2=>exact Nat.le_trans HN.out HK.out.1)
    (case side3=>exact HV131.out)
    (case side4=>exact HC131.out)
    (case side5=>exact BKr.out)
    (case side6=>exact HO.out)
    rintro e w15 ⟨rfl,u_,hbr,hor,hkk⟩
    refine ⟨_,rfl,?_⟩
    obtain ⟨Aq,cq,rfl⟩:=Kd.R_slice hor
    replace BKr:=zA hbr
    replace BKc:=zA (KpR.blk hkk BKc.out NE.out (by decide))
    replace HO:=zA hor
    replace HK:=zA (HK.out.trans hkk)
    clear hbr hor hkk hx130_0
    obtain ⟨adx,ex,hx130_0⟩:=Kd.at_int (HV.out _ (HK1.out.trans HK.out)) 0 p130 hpos
    cases ex
    (try rw [show ((0:Int)).toNat=0 from rfl] at hx130_0)
    (try rw [Addr.add_zero'] at hx130_0)
    refine hK.out _ _ ⟨(blk_cell BKc.out 0).trans rfl,(blk_cell BKc.out 1).trans rfl,hx130_0⟩ (fun hHeld=>?_)
    clear hK K
    refine norm_ (a':=?_) ?_ ?_
    rotate_left
    ·show Act.put _ (some 61) _=_
     simp only [Act.put,zi,zs,zt,i64_w,i32_w]
     rfl
    refine zP 10 62 (bz 11 2047) HT_ (h:=?_)
    refine done_ (done_of HT_.out zK) ?_
    have H:=HC12.out
    clear HC12
    cases qb with
    | false=>
     simp only [Bool.false_eq_true,if_false,Option.some.injEq,Prod.mk.injEq] at H
     obtain ⟨rfl,rfl⟩:=H
     go_wp2
     go_ret
     exact ⟨rfl,_,BKr.out,HO.out,HK.out⟩
    | true=>
     simp only [if_true] at H
     by_cases c30:(l3.length:Int)<(q_.length:Int)
     rotate_left
     ·rw [if_neg c30] at H;exact absurd H (by simp)
     rw [if_pos c30] at H
     replace H:=Option.bind_eq_some_iff.mp H
     obtain ⟨⟨t135,t136⟩,A210,H⟩:=H
     have A21:=zA A210
     clear A210
     obtain ⟨z_,hz_⟩:∃ y:List (S115),y=q_.set l3.length (⟨(rd_T115 q_ (l3.length:Int)).f0,(rd_T115 q_ (l3.length:Int)).f1,(q_.length:Int),(rd_T115 q_ (l3.length:Int)).f3⟩:S115):=⟨_,rfl⟩
     simp only [← hz_] at H
     have A22:=zA H
     have Nz:=zA hz_
     clear H hz_
     have p25:0≤(l3.length:Int):=by omega
     have c30b0:decide ((l3.length:Int)<(q_.length:Int))=true:=decide_eq_true c30
     go_wp2
     replace BKr:=zA (blk_drew BKr.out)
     replace BKc:=zA (blk_drew BKc.out)
     replace HO:=zA (Kd.R_drew HO.out)
     replace HK:=zA (HK.out.trans (KpR.below (below_drew1 (Below.refl _ _))))
     obtain ⟨go25,co25,eo25,gb25,gl25,cl25,HG25⟩:=Kd.R_form HO.out (by omega)
     (first|cases eo25|(injection eo25 with ea_ en_ ec_;(first|subst ea_|(injection ea_ with ea_;subst ea_));subst ec_;clear en_))
     clear gb25 gl25 HG25
     obtain ⟨ce36,hcl36,hM36,hcc36,hfr36⟩:=Kd.R_elem HO.out z115 (l3.length:Int) p25 c30
     obtain rfl:=k115_openM hM36
     have HP36:=Kd.R_seg HO.out (l3.length:Int) p25 c30 (seg:=[.int .i64 (q_.length:Int)]) (j:=2) hcl36 hcc36 (show 3≤4 from by decide) (x':=(⟨(rd_T115 q_ (l3.length:Int)).f0,(rd_T115 q_ (l3.length:Int)).f1,(q_.length:Int),(rd_T115 q_ (l3.length:Int)).f3⟩:S115)) (k115_mkM _ _ _ (⟨(rd_T115 q_ (l3.length:Int)).f0,(rd_T115 q_ (l3.length:Int)).f1,(q_.length:Int),(rd_T115 q_ (l3.length:Int)).f3⟩:S115)) (fun _ hk=>hk)
     have hx36_2:=hcc36 2 _ rfl
     (try simp only [show (k115).sz=4 from rfl,Nat.mul_one,Nat.add_zero,Int.toNat_natCast] at hx36_2)
     have hf36_2:=hfr36 2
     (try simp only [show (k115).sz=4 from rfl,Nat.mul_one,Nat.add_zero,Int.toNat_natCast] at hf36_2)
     clear hcl36 hcc36 hfr36 hM36
     simp only [show (k115).sz=4 from rfl,Int.toNat_natCast] at HP36
     have HPP:=zA HP36
     clear HP36
     have p25b:=eq_true p25
     have q25b:=eq_true c30
     have q25n:(l3.length<q_.length)=True:=eq_true (by omega)
     refine start_ (n:=13) (S:=fun w'=>w'.cell? ⟨g,0,none⟩=some (.slice (some ⟨go25,0,none⟩) q_.length cq)) (ds:=[12]) (bz 13 0) zK rfl rfl ((blk_cell BKr.out 0).trans rfl) (fun hHeld=>?_);refine with_tabW solve_split.tab13 solve_split.bits13 (fun HT_ HW_=>?_)
     generalize w15.drew=w16 at BKr BKc HO HK HPP hx36_2 hf36_2 hHeld ⊢
     refine zP 0 63 (bz 13 1) HT_ (h:=?_)
     refine zP 1 64 (bz 13 3) HT_ (h:=?_)
     refine zP 2 65 (bz 13 7) HT_ (h:=?_)
     refine zP 4 67 (bz 13 23) HT_ (h:=?_)
     refine zP 5 68 (bz 13 55) HT_ (h:=?_)
     refine zP 6 69 (bz 13 119) HT_ (h:=?_)
     refine zP 7 70 (bz 13 247) HT_ (h:=?_)
     refine take_ (i:=3) (N:=some 66) (v:=?_) (a':=?_) (bz 13 255) rfl rfl (take_ofW HT_.out HW_.out zK) (fun _ _ _ h=>h) (Or.inl ⟨by rfl,?_⟩) hHeld ?_ ?_
     rotate_left
     ·rintro w' s0
      go_simp
      with_reducible rfl
     rotate_left
     ·simp only [Act.put,zi,zs,zt,i64_w,i32_w]
      rfl
     refine take_ (i:=8) (N:=some 71) (v:=?_) (a':=?_) (bz 13 511) rfl rfl (take_ofW HT_.out HW_.out zK) (fun _ _ _ h=>h) (Or.inl ⟨by rfl,?_⟩) hHeld ?_ ?_
     rotate_left
     ·rintro w' s0
      go_simp
      with_reducible rfl
     rotate_left
     ·simp only [Act.put,zi,zs,zt,i64_w,i32_w]
      rfl
     refine zP 9 72 (bz 13 1023) HT_ (h:=?_)
     refine zP 10 73 (bz 13 2047) HT_ (h:=?_)
     refine zP 11 74 (bz 13 4095) HT_ (h:=?_)
     refine last_ (i:=12) (N:=none) (bz 13 8191) rfl rfl (one_of HT_.out zK) (by decide) (fun K hK=>?_)
     refine skip_ (w1:=?_) (by rfl) rfl ?_ ?_
     rotate_left
     ·go_simp
      rfl
     refine hK.out _ _ ?_
     clear hK K
     clear hHeld
     refine done_ (done_of HT_.out zK) ?_
     have hgw:w16.grownBy (w16.setCell ⟨go25,l3.length * 4+2,none⟩ (.int .i64 (q_.length:Int))) (some go25):=HPP.out.2
     have hzl:z_.length=q_.length:=by rw [Nz.out,List.length_set]
     have n0_:=zA (blk_grown BKr.out hgw (Kd.R_ne HO.out BKr.out (by decide)))
     have n1_:=zA (blk_grown BKc.out hgw (Kd.R_ne HO.out BKc.out (by decide)))
     have n2_:Aside0 (Kd.R k115 115 (w16.setCell ⟨go25,l3.length * 4+2,none⟩ (.int .i64 (q_.length:Int))) n0 (fun _=>True) (.slice (some ⟨go25,0,none⟩) q_.length cq) z_):=⟨by rw [Nz.out];exact HPP.out.1⟩
     have n3_:=zA (HK.out.trans (KpR.grown hgw (fun k e=>by cases e;exact ⟨Kd.R_base HO.out go25 rfl,Kd.R_typed HO.out go25 rfl⟩)))
     clear BKr BKc HO HK HPP hgw hx36_2 hf36_2
     generalize w16.setCell ⟨go25,l3.length * 4+2,none⟩ (.int .i64 (q_.length:Int))=w17 at n0_ n1_ n2_ n3_ ⊢
     rw [← hzl] at n0_ n2_
     have BKr:=n0_
     have BKc:=n1_
     have HO:=n2_
     have HK:=n3_
     clear n0_ n1_ n2_ n3_
     go_wp2
     replace BKr:=zA (blk_drew BKr.out)
     replace BKc:=zA (blk_drew BKc.out)
     replace HO:=zA (Kd.R_drew HO.out)
     replace HK:=zA (HK.out.trans (KpR.below (below_drew1 (Below.refl _ _))))
     obtain ⟨adx,ex,hx130_0⟩:=Kd.at_int (HV.out _ (HK1.out.trans HK.out)) 0 p130 hpos
     cases ex
     (try rw [show ((0:Int)).toNat=0 from rfl] at hx130_0)
     (try rw [Addr.add_zero'] at hx130_0)
     refine start_ (n:=11) (S:=fun w'=>w'.cell? ⟨gb,0,none⟩=some (.int .i64 a2_0)∧w'.cell? ⟨gb,1,none⟩=some (.int .i64 a2_1)∧w'.cell? ad130=some (.int .i64 (rd l1 0))) (ds:=[]) (bz 11 0) zK rfl rfl ⟨(blk_cell BKc.out 0).trans rfl,(blk_cell BKc.out 1).trans rfl,hx130_0⟩ (fun hHeld=>?_);refine with_tabW solve_split.tab14 solve_split.bits14 (fun HT_ HW_=>?_)
     generalize w17.drew=w18 at BKr BKc HO HK hx130_0 hHeld ⊢
     refine zP 0 75 (bz 11 1) HT_ (h:=?_)
     refine zP 1 76 (bz 11 3) HT_ (h:=?_)
     refine zP 2 77 (bz 11 7) HT_ (h:=?_)
     refine zP 4 79 (bz 11 23) HT_ (h:=?_)
     refine zP 5 80 (bz 11 55) HT_ (h:=?_)
     refine zP 8 83 (bz 11 311) HT_ (h:=?_)
     refine zQ 3 78 (bz 11 319) HT_ HW_ hHeld (h:=?_)
     refine zQ 6 81 (bz 11 383) HT_ HW_ hHeld (h:=?_)
     refine one_ (i:=7) (N:=some 82) (bz 11 511) rfl rfl (one_of HT_.out zK) (by decide) (fun K hK=>?_)
     refine goes_ Try.func102 zK rfl #[.agg #[.int .i64 a2_0,.int .i64 a2_1],.int .i64 (rd l1 0),.int .i64 1] (by rfl) rfl rfl zM ?_
     with_reducible refine (solve_choices_with.calls a2_0 a2_1 (rd l1 0) 1 t135 t136 _ A21.out).mono ?_
     rintro e w19 ⟨rfl,hb⟩
     refine ⟨_,rfl,?_⟩
     replace BKr:=zA (blk_below BKr.out hb)
     replace BKc:=zA (blk_below BKc.out hb)
     replace HO:=zA (Kd.R_below HO.out hb)
     replace HK:=zA (HK.out.trans (KpR.below (n0:=n0) (g:=g) hb))
     clear hb hx130_0
     obtain ⟨adx,ex,hx130_0⟩:=Kd.at_int (HV.out _ (HK1.out.trans HK.out)) 0 p130 hpos
     cases ex
     (try rw [show ((0:Int)).toNat=0 from rfl] at hx130_0)
     (try rw [Addr.add_zero'] at hx130_0)
     refine hK.out _ _ ⟨(blk_cell BKc.out 0).trans rfl,(blk_cell BKc.out 1).trans rfl,hx130_0⟩ (fun hHeld=>?_)
     clear hK K
     refine norm_ (a':=?_) ?_ ?_
     rotate_left
     ·show Act.put _ (some 82) _=_
      simp only [Act.put,zi,zs,zt,i64_w,i32_w]
      rfl
     refine one_ (i:=9) (N:=some 84) (bz 11 1023) rfl rfl (one_of HT_.out zK) (by decide) (fun K hK=>?_)
     refine goes_ Try.func86 zK rfl #[.slice A0 l0.length c0,.slice A23 lt_.length (c1 - 1),.agg #[.int .i64 t135,.int .i64 t136],.pointer (some ⟨g,0,none⟩)] (by rfl) rfl rfl zM ?_
     with_reducible refine (IH.out k (by omega) A23 (c1 - 1) lt_ t135 t136 z_ (.slice (some ⟨go25,0,none⟩) z_.length cq) r b _ ?side1 ?side2 ?side3 ?side4 ?side5 ?side6 A22.out).mono ?_
     (case side1=>exact HK1.out.trans HK.out)
     (case side2=>exact Nat.le_trans HN.out HK.out.1)
     (case side3=>exact HV131.out)
     (case side4=>exact HC131.out)
     (case side5=>exact BKr.out)
     (case side6=>exact HO.out)
     rintro e w20 ⟨rfl,u_,hbr,hor,hkk⟩
     refine ⟨_,rfl,?_⟩
     obtain ⟨Aq,cq,rfl⟩:=Kd.R_slice hor
     replace BKr:=zA hbr
     replace BKc:=zA (KpR.blk hkk BKc.out NE.out (by decide))
     replace HO:=zA hor
     replace HK:=zA (HK.out.trans hkk)
     clear hbr hor hkk hx130_0
     obtain ⟨adx,ex,hx130_0⟩:=Kd.at_int (HV.out _ (HK1.out.trans HK.out)) 0 p130 hpos
     cases ex
     (try rw [show ((0:Int)).toNat=0 from rfl] at hx130_0)
     (try rw [Addr.add_zero'] at hx130_0)
     refine hK.out _ _ ⟨(blk_cell BKc.out 0).trans rfl,(blk_cell BKc.out 1).trans rfl,hx130_0⟩ (fun hHeld=>?_)
     clear hK K
     refine norm_ (a':=?_) ?_ ?_
     rotate_left
     ·show Act.put _ (some 84) _=_
      simp only [Act.put,zi,zs,zt,i64_w,i32_w]
      rfl
     refine zP 10 8 (bz 11 2047) HT_ (h:=?_)
     refine done_ (done_of HT_.out zK) ?_
     go_wp2
     go_ret
     exact ⟨rfl,_,BKr.out,HO.out,HK.out⟩
/-- What Refute says,no solution being there. -/
def solve_Refute.of (q:List (S115)×Bool):List (S115)×Int:=if q.2=true then (q.1,0) else ([],3)
def solve_Refute.f (k:Nat) (l0:List (S50)):Option ((List (S115))×Int):=(solve_valid.f k l0).bind fun t268=>(if t268=0 then ((solve_occurring.f k l0).bind fun t269=>((solve_search.f k l0 t269 0 0).bind fun s=>(if (s.length:Int)=0 then ((solve_split.f k l0 t269 0 0 []).bind fun q=>some (solve_Refute.of q)) else (some (([]:List (S115)),11))))) else (some (([]:List (S115)),t268)))
theorem solve_Refute.mono:∀ a0 k,LeO (solve_Refute.f k a0) (solve_Refute.f (k+1) a0):=by
 intro a0 k
 unfold solve_Refute.f
 repeat' first
   | (with_reducible exact solve_occurring.mono _ _)
   | (with_reducible exact solve_valid.mono _ _)
   | (with_reducible exact LeO.refl _)
   | (with_reducible exact LeO.none _)
   | (with_reducible refine LeO.ite ?_ ?_)
   | (with_reducible refine LeO.bind ?_ (fun _=>?_))
   | exact solve_search.mono _ _ _ _ _
   | exact solve_split.mono _ _ _ _ _ _
   | exact LeO.none _
   | refine LeO.ite ?_ ?_
   | refine LeO.bind ?_ (fun _=>?_)
section
attribute [local go_sem] Oper.semAt_some
set_option maxHeartbeats 8000000 in
set_option maxRecDepth 100000 in
theorem solve_Refute.calls (k:Nat) (A0:Option Addr) (c0:Nat) (l0:List (S50)) (r1:List (S115)) (r2:Int) (w:World) (hr0:Kd.C k50 w A0 l0.length l0) (hc0:l0.length≤c0) (h:solve_Refute.f k l0=some (r1,r2)) :
  Calls Try.prog 70 #[.slice A0 l0.length c0] w fun e w'=>∃ v0_:Value,e=.returned (.tuple #[.agg #[v0_],.int .i64 r2])∧Kd.R k115 115 w' w.heap.size (fun _=>True) v0_ r1∧Below w.heap.size w w':=by
 have hu63:=Try.underlying63
 have hu26:=Try.underlying26
 have hu83:=Try.underlying83
 have HR0:=zA hr0
 have HC0:=zA hc0
 clear hr0 hc0
 have HB:=zA (Below.refl w.heap.size w)
 have H:((solve_valid.f k l0).bind fun t268=>(if t268=0 then ((solve_occurring.f k l0).bind fun t269=>((solve_search.f k l0 t269 0 0).bind fun s=>(if (s.length:Int)=0 then ((solve_split.f k l0 t269 0 0 []).bind fun q=>some (solve_Refute.of q)) else (some (([]:List (S115)),11))))) else (some (([]:List (S115)),t268))))=some (r1,r2):=h
 clear h
 obtain ⟨t268,A2,H⟩:=zo H
 have HC3:=zA H
 clear H
 refine (callsIn_wide (n:=5)).1 ?_
 refine callsIn_of_wp_marks Try.func70 rfl trivial ?_ rfl
 simp only [Try.ntmps70,List.size_toArray,List.length_cons,List.length_nil,Nat.reduceAdd,Nat.reduceSub,Array.replicate_succ,Array.replicate_zero,List.push_toArray,List.append_toArray,List.nil_append,List.cons_append]
 refine wpIn_wide.2 ?_
 go_upto_if 10 with (first|((with_reducible refine gd 2 rfl ?_);refine zx #[.slice none 0 0] 63 (h:=?_);intro gb266 hg w4 BK266 hb GW266 HB1;have GE266:=GW266;clear HB hb hg;have HB:=HB1;clear HB1)|((with_reducible refine gd 3 rfl ?_);refine zx #[.int .i64 0] 26 (h:=?_);intro gb267 hg w5 BK267 hb GW267 HB1;have GE267:=GW267;have NB266_267:=zL hg BK266;have NB267_266:=zLs NB266_267;replace BK266:=zw BK266 hb;clear HB hb hg;have HB:=HB1;clear HB1)|((with_reducible refine gate_callee (f:=63) rfl ?_);refine goesL_ (some 8) rfl rfl Try.func63 zK rfl #[.slice A0 l0.length c0] rfl zM ?_;(with_reducible refine (solve_valid.calls k _ _ l0 t268 _ (zD HR0 HB) HC0.out A2.out).mono ?_);rintro e w6 ⟨rfl,hb⟩;refine ⟨_,rfl,?_⟩;replace BK266:=zw BK266 hb;replace BK267:=zw BK267 hb;replace HB:=zu hb;clear hb))
 (try simp only [Act.put,zi,zs,zt])
 have H:=HC3.out
 clear HC3
 rcases ife H with ⟨c7b0,c7b1,H⟩|⟨c7,c7b0,c7b1,H⟩
 ·(first|rw [c7b0]|(simp only [i64_w,i32_w];rw [c7b0])|skip)
  (try rw [c7b1])
  obtain ⟨t269,A8,H⟩:=zo H
  replace H:=Option.bind_eq_some_iff.mp H
  obtain ⟨s_,AS0,H⟩:=H
  have AS:=zA AS0
  clear AS0
  have HFS:=zA H
  clear H
  have HLT266:=zA (blk_lt BK266.out)
  have HLT267:=zA (blk_lt BK267.out)
  go_wp2_with (first
   | ((with_reducible refine gate_callee (f:=65) rfl ?_);refine goesL_ (some 14) rfl rfl Try.func65 zK rfl #[.slice A0 l0.length c0] rfl zM ?_;(with_reducible refine (solve_occurring.calls k _ _ l0 t269 _ (zD HR0 HB) HC0.out A8.out).mono ?_);rintro e w9 ⟨v270,rfl,ho0,hb⟩;refine ⟨_,rfl,?_⟩;have hn6:=zA hb.size;have HO271:=zA ho0;have HS6:=zA (below_size HB.out);replace BK266:=zw BK266 hb;replace BK267:=zw BK267 hb;replace HB:=zu hb;clear hb ho0;obtain ⟨A270,c270,e270⟩:=Kd.R_slice HO271.out;subst e270))
  refine (solve_solutions.in_ A0 l0.length c0 A270 t269.length c270 0 0 _).mono ?_
  rintro e w10 ⟨g0,g1,g2,rfl,hg0,hg1,hs0,hs1,hs2,hb⟩
  have n0_:=zA (Kd.R_below HO271.out hb)
  have n1_:=zA (zb BK266 hb)
  have n2_:=zA (zb BK267 hb)
  have n3_:=zA (below_step zB hb)
  have hn9:=zA hb.size
  have hc270:=zA (Kd.R_reads' HO271.out).2.1
  clear BK266 BK267 HB HO271 hb hg0 hg1
  have HO271:=n0_
  have BK266:=n1_
  have BK267:=n2_
  have HB:=n3_
  clear n0_ n1_ n2_ n3_
  go_wp2
  have h67:w6.heap.size≤w10.heap.size:=Nat.le_trans hn6.out hn9.out
  have hL:∀ W',KpS w.heap.size w6.heap.size w10.heap.size w10 W'→Kd.C k50 W' A0 l0.length l0:=fun W' hk=>Kd.C_kept_came k50_heap HR0.out HB.out (fun k hk=>hk.1) W' hk.kept
  have hV:∀ W',KpS w.heap.size w6.heap.size w10.heap.size w10 W'→Kd.C (Kd.int .i64) W' A270 t269.length t269:=fun W' hk=>Kd.C_kept_own (Kd.R_bound HO271.out) (fun k hk hs=>by have h_:=HS6.out;obtain ⟨_,h1,h2,_⟩:=hk;omega) W' hk.kept
  refine (wpIn_wide (n:=5)).1 ?_
  refine wpIn_rangeFunc_ownF (n:=5) rfl (by omega) (gf:=83) (lb:=#[.pointer (some ⟨g0,0,none⟩),.pointer (some ⟨g1,0,none⟩),.pointer (some ⟨g2,0,none⟩)]) rfl trivial (enters_of Try.func83 zK rfl)
   (solve_solutions_stops w.heap.size w6.heap.size w10.heap.size A0 c0 l0 HC0.out A270 c270 t269 hc270.out 0 0 g0 g1 g2 k s_ w10 (Nat.le_refl _) hL hV AS.out hs0 hs1 hs2)
   KpS.trans (fun W l o o' hl h ho _=>KpS.put (Nat.le_trans HS6.out h67) W l o o' hl h ho) (Below.refl _ _) (fun _=>rfl)
   (fun (pre:List Int) (W:World)=>pre=[]∧W.heap[gb266]?=some (.cells #[.slice none 0 0] 63 (0,0))∧W.heap[gb267]?=some (.cells #[.int .i64 0] 26 (0,0))∧Kd.R (Kd.int .i64) 3 W w6.heap.size (fun _=>True) (.slice A270 t269.length c270) t269∧Below w.heap.size w W)
   (fun c pre W=>c=Code.ret∧(∃ x:Int,pre=[x])∧W.heap[gb266]?=some (.cells #[.slice none 0 0] 63 (0,0))∧W.heap[gb267]?=some (.cells #[.int .i64 11] 26 (0,0))∧Below w.heap.size w W)
   (fun s A B row hs hg hr=>by
    obtain ⟨h0,h1,h2,h4,h3⟩:=hs
    exact ⟨h0,blk_grown h1 hg (ne_row_ hr h1),blk_grown h2 hg (ne_row_ hr h2),Kd.R_mono (Kd.R_grown (Kd.R_bound h4) hg (fun k hk=>by obtain ⟨_,_,_,q,_,cs,hb⟩:=hk;exact ne_row_ hr hb)) (fun _ _=>trivial),h3.grown hg h3.size (fun k e=>Nat.le_trans HB.out.size (hr k e).1)⟩)
   (fun c s A B row hs hg hr=>by
    obtain ⟨e1,e2,h1,h2,h3⟩:=hs
    exact ⟨e1,e2,blk_grown h1 hg (ne_row_ hr h1),blk_grown h2 hg (ne_row_ hr h2),h3.grown hg h3.size (fun k e=>Nat.le_trans HB.out.size (hr k e).1)⟩)
   ⟨rfl,BK266.out,BK267.out,HO271.out,HB.out⟩
   (fun x=>{tmps:=#[.slice A0 l0.length c0,undef,.pointer (some ⟨gb266,0,none⟩),.pointer (some ⟨gb267,0,none⟩),.int .i64 t268,.slice A270 t269.length c270,undef,.slice A0 l0.length c0,.int .i64 t268,.int .i64 t268,.bool false,undef,undef,.slice A0 l0.length c0,.slice A270 t269.length c270,.slice A0 l0.length c0,.slice A270 t269.length c270,.agg #[.int .i64 0,.int .i64 0],.func (.func 83) #[] #[.pointer (some ⟨g0,0,none⟩),.pointer (some ⟨g1,0,none⟩),.pointer (some ⟨g2,0,none⟩)],.int .i64 x,undef,undef,undef,undef,undef,undef,undef,undef],defers:=[]}) ?assign ?body ?done ?stop
  case assign=>
   intro l x W K hK
   gi_wp2
   simpa using hK
  case body=>
   rintro l pre x W ⟨rfl,hb1,hb2,hRv,hbl⟩ _
   have hcz0:W.cell? ⟨gb266,0,none⟩=some (.slice none 0 0):=(blk_cell hb1 0).trans rfl
   have hfz0:=blk_frozen hb1 0
   have hcz1:W.cell? ⟨gb267,0,none⟩=some (.int .i64 0):=(blk_cell hb2 0).trans rfl
   have hfz1:=blk_frozen hb2 0
   have hnb:=NB266_267.out
   have hnc:=NB267_266.out
   gi_wp2
   have h2_:=two_set hb1 hb2 NB266_267.out (.slice none 0 0) (.int .i64 11)
   exact ⟨two_keep _ _ _ _ _,rfl,⟨x,rfl⟩,h2_.1,h2_.2,below_set (below_set hbl GE266.out) GE267.out⟩
  case done=>
   rintro D ys W hD hys ⟨rfl,hb1,hb2,hRv,hbl⟩ hK
   subst hys
   have H:=HFS.out
   rw [if_pos (show (([]:List Int).length:Int)=0 from rfl)] at H
   replace H:=Option.bind_eq_some_iff.mp H
   obtain ⟨⟨q_,qb⟩,AQ0,H⟩:=H
   have AQ:=zA AQ0
   have HFQ:=zA (Option.some.inj H)
   have BK266:=zA hb1
   have BK267:=zA hb2
   have HKD:=zA hK
   have HRV:=zA hRv
   have HBL:=zA hbl
   clear hK AQ0 H hb1 hb2 hRv hbl
   dsimp only
   go_wp2_with (first
    | ((with_reducible refine gate_dst (N:=6) rfl ?_);refine box_event ?hg (N:=6) ?hd (cs:=#[.slice none 0 0]) (t:=63) ?hr ?_;(case hd=>rfl);(case hg=>rfl);(case hr=>first|(go_simp;done)|(go_simp;rfl));intro gr hg w11 hbox hb;have BKR:=zA hbox;have GER:=zA (show w.heap.size≤gr by rw [hg];exact HBL.out.size);have ND:=zA (show D≠gr by rw [hg];exact Nat.ne_of_lt (Array.getElem?_eq_some_iff.1 HKD.out).1);have N266:=zA (show gb266≠gr by rw [hg];exact Nat.ne_of_lt (blk_lt BK266.out));have N267:=zA (show gb267≠gr by rw [hg];exact Nat.ne_of_lt (blk_lt BK267.out));replace BK266:=zA (blk_below BK266.out hb);replace BK267:=zA (blk_below BK267.out hb);replace HRV:=zA (Kd.R_below HRV.out hb);replace HBL:=zA (below_step HBL.out hb);replace HKD:=zA ((hb.block D (Array.getElem?_eq_some_iff.1 HKD.out).1).trans HKD.out);clear hbox hb hg))
   have hLs:∀ W',KpR w.heap.size gr w11 W'→Kd.C k50 W' A0 l0.length l0:=fun W' hk=>Kd.C_kept_came k50_heap HR0.out HBL.out (fun k hk=>hk.1) W' hk.kept
   have hVs:∀ W',KpR w.heap.size gr w11 W'→Kd.C (Kd.int .i64) W' A270 t269.length t269:=fun W' hk=>Kd.C_kept_own (Kd.R_bound HRV.out) (fun k hk hs=>by
    obtain ⟨_,_,_,q,hq,cs,hbk⟩:=hk
    have hq':q∈([3]:List Nat):=hq
    have e3:q=3:=by simpa using hq'
    subst e3
    obtain ⟨_,rfl|⟨cs',hc⟩⟩:=hs
    ·rw [BKR.out] at hbk;cases hbk
    ·rw [hc] at hbk;cases hbk) W' hk.kept
   have hcallS:=zA (solve_split.in_ w.heap.size gr GER.out w11 A0 c0 l0 HC0.out hLs k A270 c270 t269 0 0 [] (.slice none 0 0) q_ qb w11 (KpR.refl _) HBL.out.size hVs hc270.out BKR.out (Kd.R_nil _ _ _ _ _) AQ.out)
   refine hcallS.out.mono ?_
   clear hcallS hLs hVs
   rintro e w12 ⟨rfl,u_,hbr,hor,hkk⟩
   have n0_:=zA (KpR.blk hkk BK266.out N266.out (by decide))
   have n1_:=zA (KpR.blk hkk BK267.out N267.out (by decide))
   have n4_:=zA (KpR.other hkk HKD.out ND.out rfl)
   have n3_:=zA (HBL.out.trans (KpR.belowN hkk HBL.out.size))
   clear BK266 BK267 HBL HKD HRV BKR hkk
   have BK266:=n0_
   have BK267:=n1_
   have HBL:=n3_
   have HKD:=n4_
   have BKR:=zA hbr
   have HOR:=zA hor
   clear n0_ n1_ n3_ n4_ hbr hor
   have hcz0:w12.cell? ⟨gb266,0,none⟩=some (.slice none 0 0):=(blk_cell BK266.out 0).trans rfl
   have hfz0:=zf BK266 0
   have hcz1:w12.cell? ⟨gb267,0,none⟩=some (.int .i64 0):=(blk_cell BK267.out 0).trans rfl
   have hfz1:=zf BK267 0
   have hcz2:w12.cell? ⟨gr,0,none⟩=some u_:=(blk_cell BKR.out 0).trans rfl
   have hfz2:=blk_frozen BKR.out 0
   have hnb:=NB266_267.out
   have hnc:=NB267_266.out
   have e_:=HFQ.out
   obtain ⟨Ar,cr,rfl⟩:=Kd.R_slice HOR.out
   cases qb with
   | false=>
    simp only [solve_Refute.of,Bool.false_eq_true,if_false,Prod.mk.injEq] at e_
    obtain ⟨rfl,rfl⟩:=e_
    go_wp2
    have h2_:=two_set BK266.out BK267.out NB266_267.out (.slice none 0 0) (.int .i64 3)
    have hKD:=(two_keep w12 gb266 gb267 (.slice none 0 0) (.int .i64 3)).same D _ HKD.out rfl
    have hbl2:Below w.heap.size w ((w12.setCell ⟨gb266,0,none⟩ (.slice none 0 0)).setCell ⟨gb267,0,none⟩ (.int .i64 3)):=below_set (below_set HBL.out GE266.out) GE267.out
    refine ⟨by simp,.inl ⟨_,_,rfl,run_takeDeferred hKD,?_⟩⟩
    exact ⟨_,results_two rfl _ _ gb266 gb267 _ _ rfl rfl (run_loadVar_row _ _ 63 63 _ (0,0) _ (blk_deferred h2_.1 hKD _) Try.underlying63 rfl zK) (run_loadVar_one _ _ 26 26 _ (0,0) _ (blk_deferred h2_.2 hKD _) Try.underlying26 rfl),_,rfl,Kd.R_nil _ _ _ _ _,hbl2.grown (grownBy_putObj' _ D _) hbl2.size (fun k e=>by cases e;exact Nat.le_trans HB.out.size hD)⟩
   | true=>
    simp only [solve_Refute.of,if_true,Prod.mk.injEq] at e_
    obtain ⟨rfl,rfl⟩:=e_
    go_wp2
    have h2_:=two_set BK266.out BK267.out NB266_267.out (.slice Ar q_.length cr) (.int .i64 0)
    have hKD:=(two_keep w12 gb266 gb267 (.slice Ar q_.length cr) (.int .i64 0)).same D _ HKD.out rfl
    have hbl2:Below w.heap.size w ((w12.setCell ⟨gb266,0,none⟩ (.slice Ar q_.length cr)).setCell ⟨gb267,0,none⟩ (.int .i64 0)):=below_set (below_set HBL.out GE266.out) GE267.out
    have hR2:Kd.R k115 115 ((w12.setCell ⟨gb266,0,none⟩ (.slice Ar q_.length cr)).setCell ⟨gb267,0,none⟩ (.int .i64 0)) w.heap.size (fun _=>True) (.slice Ar q_.length cr) q_:=
     Kd.R_mono (Kd.R_far (p:=⟨gb267,0,none⟩) (Kd.R_far (p:=⟨gb266,0,none⟩) (Kd.R_types (Kd.R_types HOR.out BK266.out (by decide)) BK267.out (by decide)) (fun _ hk=>hk.1.2) _) (fun _ hk=>hk.2) _) (fun _ _=>trivial)
    refine ⟨by simp,.inl ⟨_,_,rfl,run_takeDeferred hKD,?_⟩⟩
    refine ⟨_,results_two rfl _ _ gb266 gb267 _ _ rfl rfl (run_loadVar_row _ _ 63 63 _ (0,0) _ (blk_deferred h2_.1 hKD _) Try.underlying63 rfl zK) (run_loadVar_one _ _ 26 26 _ (0,0) _ (blk_deferred h2_.2 hKD _) Try.underlying26 rfl),_,rfl,?_,hbl2.grown (grownBy_putObj' _ D _) hbl2.size (fun k e=>by cases e;exact Nat.le_trans HB.out.size hD)⟩
    exact Kd.R_mono (Kd.R_grown (Kd.R_bound hR2) (grownBy_putObj' _ D (.deferred none)) (fun k hk e=>by obtain ⟨_,_,_,q,_,cs,hb⟩:=hk;cases e;rw [hKD] at hb;cases hb)) (fun _ _=>trivial)
  case stop=>
   rintro D c pre W hD hSp ⟨rfl,⟨x,rfl⟩,hb1,hb2,hbl⟩ hK
   refine wpIn_wide.2 ?_
   go_wp2
   obtain ⟨z_,rfl⟩:=hSp
   have e_:=HFS.out
   rw [if_neg (by simp;omega)] at e_
   simp only [Option.some.injEq,Prod.mk.injEq] at e_
   obtain ⟨rfl,rfl⟩:=e_
   refine ⟨by simp,.inl ⟨_,_,rfl,run_takeDeferred hK,?_⟩⟩
   exact ⟨_,results_two rfl _ _ gb266 gb267 _ _ rfl rfl (run_loadVar_row _ _ 63 63 _ (0,0) _ (blk_deferred hb1 hK _) Try.underlying63 rfl zK) (run_loadVar_one _ _ 26 26 _ (0,0) _ (blk_deferred hb2 hK _) Try.underlying26 rfl),_,rfl,Kd.R_nil _ _ _ _ _,hbl.grown (grownBy_putObj' _ D _) hbl.size (fun k e=>by cases e;exact Nat.le_trans HB.out.size hD)⟩
 ·(first|rw [c7b0]|(simp only [i64_w,i32_w];rw [c7b0])|skip)
  (try rw [c7b1])
  simp only [Option.some.injEq,Prod.mk.injEq] at H
  obtain ⟨rfl,rfl⟩:=H
  have hnb13:=NB266_267.out
  have hnc13:=NB267_266.out
  have hcz14_0:=zc0 BK266
  have hfz14_0:=zf BK266 0
  have hcz15_0:=zc0 BK267
  have hfz15_0:=zf BK267 0
  go_wp2
  have h2_:=two_set BK266.out BK267.out NB266_267.out (.slice none 0 0) (.int .i64 t268)
  exact ⟨_,results_two rfl _ _ gb266 gb267 _ _ rfl rfl (run_loadVar_row _ _ 63 63 _ (0,0) _ h2_.1 Try.underlying63 rfl zK) (run_loadVar_one _ _ 26 26 _ (0,0) _ h2_.2 Try.underlying26 rfl),_,rfl,Kd.R_nil _ _ _ _ _,below_set (below_set HB.out GE266.out) GE267.out⟩
end
end Go.Proofs.Ytkjghablbeaioaa.G
