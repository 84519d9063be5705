import Derived.Test.YtngpkbbljnbojaaS0
import Derived.Test.YtngpkbbljnbojaaS11
import Derived.Test.YtngpkbbljnbojaaS12
namespace Go.Proofs.Ytngpkbbljnbojaa.S
open Go.RowKit Go.Proofs.YtngpkbbljnbojaaW.PrintWords Go.Proofs.YtngpkbbljnbojaaW.PrintLast Go.Proofs.YtngpkbbljnbojaaW.PrintMore
attribute [local go_sem] max2_int min2_int max_two min_two max_three min_three max_four min_four
set_option linter.unusedVariables false
set_option linter.unusedSimpArgs false
def ancepsref41_given.f (k:Nat) (l0:List (S34)):Option (Int):=(ancepsref40_Valid.f k l0).bind fun t642=>(if t642=0 then (if (l0.length:Int)>15 then (some 3) else (some 0)) else (some t642))
theorem ancepsref41_given.mono:∀ a0 k,LeO (ancepsref41_given.f k a0) (ancepsref41_given.f (k+1) a0):=by
 intro a0 k
 unfold ancepsref41_given.f
 repeat' first
   | (with_reducible exact ancepsref40_Valid.mono _ _)
   | (with_reducible exact LeO.refl _)
   | (with_reducible exact LeO.none _)
   | (with_reducible refine LeO.ite ?_ ?_)
   | (with_reducible refine LeO.bind ?_ (fun _=>?_))
   | exact LeO.none _
   | refine LeO.ite ?_ ?_
   | refine LeO.bind ?_ (fun _=>?_)
set_option maxHeartbeats 8000000 in
set_option maxRecDepth 100000 in
theorem ancepsref41_given.calls (k:Nat) (A0:Option Addr) (c0:Nat) (l0:List (S34)) (r:Int) (w:World) (hr0:Kd.C k34 w A0 l0.length l0) (hc0:l0.length≤c0) (h:ancepsref41_given.f k l0=some r) :
  Calls Try.prog 32 #[.slice A0 l0.length c0] w fun e w'=>e=.returned (.int .i64 r)∧Below w.heap.size w w':=by
 have HR0:=zA hr0
 have HC0:=zA hc0
 clear hr0 hc0
 have HB:=zA (Below.refl w.heap.size w)
 have H:((ancepsref40_Valid.f k l0).bind fun t642=>(if t642=0 then (if (l0.length:Int)>15 then (some 3) else (some 0)) else (some t642)))=some r:=h
 clear h
 replace H:=Option.bind_eq_some_iff.mp H
 obtain ⟨t642,A20,H⟩:=H
 replace H:(if t642=0 then (if (l0.length:Int)>15 then (some 3) else (some 0)) else (some t642))=some r:=H
 have A2:=zA A20
 clear A20
 have HC3:=zA H
 clear H
 go_enter Try.func32,Try.ntmps32
 go_upto_if 7 with (first|((with_reducible refine gate_callee (f:=26) rfl ?_);refine goesL_ (some 5) rfl rfl Try.func26 zK rfl #[.slice A0 l0.length c0] rfl zM ?_;(with_reducible refine (ancepsref40_Valid.calls k _ _ l0 t642 _ ?side1 ?side2 A2.out).mono ?_);(case side1=>repeat (first|exact HR0.out|(with_reducible refine Kd.C_alloc ?_ _)|(with_reducible refine Kd.C_drewN ?_ _)|(with_reducible refine Kd.C_drew ?_)));(case side2=>exact HC0.out);rintro e w4 ⟨rfl,hb⟩;refine ⟨_,rfl,?_⟩;replace HB:=zA (below_step zB hb);(try clear hb);(try clear hb2);(try clear hk);(try clear hi)))
 (try simp only [Act.put,zi,zs,zt])
 have H:=HC3.out
 clear HC3
 by_cases c5:t642=0
 ·rw [if_pos c5] at H
  have c5b0:(t642 == 0)=true:=beq_iff_eq.mpr c5
  have c5b1:(t642 != 0)=false:=bne_eq_false_iff_eq.mpr c5
  clear c5
  (first|rw [c5b0]|(simp only [i64_w,i32_w];rw [c5b0])|skip)
  (try rw [c5b1])
  by_cases c6:(l0.length:Int)>15
  ·rw [if_pos c6] at H
   have c6b0:decide (15<(l0.length:Int))=true:=decide_eq_true c6
   have c6b1:decide (15<l0.length)=true:=decide_eq_true (by omega)
   clear c6
   obtain rfl:=Option.some.inj H
   go_wp2
   go_ret
   exact ⟨ze,by repeat (first|(with_reducible first|exact HB.out|apply below_alloc|apply pw_below_drewN|apply below_drew1)|exact HB.out)⟩
  ·rw [if_neg c6] at H
   have c6b0:decide (15<(l0.length:Int))=false:=decide_eq_false c6
   have c6b1:decide (15<l0.length)=false:=decide_eq_false (by omega)
   clear c6
   obtain rfl:=Option.some.inj H
   go_wp2
   go_ret
   exact ⟨ze,by repeat (first|(with_reducible first|exact HB.out|apply below_alloc|apply pw_below_drewN|apply below_drew1)|exact HB.out)⟩
 ·rw [if_neg c5] at H
  have c5b0:(t642 == 0)=false:=beq_eq_false_iff_ne.mpr c5
  have c5b1:(t642 != 0)=true:=bne_iff_ne.mpr c5
  (first|rw [c5b0]|(simp only [i64_w,i32_w];rw [c5b0])|skip)
  (try rw [c5b1])
  obtain rfl:=Option.some.inj H
  go_wp2
  go_ret
  exact ⟨ze,by repeat (first|(with_reducible first|exact HB.out|apply below_alloc|apply pw_below_drewN|apply below_drew1)|exact HB.out)⟩
def ancepsref38_Assignment.l0:Nat→List Int→Int→Int→Int→Option (Int)
 | 0,_,_,_,_=>none
 | k+1,x0,x1,x5,x6=>if x6<(x0.length:Int) then (if 0≤x6 then (if 0≤(rd x0 x6) then (ancepsref38_Assignment.l0 k x0 x1 (wrap64 (x5+(shl .i64 (Int.tmod (shr .i64 x1 x6) 2) (rd x0 x6)))) (wrap64 (x6+1))) else (none)) else (none)) else (some x5)
def ancepsref38_Assignment.f (k:Nat) (l0:List Int) (a1:Int):Option (Int):=ancepsref38_Assignment.l0 k l0 a1 0 0
theorem ancepsref38_Assignment.mono_l:∀ k,(∀ y0 y1 y2 y3,LeO (ancepsref38_Assignment.l0 k y0 y1 y2 y3) (ancepsref38_Assignment.l0 (k+1) y0 y1 y2 y3))
 | 0=>fun _ _ _ _ r h=>by simp [ancepsref38_Assignment.l0] at h
 | k+1=>by
  have ih0:=ancepsref38_Assignment.mono_l k
  ·intro y0 y1 y2 y3
   unfold ancepsref38_Assignment.l0
   repeat' first
   | (with_reducible exact ih0 _ _ _ _)
   | (with_reducible exact LeO.refl _)
   | (with_reducible exact LeO.none _)
   | (with_reducible refine LeO.ite ?_ ?_)
   | (with_reducible refine LeO.bind ?_ (fun _=>?_))
   | exact LeO.none _
   | refine LeO.ite ?_ ?_
   | refine LeO.bind ?_ (fun _=>?_)
theorem ancepsref38_Assignment.mono:∀ a0 a1 k,LeO (ancepsref38_Assignment.f k a0 a1) (ancepsref38_Assignment.f (k+1) a0 a1):=by
 intro a0 a1 k
 have ih0:=ancepsref38_Assignment.mono_l k
 unfold ancepsref38_Assignment.f
 repeat' first
   | (with_reducible exact ih0 _ _ _ _)
   | (with_reducible exact LeO.refl _)
   | (with_reducible exact LeO.none _)
   | (with_reducible refine LeO.ite ?_ ?_)
   | (with_reducible refine LeO.bind ?_ (fun _=>?_))
   | exact LeO.none _
   | refine LeO.ite ?_ ?_
   | refine LeO.bind ?_ (fun _=>?_)
set_option maxHeartbeats 8000000 in
set_option maxRecDepth 100000 in
theorem ancepsref38_Assignment.calls (k:Nat) (A0:Option Addr) (c0:Nat) (l0:List Int) (a1:Int) (r:Int) (w:World) (hr0:Kd.C (Kd.int .i64) w A0 l0.length l0) (hc0:l0.length≤c0) (h:ancepsref38_Assignment.f k l0 a1=some r) :
  Calls Try.prog 55 #[.slice A0 l0.length c0,.int .i64 a1] w fun e w'=>e=.returned (.int .i64 r)∧Drawn0 w w':=by
 have hu3:=Try.underlying3
 have HR0:=zA hr0
 have HC0:=zA hc0
 clear hr0 hc0
 have H:(ancepsref38_Assignment.l0 k l0 a1 0 0)=some r:=h
 clear h
 have H':=zA H
 clear H
 go_enter Try.func55,Try.ntmps55
 go_wp2
 repeat (go_quiet (fail);try go_wp2)
 go_loopg [5,6] k (fun kq v5 v6 w'=>∃ (x5_1:Int) (x6_1:Int),v5=.int .i64 x5_1∧v6=.int .i64 x6_1∧Aside0 (ancepsref38_Assignment.l0 kq l0 a1 x5_1 x6_1=some r)∧Aside0 (kq≤k)∧Drawn0 w w')
 case atStart=>exact ⟨(0),(0),zT,zT,H',⟨Nat.le_refl _⟩,by repeat (first|exact Drawn0.refl _|apply Drawn0.step)⟩
 case round=>
  clear H'
  obtain ⟨x5_1,x6_1,rfl,rfl,HA,HK1,⟨m1,rfl⟩⟩:=hrel
  cases gk with
  | zero=>exact absurd HA.out (by simp [ancepsref38_Assignment.l0])
  | succ k1=>
   have H:=HA.out
   clear HA
   simp only [ancepsref38_Assignment.l0] at H
   by_cases c3:x6_1<(l0.length:Int)
   ·rw [if_pos c3] at H
    have c3b0:decide (x6_1<(l0.length:Int))=true:=decide_eq_true c3
    clear c3
    by_cases c4:0≤x6_1
    ·rw [if_pos c4] at H
     have c4b0:=eq_true c4
     have c4b1:decide (0≤x6_1)=true:=decide_eq_true c4
     clear c4
     obtain ⟨ji5,hji5⟩:∃ j_:Int,(shr .i64 a1 x6_1)=j_:=⟨_,rfl⟩
     replace H:(if 0≤(rd l0 x6_1) then (ancepsref38_Assignment.l0 k1 l0 a1 (wrap64 (x5_1+(shl .i64 (Int.tmod (ji5) 2) (rd l0 x6_1)))) (wrap64 (x6_1+1))) else (none))=some r:=by first|(rw [hji5] at H;exact H)|(simp only [hji5] at H ⊢;exact H)
     have hji5_:(a1 / 2 ^ min x6_1.toNat 64)=ji5:=hji5
     have hji5z:x6_1≤64→(a1 / 2 ^ x6_1.toNat)=ji5:=shr_small hji5
     by_cases c6:0≤(rd l0 x6_1)
     ·rw [if_pos c6] at H
      have c6b0:=eq_true c6
      have c6b1:decide (0≤(rd l0 x6_1))=true:=decide_eq_true c6
      clear c6
      obtain ⟨ji7,hji7⟩:∃ j_:Int,(shl .i64 (Int.tmod (ji5) 2) (rd l0 x6_1))=j_:=⟨_,rfl⟩
      replace H:(ancepsref38_Assignment.l0 k1 l0 a1 (wrap64 (x5_1+(ji7))) (wrap64 (x6_1+1)))=some r:=by first|(rw [hji7] at H;exact H)|(simp only [hji7] at H ⊢;exact H)
      have hji7_:(IntKind.i64.wrap ((Int.tmod (ji5) 2) * 2 ^ min (rd l0 x6_1).toNat 64))=ji7:=hji7
      have hji7z:(rd l0 x6_1)≤64→(IntKind.i64.wrap ((Int.tmod (ji5) 2) * 2 ^ (rd l0 x6_1).toNat))=ji7:=shl_small hji7
      have hji7y:(wrap64 ((Int.tmod (ji5) 2) * 2 ^ min (rd l0 x6_1).toNat 64))=ji7:=(i64_w _).symm.trans hji7_
      have hji7x:(rd l0 x6_1)≤64→(wrap64 ((Int.tmod (ji5) 2) * 2 ^ (rd l0 x6_1).toNat))=ji7:=fun h_=>(i64_w _).symm.trans (hji7z h_)
      have H':=zA H
      clear H
      have p643:0≤(x6_1:Int):=of_decide_eq_true zh
      have q643:x6_1<(l0.length:Int):=of_decide_eq_true zh
      obtain ⟨ad643,e643,hx643_0⟩:=Kd.at_int HR0.out x6_1 p643 q643
      cases e643
      replace p643:=eq_true p643
      replace q643:=eq_true q643
      go_wp2
      repeat (go_quiet (fail);try go_wp2)
      go_roundg k1
      case measure=>have:=HK1.out;omega
      case rel=>exact ⟨(wrap64 (x5_1+(ji7))),(wrap64 (x6_1+1)),(by first|rfl|(simp;done)|(simp only [← hji7] <;> (first|rfl|simp))|(simp [*];done)),zT,H',⟨by have:=HK1.out;omega⟩,by repeat (first|exact Drawn0.refl _|apply Drawn0.step)⟩
     ·rw [if_neg c6] at H
      exact absurd H (by simp)
    ·rw [if_neg c4] at H
     exact absurd H (by simp)
   ·rw [if_neg c3] at H
    have c3b0:decide (x6_1<(l0.length:Int))=false:=decide_eq_false c3
    clear c3
    obtain rfl:=Option.some.inj H
    go_wp2
    repeat (go_quiet (fail);try go_wp2)
    go_ret
    exact ⟨by first|rfl|(simp;done)|(simp [*];done),by repeat (first|exact Drawn0.refl _|apply Drawn0.step)⟩
def ancepsref38_in.l0:Nat→List Int→Int→Int→Option (Bool)
 | 0,_,_,_=>none
 | k+1,x0,x1,x5=>if x5<(x0.length:Int) then (if 0≤x5 then (if (rd x0 x5)=x1 then (some true) else (ancepsref38_in.l0 k x0 x1 (wrap64 (x5+1)))) else (none)) else (some false)
def ancepsref38_in.f (k:Nat) (l0:List Int) (a1:Int):Option (Bool):=ancepsref38_in.l0 k l0 a1 0
theorem ancepsref38_in.mono_l:∀ k,(∀ y0 y1 y2,LeO (ancepsref38_in.l0 k y0 y1 y2) (ancepsref38_in.l0 (k+1) y0 y1 y2))
 | 0=>fun _ _ _ r h=>by simp [ancepsref38_in.l0] at h
 | k+1=>by
  have ih0:=ancepsref38_in.mono_l k
  ·intro y0 y1 y2
   unfold ancepsref38_in.l0
   repeat' first
   | (with_reducible exact ih0 _ _ _)
   | (with_reducible exact LeO.refl _)
   | (with_reducible exact LeO.none _)
   | (with_reducible refine LeO.ite ?_ ?_)
   | (with_reducible refine LeO.bind ?_ (fun _=>?_))
   | exact LeO.none _
   | refine LeO.ite ?_ ?_
   | refine LeO.bind ?_ (fun _=>?_)
theorem ancepsref38_in.mono:∀ a0 a1 k,LeO (ancepsref38_in.f k a0 a1) (ancepsref38_in.f (k+1) a0 a1):=by
 intro a0 a1 k
 have ih0:=ancepsref38_in.mono_l k
 unfold ancepsref38_in.f
 repeat' first
   | (with_reducible exact ih0 _ _ _)
   | (with_reducible exact LeO.refl _)
   | (with_reducible exact LeO.none _)
   | (with_reducible refine LeO.ite ?_ ?_)
   | (with_reducible refine LeO.bind ?_ (fun _=>?_))
   | exact LeO.none _
   | refine LeO.ite ?_ ?_
   | refine LeO.bind ?_ (fun _=>?_)
set_option maxHeartbeats 8000000 in
set_option maxRecDepth 100000 in
theorem ancepsref38_in.calls (k:Nat) (A0:Option Addr) (c0:Nat) (l0:List Int) (a1:Int) (r:Bool) (w:World) (hr0:Kd.C (Kd.int .i64) w A0 l0.length l0) (hc0:l0.length≤c0) (h:ancepsref38_in.f k l0 a1=some r) :
  Calls Try.prog 69 #[.slice A0 l0.length c0,.int .i64 a1] w fun e w'=>e=.returned (.bool r)∧Drawn0 w w':=by
 have hu3:=Try.underlying3
 have HR0:=zA hr0
 have HC0:=zA hc0
 clear hr0 hc0
 have H:(ancepsref38_in.l0 k l0 a1 0)=some r:=h
 clear h
 have H':=zA H
 clear H
 go_enter Try.func69,Try.ntmps69
 go_wp2
 go_loopg [5] k (fun kq v5 w'=>∃ (x5_1:Int),v5=.int .i64 x5_1∧Aside0 (ancepsref38_in.l0 kq l0 a1 x5_1=some r)∧Aside0 (kq≤k)∧Drawn0 w w')
 case atStart=>exact ⟨(0),zT,H',⟨Nat.le_refl _⟩,by repeat (first|exact Drawn0.refl _|apply Drawn0.step)⟩
 case round=>
  clear H'
  obtain ⟨x5_1,rfl,HA,HK1,⟨m1,rfl⟩⟩:=hrel
  cases gk with
  | zero=>exact absurd HA.out (by simp [ancepsref38_in.l0])
  | succ k1=>
   have H:=HA.out
   clear HA
   simp only [ancepsref38_in.l0] at H
   by_cases c3:x5_1<(l0.length:Int)
   ·rw [if_pos c3] at H
    have c3b0:decide (x5_1<(l0.length:Int))=true:=decide_eq_true c3
    clear c3
    by_cases c4:0≤x5_1
    ·rw [if_pos c4] at H
     have c4b0:decide (0≤x5_1)=true:=decide_eq_true c4
     clear c4
     by_cases c5:(rd l0 x5_1)=a1
     ·rw [if_pos c5] at H
      have c5b0:((rd l0 x5_1) == a1)=true:=beq_iff_eq.mpr c5
      have c5b1:((rd l0 x5_1) != a1)=false:=bne_eq_false_iff_eq.mpr c5
      clear c5
      obtain rfl:=Option.some.inj H
      have p644:0≤(x5_1:Int):=of_decide_eq_true zh
      have q644:x5_1<(l0.length:Int):=of_decide_eq_true zh
      obtain ⟨ad644,e644,hx644_0⟩:=Kd.at_int HR0.out x5_1 p644 q644
      cases e644
      replace p644:=eq_true p644
      replace q644:=eq_true q644
      go_wp2
      go_ret
      exact ⟨by first|rfl|(simp;done)|(simp [*];done),by repeat (first|exact Drawn0.refl _|apply Drawn0.step)⟩
     ·rw [if_neg c5] at H
      have c5b0:((rd l0 x5_1) == a1)=false:=beq_eq_false_iff_ne.mpr c5
      have c5b1:((rd l0 x5_1) != a1)=true:=bne_iff_ne.mpr c5
      have H':=zA H
      clear H
      have p644:0≤(x5_1:Int):=of_decide_eq_true zh
      have q644:x5_1<(l0.length:Int):=of_decide_eq_true zh
      obtain ⟨ad644,e644,hx644_0⟩:=Kd.at_int HR0.out x5_1 p644 q644
      cases e644
      replace p644:=eq_true p644
      replace q644:=eq_true q644
      go_wp2
      go_roundg k1
      case measure=>have:=HK1.out;omega
      case rel=>exact ⟨(wrap64 (x5_1+1)),zT,H',⟨by have:=HK1.out;omega⟩,by repeat (first|exact Drawn0.refl _|apply Drawn0.step)⟩
    ·rw [if_neg c4] at H
     exact absurd H (by simp)
   ·rw [if_neg c3] at H
    have c3b0:decide (x5_1<(l0.length:Int))=false:=decide_eq_false c3
    clear c3
    obtain rfl:=Option.some.inj H
    go_wp2
    go_ret
    exact ⟨by first|rfl|(simp;done)|(simp [*];done),by repeat (first|exact Drawn0.refl _|apply Drawn0.step)⟩
def ancepsref38_Row.l0:Nat→List Int→Int→Int→Int→Option (Int)
 | 0,_,_,_,_=>none
 | k+1,x0,x1,x5,x6=>if x6<(x0.length:Int) then (if 0≤x6 then (if 0≤(rd x0 x6) then (ancepsref38_Row.l0 k x0 x1 (wrap64 (x5+(shl .i64 (Int.tmod (shr .i64 x1 (rd x0 x6)) 2) x6))) (wrap64 (x6+1))) else (none)) else (none)) else (some x5)
def ancepsref38_Row.f (k:Nat) (l0:List Int) (a1:Int):Option (Int):=ancepsref38_Row.l0 k l0 a1 0 0
theorem ancepsref38_Row.mono_l:∀ k,(∀ y0 y1 y2 y3,LeO (ancepsref38_Row.l0 k y0 y1 y2 y3) (ancepsref38_Row.l0 (k+1) y0 y1 y2 y3))
 | 0=>fun _ _ _ _ r h=>by simp [ancepsref38_Row.l0] at h
 | k+1=>by
  have ih0:=ancepsref38_Row.mono_l k
  ·intro y0 y1 y2 y3
   unfold ancepsref38_Row.l0
   repeat' first
   | (with_reducible exact ih0 _ _ _ _)
   | (with_reducible exact LeO.refl _)
   | (with_reducible exact LeO.none _)
   | (with_reducible refine LeO.ite ?_ ?_)
   | (with_reducible refine LeO.bind ?_ (fun _=>?_))
   | exact LeO.none _
   | refine LeO.ite ?_ ?_
   | refine LeO.bind ?_ (fun _=>?_)
theorem ancepsref38_Row.mono:∀ a0 a1 k,LeO (ancepsref38_Row.f k a0 a1) (ancepsref38_Row.f (k+1) a0 a1):=by
 intro a0 a1 k
 have ih0:=ancepsref38_Row.mono_l k
 unfold ancepsref38_Row.f
 repeat' first
   | (with_reducible exact ih0 _ _ _ _)
   | (with_reducible exact LeO.refl _)
   | (with_reducible exact LeO.none _)
   | (with_reducible refine LeO.ite ?_ ?_)
   | (with_reducible refine LeO.bind ?_ (fun _=>?_))
   | exact LeO.none _
   | refine LeO.ite ?_ ?_
   | refine LeO.bind ?_ (fun _=>?_)
set_option maxHeartbeats 8000000 in
set_option maxRecDepth 100000 in
theorem ancepsref38_Row.calls (k:Nat) (A0:Option Addr) (c0:Nat) (l0:List Int) (a1:Int) (r:Int) (w:World) (hr0:Kd.C (Kd.int .i64) w A0 l0.length l0) (hc0:l0.length≤c0) (h:ancepsref38_Row.f k l0 a1=some r) :
  Calls Try.prog 70 #[.slice A0 l0.length c0,.int .i64 a1] w fun e w'=>e=.returned (.int .i64 r)∧Drawn0 w w':=by
 have hu3:=Try.underlying3
 have HR0:=zA hr0
 have HC0:=zA hc0
 clear hr0 hc0
 have H:(ancepsref38_Row.l0 k l0 a1 0 0)=some r:=h
 clear h
 have H':=zA H
 clear H
 go_enter Try.func70,Try.ntmps70
 go_wp2
 go_loopg [5,6] k (fun kq v5 v6 w'=>∃ (x5_1:Int) (x6_1:Int),v5=.int .i64 x5_1∧v6=.int .i64 x6_1∧Aside0 (ancepsref38_Row.l0 kq l0 a1 x5_1 x6_1=some r)∧Aside0 (kq≤k)∧Drawn0 w w')
 case atStart=>exact ⟨(0),(0),zT,zT,H',⟨Nat.le_refl _⟩,by repeat (first|exact Drawn0.refl _|apply Drawn0.step)⟩
 case round=>
  clear H'
  obtain ⟨x5_1,x6_1,rfl,rfl,HA,HK1,⟨m1,rfl⟩⟩:=hrel
  cases gk with
  | zero=>exact absurd HA.out (by simp [ancepsref38_Row.l0])
  | succ k1=>
   have H:=HA.out
   clear HA
   simp only [ancepsref38_Row.l0] at H
   by_cases c3:x6_1<(l0.length:Int)
   ·rw [if_pos c3] at H
    have c3b0:decide (x6_1<(l0.length:Int))=true:=decide_eq_true c3
    clear c3
    by_cases c4:0≤x6_1
    ·rw [if_pos c4] at H
     have c4b0:decide (0≤x6_1)=true:=decide_eq_true c4
     clear c4
     by_cases c5:0≤(rd l0 x6_1)
     ·rw [if_pos c5] at H
      have c5b0:=eq_true c5
      have c5b1:decide (0≤(rd l0 x6_1))=true:=decide_eq_true c5
      clear c5
      obtain ⟨ji6,hji6⟩:∃ j_:Int,(shr .i64 a1 (rd l0 x6_1))=j_:=⟨_,rfl⟩
      replace H:(ancepsref38_Row.l0 k1 l0 a1 (wrap64 (x5_1+(shl .i64 (Int.tmod (ji6) 2) x6_1))) (wrap64 (x6_1+1)))=some r:=by first|(rw [hji6] at H;exact H)|(simp only [hji6] at H ⊢;exact H)
      have hji6_:(a1 / 2 ^ min (rd l0 x6_1).toNat 64)=ji6:=hji6
      have hji6z:(rd l0 x6_1)≤64→(a1 / 2 ^ (rd l0 x6_1).toNat)=ji6:=shr_small hji6
      have c7b0:=eq_true (of_decide_eq_true zh:0≤x6_1)
      obtain ⟨ji8,hji8⟩:∃ j_:Int,(shl .i64 (Int.tmod (ji6) 2) x6_1)=j_:=⟨_,rfl⟩
      replace H:(ancepsref38_Row.l0 k1 l0 a1 (wrap64 (x5_1+(ji8))) (wrap64 (x6_1+1)))=some r:=by first|(rw [hji8] at H;exact H)|(simp only [hji8] at H ⊢;exact H)
      have hji8_:(IntKind.i64.wrap ((Int.tmod (ji6) 2) * 2 ^ min x6_1.toNat 64))=ji8:=hji8
      have hji8z:x6_1≤64→(IntKind.i64.wrap ((Int.tmod (ji6) 2) * 2 ^ x6_1.toNat))=ji8:=shl_small hji8
      have hji8y:(wrap64 ((Int.tmod (ji6) 2) * 2 ^ min x6_1.toNat 64))=ji8:=(i64_w _).symm.trans hji8_
      have hji8x:x6_1≤64→(wrap64 ((Int.tmod (ji6) 2) * 2 ^ x6_1.toNat))=ji8:=fun h_=>(i64_w _).symm.trans (hji8z h_)
      have H':=zA H
      clear H
      have p645:0≤(x6_1:Int):=of_decide_eq_true zh
      have q645:x6_1<(l0.length:Int):=of_decide_eq_true zh
      obtain ⟨ad645,e645,hx645_0⟩:=Kd.at_int HR0.out x6_1 p645 q645
      cases e645
      replace p645:=eq_true p645
      replace q645:=eq_true q645
      go_wp2
      go_roundg k1
      case measure=>have:=HK1.out;omega
      case rel=>exact ⟨(wrap64 (x5_1+(ji8))),(wrap64 (x6_1+1)),(by first|rfl|(simp;done)|(simp only [← hji8] <;> (first|rfl|simp))|(simp [*];done)),zT,H',⟨by have:=HK1.out;omega⟩,by repeat (first|exact Drawn0.refl _|apply Drawn0.step)⟩
     ·rw [if_neg c5] at H
      exact absurd H (by simp)
    ·rw [if_neg c4] at H
     exact absurd H (by simp)
   ·rw [if_neg c3] at H
    have c3b0:decide (x6_1<(l0.length:Int))=false:=decide_eq_false c3
    clear c3
    obtain rfl:=Option.some.inj H
    go_wp2
    go_ret
    exact ⟨by first|rfl|(simp;done)|(simp [*];done),by repeat (first|exact Drawn0.refl _|apply Drawn0.step)⟩
def ancepsref38_Holds.f (k:Nat) (l0_0:List Int) (l0_1:List Int) (a1:Int):Option (Bool):=(ancepsref38_Row.f k l0_0 a1).bind fun t647=>((ancepsref38_in.f k l0_1 t647).bind fun t648=>(some t648))
theorem ancepsref38_Holds.mono:∀ a0 a1 a2 k,LeO (ancepsref38_Holds.f k a0 a1 a2) (ancepsref38_Holds.f (k+1) a0 a1 a2):=by
 intro a0 a1 a2 k
 unfold ancepsref38_Holds.f
 repeat' first
   | (with_reducible exact ancepsref38_Row.mono _ _ _)
   | (with_reducible exact ancepsref38_in.mono _ _ _)
   | (with_reducible exact LeO.refl _)
   | (with_reducible exact LeO.none _)
   | (with_reducible refine LeO.ite ?_ ?_)
   | (with_reducible refine LeO.bind ?_ (fun _=>?_))
   | exact LeO.none _
   | refine LeO.ite ?_ ?_
   | refine LeO.bind ?_ (fun _=>?_)
set_option maxHeartbeats 8000000 in
set_option maxRecDepth 100000 in
theorem ancepsref38_Holds.calls (k:Nat) (A0_0:Option Addr) (c0_0:Nat) (l0_0:List Int) (A0_1:Option Addr) (c0_1:Nat) (l0_1:List Int) (a1:Int) (r:Bool) (w:World) (hr0_0:Kd.C (Kd.int .i64) w A0_0 l0_0.length l0_0) (hc0_0:l0_0.length≤c0_0) (hr0_1:Kd.C (Kd.int .i64) w A0_1 l0_1.length l0_1) (hc0_1:l0_1.length≤c0_1) (h:ancepsref38_Holds.f k l0_0 l0_1 a1=some r) :
  Calls Try.prog 56 #[.agg #[.slice A0_0 l0_0.length c0_0,.slice A0_1 l0_1.length c0_1],.int .i64 a1] w fun e w'=>e=.returned (.bool r)∧Below w.heap.size w w':=by
 have hu34:=Try.underlying34
 have hu29:=Try.underlying29
 have HR0_0:=zA hr0_0
 have HC0_0:=zA hc0_0
 clear hr0_0 hc0_0
 have HR0_1:=zA hr0_1
 have HC0_1:=zA hc0_1
 clear hr0_1 hc0_1
 have HB:=zA (Below.refl w.heap.size w)
 have H:((ancepsref38_Row.f k l0_0 a1).bind fun t647=>((ancepsref38_in.f k l0_1 t647).bind fun t648=>(some t648)))=some r:=h
 clear h
 replace H:=Option.bind_eq_some_iff.mp H
 obtain ⟨t647,A30,H⟩:=H
 replace H:((ancepsref38_in.f k l0_1 t647).bind fun t648=>(some t648))=some r:=H
 have A3:=zA A30
 clear A30
 replace H:=Option.bind_eq_some_iff.mp H
 obtain ⟨t648,A40,H⟩:=H
 replace H:(some t648)=some r:=H
 have A4:=zA A40
 clear A40
 obtain rfl:=Option.some.inj H
 go_enter Try.func56,Try.ntmps56
 go_wp2_with (first|((with_reducible refine gate_dst (N:=2) rfl ?_);refine box_event ?hg (N:=2) ?hd (cs:=#[.slice A0_0 l0_0.length c0_0,.slice A0_1 l0_1.length c0_1]) (t:=34) ?hr ?_;(case hd=>rfl);(case hg=>rfl);(case hr=>first|(go_simp;done)|(go_simp;rfl));intro gb646 hg w5 hbox hb;have BK646:=zA (hbox);have GW646:=zA (zG hg (below_size zB):w.heap.size≤gb646);have GE646:=GW646;replace HB:=zA (below_step zB hb);clear hb hbox hg;have hcz6_0:w5.cell? ⟨gb646,0,none⟩=some (.slice A0_0 l0_0.length c0_0):=(blk_cell BK646.out 0).trans rfl;have hcz6_1:w5.cell? ⟨gb646,1,none⟩=some (.slice A0_1 l0_1.length c0_1):=(blk_cell BK646.out 1).trans rfl;have hfz6_0:=blk_frozen BK646.out 0;have hfz6_1:=blk_frozen BK646.out 1)|(go_at_call 70;(with_reducible refine (ancepsref38_Row.calls k _ _ l0_0 a1 t647 _ ?side1 ?side2 A3.out).mono ?_);(case side1=>exact zC (Kd.C_below HR0_0.out HB.out));(case side2=>exact HC0_0.out);rintro e w' ⟨rfl,⟨nd,rfl⟩⟩;(try first|exact ⟨rfl,_,World.drewN_drewN _ _ _⟩|exact ⟨rfl,_,Eq.trans (World.drewN_drewN _ _ _) (congrArg (World.drewN _) (Nat.add_assoc _ _ _))⟩))|(go_at_call 69;(with_reducible refine (ancepsref38_in.calls k _ _ l0_1 t647 t648 _ ?side1 ?side2 A4.out).mono ?_);(case side1=>repeat (first|exact (Kd.C_below HR0_1.out zB)|(with_reducible refine Kd.C_alloc ?_ _)|(with_reducible refine Kd.C_drewN ?_ _)|(with_reducible refine Kd.C_drew ?_)));(case side2=>exact HC0_1.out);rintro e w' ⟨rfl,⟨nd,rfl⟩⟩;(try first|exact ⟨rfl,_,World.drewN_drewN _ _ _⟩|exact ⟨rfl,_,Eq.trans (World.drewN_drewN _ _ _) (congrArg (World.drewN _) (Nat.add_assoc _ _ _))⟩)))
 repeat (go_quiet (first|((with_reducible refine gate_dst (N:=2) rfl ?_);refine box_event ?hg (N:=2) ?hd (cs:=#[.slice A0_0 l0_0.length c0_0,.slice A0_1 l0_1.length c0_1]) (t:=34) ?hr ?_;(case hd=>rfl);(case hg=>rfl);(case hr=>first|(go_simp;done)|(go_simp;rfl));intro gb646 hg w5 hbox hb;have BK646:=zA (hbox);have GW646:=zA (zG hg (below_size zB):w.heap.size≤gb646);have GE646:=GW646;replace HB:=zA (below_step zB hb);clear hb hbox hg;have hcz6_0:w5.cell? ⟨gb646,0,none⟩=some (.slice A0_0 l0_0.length c0_0):=(blk_cell BK646.out 0).trans rfl;have hcz6_1:w5.cell? ⟨gb646,1,none⟩=some (.slice A0_1 l0_1.length c0_1):=(blk_cell BK646.out 1).trans rfl;have hfz6_0:=blk_frozen BK646.out 0;have hfz6_1:=blk_frozen BK646.out 1)|(go_at_call 70;(with_reducible refine (ancepsref38_Row.calls k _ _ l0_0 a1 t647 _ ?side1 ?side2 A3.out).mono ?_);(case side1=>exact zC (Kd.C_below HR0_0.out HB.out));(case side2=>exact HC0_0.out);rintro e w' ⟨rfl,⟨nd,rfl⟩⟩;(try first|exact ⟨rfl,_,World.drewN_drewN _ _ _⟩|exact ⟨rfl,_,Eq.trans (World.drewN_drewN _ _ _) (congrArg (World.drewN _) (Nat.add_assoc _ _ _))⟩))|(go_at_call 69;(with_reducible refine (ancepsref38_in.calls k _ _ l0_1 t647 t648 _ ?side1 ?side2 A4.out).mono ?_);(case side1=>repeat (first|exact (Kd.C_below HR0_1.out zB)|(with_reducible refine Kd.C_alloc ?_ _)|(with_reducible refine Kd.C_drewN ?_ _)|(with_reducible refine Kd.C_drew ?_)));(case side2=>exact HC0_1.out);rintro e w' ⟨rfl,⟨nd,rfl⟩⟩;(try first|exact ⟨rfl,_,World.drewN_drewN _ _ _⟩|exact ⟨rfl,_,Eq.trans (World.drewN_drewN _ _ _) (congrArg (World.drewN _) (Nat.add_assoc _ _ _))⟩)));try go_wp2_with (first|((with_reducible refine gate_dst (N:=2) rfl ?_);refine box_event ?hg (N:=2) ?hd (cs:=#[.slice A0_0 l0_0.length c0_0,.slice A0_1 l0_1.length c0_1]) (t:=34) ?hr ?_;(case hd=>rfl);(case hg=>rfl);(case hr=>first|(go_simp;done)|(go_simp;rfl));intro gb646 hg w5 hbox hb;have BK646:=zA (hbox);have GW646:=zA (zG hg (below_size zB):w.heap.size≤gb646);have GE646:=GW646;replace HB:=zA (below_step zB hb);clear hb hbox hg;have hcz6_0:w5.cell? ⟨gb646,0,none⟩=some (.slice A0_0 l0_0.length c0_0):=(blk_cell BK646.out 0).trans rfl;have hcz6_1:w5.cell? ⟨gb646,1,none⟩=some (.slice A0_1 l0_1.length c0_1):=(blk_cell BK646.out 1).trans rfl;have hfz6_0:=blk_frozen BK646.out 0;have hfz6_1:=blk_frozen BK646.out 1)|(go_at_call 70;(with_reducible refine (ancepsref38_Row.calls k _ _ l0_0 a1 t647 _ ?side1 ?side2 A3.out).mono ?_);(case side1=>exact zC (Kd.C_below HR0_0.out HB.out));(case side2=>exact HC0_0.out);rintro e w' ⟨rfl,⟨nd,rfl⟩⟩;(try first|exact ⟨rfl,_,World.drewN_drewN _ _ _⟩|exact ⟨rfl,_,Eq.trans (World.drewN_drewN _ _ _) (congrArg (World.drewN _) (Nat.add_assoc _ _ _))⟩))|(go_at_call 69;(with_reducible refine (ancepsref38_in.calls k _ _ l0_1 t647 t648 _ ?side1 ?side2 A4.out).mono ?_);(case side1=>repeat (first|exact (Kd.C_below HR0_1.out zB)|(with_reducible refine Kd.C_alloc ?_ _)|(with_reducible refine Kd.C_drewN ?_ _)|(with_reducible refine Kd.C_drew ?_)));(case side2=>exact HC0_1.out);rintro e w' ⟨rfl,⟨nd,rfl⟩⟩;(try first|exact ⟨rfl,_,World.drewN_drewN _ _ _⟩|exact ⟨rfl,_,Eq.trans (World.drewN_drewN _ _ _) (congrArg (World.drewN _) (Nat.add_assoc _ _ _))⟩))))
 go_ret
 exact ⟨ze,by repeat (first|(with_reducible first|exact HB.out|apply below_alloc|apply pw_below_drewN|apply below_drew1|refine below_set ?_ GE646.out)|exact HB.out)⟩
mutual
def ancepsref40_solutions.l0:Nat→List (S34)→Int→List Int→List Int→Int→Option (List Int)
 | 0,_,_,_,_,_=>none
 | k+1,x0,x1,x5,x6,x7=>if x7<(shl .i64 1 (x5.length:Int)) then (if (x6.length:Int)<x1 then ((ancepsref38_Assignment.f k x5 x7).bind fun t652=>(ancepsref40_solutions.l1 k x0 x1 x5 x6 x7 t652 true 0)) else (some x6)) else (some x6)
def ancepsref40_solutions.l1:Nat→List (S34)→Int→List Int→List Int→Int→Int→Bool→Int→Option (List Int)
 | 0,_,_,_,_,_,_,_,_=>none
 | k+1,x0,x1,x5,x6,x7,x8,x9,x10=>if x10<(x0.length:Int) then (if x9=true then (if 0≤x10 then ((ancepsref38_Holds.f k ((rd_T34 x0 x10).f0) ((rd_T34 x0 x10).f1) x8).bind fun t654=>(ancepsref40_solutions.l1 k x0 x1 x5 x6 x7 x8 t654 (wrap64 (x10+1)))) else (none)) else (ancepsref40_solutions.l0 k x0 x1 x5 x6 (wrap64 (x7+1)))) else (if x9=true then (if x6.length<17592186044416 then (ancepsref40_solutions.l0 k x0 x1 x5 (x6++[x8]) (wrap64 (x7+1))) else (none)) else (ancepsref40_solutions.l0 k x0 x1 x5 x6 (wrap64 (x7+1))))
end
def ancepsref40_solutions.f (k:Nat) (l0:List (S34)) (a1:Int):Option (List Int):=(ancepsref40_Vars.f k l0).bind fun t649=>(ancepsref40_solutions.l0 k l0 a1 t649 ([]:List Int) 0)
theorem ancepsref40_solutions.mono_l:∀ k,(∀ y0 y1 y2 y3 y4,LeO (ancepsref40_solutions.l0 k y0 y1 y2 y3 y4) (ancepsref40_solutions.l0 (k+1) y0 y1 y2 y3 y4))∧(∀ y0 y1 y2 y3 y4 y5 y6 y7,LeO (ancepsref40_solutions.l1 k y0 y1 y2 y3 y4 y5 y6 y7) (ancepsref40_solutions.l1 (k+1) y0 y1 y2 y3 y4 y5 y6 y7))
 | 0=>⟨fun _ _ _ _ _ r h=>by simp [ancepsref40_solutions.l0] at h,fun _ _ _ _ _ _ _ _ r h=>by simp [ancepsref40_solutions.l1] at h⟩
 | k+1=>by
  obtain ⟨ih0,ih1⟩:=ancepsref40_solutions.mono_l k
  refine ⟨?_,?_⟩
  ·intro y0 y1 y2 y3 y4
   unfold ancepsref40_solutions.l0
   repeat' first
   | (with_reducible exact ih0 _ _ _ _ _)
   | (with_reducible exact ih1 _ _ _ _ _ _ _ _)
   | (with_reducible exact ancepsref38_Assignment.mono _ _ _)
   | (with_reducible exact ancepsref38_Holds.mono _ _ _ _)
   | (with_reducible exact ancepsref40_Vars.mono _ _)
   | (with_reducible exact LeO.refl _)
   | (with_reducible exact LeO.none _)
   | (with_reducible refine LeO.ite ?_ ?_)
   | (with_reducible refine LeO.bind ?_ (fun _=>?_))
   | exact LeO.none _
   | refine LeO.ite ?_ ?_
   | refine LeO.bind ?_ (fun _=>?_)
  ·intro y0 y1 y2 y3 y4 y5 y6 y7
   unfold ancepsref40_solutions.l1
   repeat' first
   | (with_reducible exact ih0 _ _ _ _ _)
   | (with_reducible exact ih1 _ _ _ _ _ _ _ _)
   | (with_reducible exact ancepsref38_Assignment.mono _ _ _)
   | (with_reducible exact ancepsref38_Holds.mono _ _ _ _)
   | (with_reducible exact ancepsref40_Vars.mono _ _)
   | (with_reducible exact LeO.refl _)
   | (with_reducible exact LeO.none _)
   | (with_reducible refine LeO.ite ?_ ?_)
   | (with_reducible refine LeO.bind ?_ (fun _=>?_))
   | exact LeO.none _
   | refine LeO.ite ?_ ?_
   | refine LeO.bind ?_ (fun _=>?_)
theorem ancepsref40_solutions.mono:∀ a0 a1 k,LeO (ancepsref40_solutions.f k a0 a1) (ancepsref40_solutions.f (k+1) a0 a1):=by
 intro a0 a1 k
 obtain ⟨ih0,ih1⟩:=ancepsref40_solutions.mono_l k
 unfold ancepsref40_solutions.f
 repeat' first
   | (with_reducible exact ih0 _ _ _ _ _)
   | (with_reducible exact ih1 _ _ _ _ _ _ _ _)
   | (with_reducible exact ancepsref38_Assignment.mono _ _ _)
   | (with_reducible exact ancepsref38_Holds.mono _ _ _ _)
   | (with_reducible exact ancepsref40_Vars.mono _ _)
   | (with_reducible exact LeO.refl _)
   | (with_reducible exact LeO.none _)
   | (with_reducible refine LeO.ite ?_ ?_)
   | (with_reducible refine LeO.bind ?_ (fun _=>?_))
   | exact LeO.none _
   | refine LeO.ite ?_ ?_
   | refine LeO.bind ?_ (fun _=>?_)
set_option maxHeartbeats 8000000 in
set_option maxRecDepth 100000 in
theorem ancepsref40_solutions.calls (k:Nat) (A0:Option Addr) (c0:Nat) (l0:List (S34)) (a1:Int) (r:List Int) (w:World) (hr0:Kd.C k34 w A0 l0.length l0) (hc0:l0.length≤c0) (h:ancepsref40_solutions.f k l0 a1=some r) :
  Calls Try.prog 36 #[.slice A0 l0.length c0,.int .i64 a1] w fun e w'=>∃ v0_:Value,e=.returned (v0_)∧Kd.R (Kd.int .i64) 3 w' w.heap.size (fun _=>True) v0_ r∧Below w.heap.size w w':=by
 have hu34:=Try.underlying34
 have HR0:=zA hr0
 have HC0:=zA hc0
 clear hr0 hc0
 have HB:=zA (Below.refl w.heap.size w)
 have H:((ancepsref40_Vars.f k l0).bind fun t649=>(ancepsref40_solutions.l0 k l0 a1 t649 ([]:List Int) 0))=some r:=h
 clear h
 replace H:=Option.bind_eq_some_iff.mp H
 obtain ⟨t649,A30,H⟩:=H
 replace H:(ancepsref40_solutions.l0 k l0 a1 t649 ([]:List Int) 0)=some r:=H
 have A3:=zA A30
 clear A30
 have H':=zA H
 clear H
 go_enter Try.func36,Try.ntmps36
 go_wp2_with (first|((with_reducible refine gate_callee (f:=16) rfl ?_);refine goesL_ (some 12) rfl rfl Try.func16 zK rfl #[.slice A0 l0.length c0] rfl zM ?_;(with_reducible refine (ancepsref40_Vars.calls k _ _ l0 t649 _ ?side1 ?side2 A3.out).mono ?_);(case side1=>repeat (first|exact HR0.out|(with_reducible refine Kd.C_alloc ?_ _)|(with_reducible refine Kd.C_drewN ?_ _)|(with_reducible refine Kd.C_drew ?_)));(case side2=>exact HC0.out);rintro e w4 ⟨v650,rfl,ho0,hb⟩;refine ⟨_,rfl,?_⟩;have HO651:=zA (Kd.R_lower ho0 (below_size zB));replace HB:=zA (below_step zB hb);(try clear hb);(try clear hb2);(try clear hk);(try clear hi);(try clear ho0)))
 go_loopg [6,7] k (fun kq v6 v7 w'=>∃ (x6_1:List Int) (x7_1:Int),v7=.int .i64 x7_1∧Aside0 (ancepsref40_solutions.l0 kq l0 a1 t649 x6_1 x7_1=some r)∧Aside0 (kq≤k)∧Aside0 (Kd.R (Kd.int .i64) 3 w' w.heap.size (fun k_=>some k_≠(v6:Value).ownBlock) v650 t649)∧Aside0 (Kd.R (Kd.int .i64) 3 w' w.heap.size (fun k_=>some k_≠(v650:Value).ownBlock) v6 x6_1)∧Aside0 (Below w.heap.size w w'))
 case atStart=>exact ⟨(([]:List Int)),(0),zT,H',⟨Nat.le_refl _⟩,⟨by refine zr ?_;exact Kd.R_mono HO651.out (fun _ hk=>(by simp [Value.ownBlock]))⟩,⟨by first|exact Kd.R_nil _ _ _ _ _|exact Kd.N_nil _ _ _ _ _|exact Kd.V_nil _ _ _ _ _|exact Kd.Q_nil _ _ _ _ _|exact Kd.S_nil _ _ _ _ _⟩,⟨by repeat (first|(with_reducible first|exact HB.out|apply below_alloc|apply pw_below_drewN|apply below_drew1)|exact HB.out)⟩⟩
 case round=>
  clear H'
  obtain ⟨x6_1,x7_1,rfl,HA,HK1,HO_5,HO_6,HB⟩:=hrel
  cases gk with
  | zero=>exact absurd HA.out (by simp [ancepsref40_solutions.l0])
  | succ k1=>
   have H:=HA.out
   clear HA
   simp only [ancepsref40_solutions.l0] at H
   obtain ⟨ji5,hji5⟩:∃ j_:Int,(shl .i64 1 (t649.length:Int))=j_:=⟨_,rfl⟩
   replace H:(if x7_1<(ji5) then (if (x6_1.length:Int)<a1 then ((ancepsref38_Assignment.f k1 t649 x7_1).bind fun t652=>(ancepsref40_solutions.l1 k1 l0 a1 t649 x6_1 x7_1 t652 true 0)) else (some x6_1)) else (some x6_1))=some r:=by first|(rw [hji5] at H;exact H)|(simp only [hji5] at H ⊢;exact H)
   have hji5_:(IntKind.i64.wrap (1 * 2 ^ min (t649.length:Int).toNat 64))=ji5:=hji5
   have hji5z:(t649.length:Int)≤64→(IntKind.i64.wrap (1 * 2 ^ (t649.length:Int).toNat))=ji5:=shl_small hji5
   have hji5p:(IntKind.i64.wrap (1 * 2 ^ min t649.length 64))=ji5:=hji5_
   have hji5q:(t649.length:Int)≤64→(IntKind.i64.wrap (1 * 2 ^ t649.length))=ji5:=hji5z
   have hji5r:(IntKind.i64.wrap (2 ^ min t649.length 64))=ji5:=by have h_:=hji5p;rw [Int.one_mul] at h_;exact h_
   have hji5s:(t649.length:Int)≤64→(IntKind.i64.wrap (2 ^ t649.length))=ji5:=fun hle_=>by have h_:=hji5q hle_;rw [Int.one_mul] at h_;exact h_
   have hji5u:(IntKind.i64.wrap (2 ^ min (t649.length:Int).toNat 64))=ji5:=by have h_:=hji5_;rw [Int.one_mul] at h_;exact h_
   have hji5v:(t649.length:Int)≤64→(IntKind.i64.wrap (2 ^ (t649.length:Int).toNat))=ji5:=fun hle_=>by have h_:=hji5z hle_;rw [Int.one_mul] at h_;exact h_
   have hji5y:(wrap64 (1 * 2 ^ min (t649.length:Int).toNat 64))=ji5:=(i64_w _).symm.trans hji5_
   have hji5x:(t649.length:Int)≤64→(wrap64 (1 * 2 ^ (t649.length:Int).toNat))=ji5:=fun h_=>(i64_w _).symm.trans (hji5z h_)
   by_cases c6:x7_1<(ji5)
   ·rw [if_pos c6] at H
    have c6b0:decide (x7_1<(ji5))=true:=decide_eq_true c6
    clear c6
    by_cases c7:(x6_1.length:Int)<a1
    ·rw [if_pos c7] at H
     have c7b0:decide ((x6_1.length:Int)<a1)=true:=decide_eq_true c7
     clear c7
     replace H:=Option.bind_eq_some_iff.mp H
     obtain ⟨t652,A80,H⟩:=H
     replace H:(ancepsref40_solutions.l1 k1 l0 a1 t649 x6_1 x7_1 t652 true 0)=some r:=H
     have A8:=zA A80
     clear A80
     have H':=zA H
     clear H
     obtain ⟨Ao9,co9,eo9⟩:=Kd.R_slice HO_5.out
     subst eo9
     obtain ⟨Ao10,co10,eo10⟩:=Kd.R_slice HO_6.out
     subst eo10
     go_wp2_with (first|((with_reducible refine gate_callee (f:=55) rfl ?_);refine goesL_ (some 28) rfl rfl Try.func55 zK rfl #[.slice Ao9 t649.length co9,.int .i64 x7_1] rfl zM ?_;(with_reducible refine (ancepsref38_Assignment.calls k1 _ _ t649 x7_1 t652 _ ?side1 ?side2 A8.out).mono ?_);(case side1=>exact zC (Kd.R_reads' HO_5.out).2.2);(case side2=>exact (Kd.R_reads' HO_5.out).2.1);rintro e w' ⟨rfl,⟨nd,rfl⟩⟩;refine ⟨_,rfl,?_⟩))
     go_loopg [9,10] k1 (fun kq v9 v10 w'=>∃ (x9_2:Bool) (x10_2:Int),v9=.bool x9_2∧v10=.int .i64 x10_2∧Aside0 (ancepsref40_solutions.l1 kq l0 a1 t649 x6_1 x7_1 t652 x9_2 x10_2=some r)∧Aside0 (kq≤k1)∧Aside0 (Kd.R (Kd.int .i64) 3 w' w.heap.size (fun k_=>some k_≠((.slice Ao10 x6_1.length co10):Value).ownBlock) (.slice Ao9 t649.length co9) t649)∧Aside0 (Kd.R (Kd.int .i64) 3 w' w.heap.size (fun k_=>some k_≠((.slice Ao9 t649.length co9):Value).ownBlock) (.slice Ao10 x6_1.length co10) x6_1)∧Aside0 (Below w.heap.size w w'))
     case atStart=>exact ⟨(true),(0),zT,zT,H',⟨Nat.le_refl _⟩,⟨by refine zr ?_;exact HO_5.out⟩,⟨by refine zr ?_;exact HO_6.out⟩,⟨by repeat (first|(with_reducible first|exact HB.out|apply below_alloc|apply pw_below_drewN|apply below_drew1)|exact HB.out)⟩⟩
     case round=>
      clear H'
      try clear c6
      try clear c6b0
      try clear c7
      try clear c7b0
      obtain ⟨x9_2,x10_2,rfl,rfl,HA,HK2,HO_5,HO_6,HB⟩:=hrel
      cases gk with
      | zero=>exact absurd HA.out (by simp [ancepsref40_solutions.l1])
      | succ k2=>
       have H:=HA.out
       clear HA
       simp only [ancepsref40_solutions.l1] at H
       by_cases c11:x10_2<(l0.length:Int)
       ·rw [if_pos c11] at H
        have c11b0:decide (x10_2<(l0.length:Int))=true:=decide_eq_true c11
        clear c11
        by_cases c12:x9_2=true
        ·subst c12
         have H1:(if 0≤x10_2 then ((ancepsref38_Holds.f k2 ((rd_T34 l0 x10_2).f0) ((rd_T34 l0 x10_2).f1) t652).bind fun t654=>(ancepsref40_solutions.l1 k2 l0 a1 t649 x6_1 x7_1 t652 t654 (wrap64 (x10_2+1)))) else (none))=some r:=by rw [if_pos rfl] at H;exact H
         clear H
         have H:=H1
         clear H1
         by_cases c13:0≤x10_2
         ·rw [if_pos c13] at H
          have c13b0:decide (0≤x10_2)=true:=decide_eq_true c13
          clear c13
          replace H:=Option.bind_eq_some_iff.mp H
          obtain ⟨t654,A140,H⟩:=H
          replace H:(ancepsref40_solutions.l1 k2 l0 a1 t649 x6_1 x7_1 t652 t654 (wrap64 (x10_2+1)))=some r:=H
          have A14:=zA A140
          clear A140
          have H':=zA H
          clear H
          have p653:0≤(x10_2:Int):=of_decide_eq_true zh
          have q653:x10_2<(l0.length:Int):=of_decide_eq_true zh
          obtain ⟨ad653,A653_0,c653_0,A653_1,c653_1,e653,hx653_0,hx653_1,hl653_0,hi653_0,hl653_1,hi653_1⟩:=at_T34 HR0.out x10_2 p653 q653
          cases e653
          replace hx653_0:=(HB.out.cell (World.block_lt_of_cell? w _ hx653_0)).trans hx653_0
          replace hx653_1:=(HB.out.cell (World.block_lt_of_cell? w _ hx653_1)).trans hx653_1
          have HR653_0:=zA hi653_0
          have HC653_0:=zA hl653_0
          clear hi653_0 hl653_0
          have HR653_1:=zA hi653_1
          have HC653_1:=zA hl653_1
          clear hi653_1 hl653_1
          replace p653:=eq_true p653
          replace q653:=eq_true q653
          go_wp2_with (first|((with_reducible refine gate_callee (f:=56) rfl ?_);refine goesL_ (some 43) rfl rfl Try.func56 zK rfl #[.agg #[.slice A653_0 ((rd_T34 l0 x10_2).f0).length c653_0,.slice A653_1 ((rd_T34 l0 x10_2).f1).length c653_1],.int .i64 t652] rfl zM ?_;(with_reducible refine (ancepsref38_Holds.calls k2 _ _ ((rd_T34 l0 x10_2).f0) _ _ ((rd_T34 l0 x10_2).f1) t652 t654 _ ?side1 ?side2 ?side3 ?side4 A14.out).mono ?_);(case side1=>exact zC (Kd.C_below HR653_0.out HB.out));(case side2=>exact HC653_0.out);(case side3=>exact zC (Kd.C_below HR653_1.out HB.out));(case side4=>exact HC653_1.out);rintro e w15 ⟨rfl,hb⟩;refine ⟨_,rfl,?_⟩;replace HO_5:=zA (Kd.R_below (zR HO_5) hb);replace HO_6:=zA (Kd.R_below (zR HO_6) hb);replace HB:=zA (below_step zB hb);(try clear hb);(try clear hb2);(try clear hk);(try clear hi)))
          go_roundg k2
          case measure=>have:=HK1.out;have:=HK2.out;omega
          case rel=>exact ⟨(t654),(wrap64 (x10_2+1)),zT,zT,H',⟨by have:=HK1.out;have:=HK2.out;omega⟩,⟨by refine zr ?_;exact HO_5.out⟩,⟨by refine zr ?_;exact HO_6.out⟩,⟨by repeat (first|(with_reducible first|exact HB.out|apply below_alloc|apply pw_below_drewN|apply below_drew1)|exact HB.out)⟩⟩
         ·rw [if_neg c13] at H
          exact absurd H (by simp)
        ·replace c12:=Bool.eq_false_iff.mpr c12
         subst c12
         have H1:(ancepsref40_solutions.l0 k2 l0 a1 t649 x6_1 (wrap64 (x7_1+1)))=some r:=by rw [if_neg (show ¬ (false=true) by decide)] at H;exact H
         clear H
         have H:=H1
         clear H1
         have H':=zA H
         clear H
         go_wp2
         go_roundg k2
         case measure=>have:=HK1.out;have:=HK2.out;omega
         case rel=>exact ⟨(x6_1),(wrap64 (x7_1+1)),zT,H',⟨by have:=HK1.out;have:=HK2.out;omega⟩,⟨by refine zr ?_;exact HO_5.out⟩,⟨by refine zr ?_;exact HO_6.out⟩,⟨by repeat (first|(with_reducible first|exact HB.out|apply below_alloc|apply pw_below_drewN|apply below_drew1)|exact HB.out)⟩⟩
       ·rw [if_neg c11] at H
        have c11b0:decide (x10_2<(l0.length:Int))=false:=decide_eq_false c11
        clear c11
        by_cases c16:x9_2=true
        ·subst c16
         have H1:(if x6_1.length<17592186044416 then (ancepsref40_solutions.l0 k2 l0 a1 t649 (x6_1++[t652]) (wrap64 (x7_1+1))) else (none))=some r:=by rw [if_pos rfl] at H;exact H
         clear H
         have H:=H1
         clear H1
         by_cases c17:x6_1.length<17592186044416
         ·rw [if_pos c17] at H
          have LMc17:=zA c17
          clear c17
          obtain ⟨y655,hy655⟩:∃ y_:List Int,y_=(x6_1++[t652]):=⟨_,rfl⟩
          replace H:(ancepsref40_solutions.l0 k2 l0 a1 t649 y655 (wrap64 (x7_1+1)))=some r:=by first|(rw [hy655];with_reducible exact H)|(have H2_:=(Option.bind_some _ _).symm.trans H;rw [hy655];with_reducible exact H2_)|(have H2_:=(Option.bind_some _ _).symm.trans H;with_reducible exact H2_)|with_reducible exact H|(rw [hy655];exact H)|exact H
          have Ny655:=zA hy655
          clear hy655
          have H':=zA H
          clear H
          go_wp2_with (first|((with_reducible refine gate_builtin (b:=.append) (xs:=#[.tmp 45,.tmp 47]) rfl ?_);(try (refine gate_guard (by rfl) ?_;dsimp only));at_builtin;refine Kd.R_append (Kd.int .i64) (w0:=w) w.heap.size rfl (.tmp 45) (.tmp 47) 29 3 (.int .i64 0) 8 rfl Try.underlying29 info3 rfl (by decide) (by omega) (.slice Ao10 x6_1.length co10) x6_1 t652 [.int .i64 t652] (fun k_=>some k_≠(.slice Ao9 t649.length co9:Value).ownBlock) (fun _=>False) rfl rfl ?aP (fun _ hk=>hk.elim) ?aF ?aO ?aB ?aS ?aL ?_;(case aP=>exact rfl);(case aB=>exact zB);(case aF=>exact (fun k_ hk=>Kd.fresh' (Kd.R_lt (zR HO_5)) k_ hk));(case aO=>exact (zR HO_6));(case aS=>exact (below_size zB));(case aL=>have:=LMc17.out;omega);intro v656 w18 ho hb hg hat;rw [← Ny655.out] at ho;have HO657:=zA (ho);replace HO_5:=zA (Kd.R_after (ok:=(fun _=>True)) (by refine zr ?_;exact Kd.R_mono HO_5.out (fun _ hk=>⟨trivial,hk⟩)) hg hat);replace HB:=zA (hb);clear HO_6;clear ho hb hg hat))
          go_roundg k2
          case measure=>have:=HK1.out;have:=HK2.out;omega
          case rel=>exact ⟨(y655),(wrap64 (x7_1+1)),zT,H',⟨by have:=HK1.out;have:=HK2.out;omega⟩,⟨by refine zr ?_;exact Kd.R_mono HO_5.out (fun _ hk=>hk.2)⟩,⟨by refine zr ?_;exact HO657.out⟩,⟨by repeat (first|(with_reducible first|exact HB.out|apply below_alloc|apply pw_below_drewN|apply below_drew1)|exact HB.out)⟩⟩
         ·rw [if_neg c17] at H
          exact absurd H (by simp)
        ·replace c16:=Bool.eq_false_iff.mpr c16
         subst c16
         have H1:(ancepsref40_solutions.l0 k2 l0 a1 t649 x6_1 (wrap64 (x7_1+1)))=some r:=by rw [if_neg (show ¬ (false=true) by decide)] at H;exact H
         clear H
         have H:=H1
         clear H1
         have H':=zA H
         clear H
         go_wp2
         go_roundg k2
         case measure=>have:=HK1.out;have:=HK2.out;omega
         case rel=>exact ⟨(x6_1),(wrap64 (x7_1+1)),zT,H',⟨by have:=HK1.out;have:=HK2.out;omega⟩,⟨by refine zr ?_;exact HO_5.out⟩,⟨by refine zr ?_;exact HO_6.out⟩,⟨by repeat (first|(with_reducible first|exact HB.out|apply below_alloc|apply pw_below_drewN|apply below_drew1)|exact HB.out)⟩⟩
    ·rw [if_neg c7] at H
     have c7b0:decide ((x6_1.length:Int)<a1)=false:=decide_eq_false c7
     clear c7
     obtain rfl:=Option.some.inj H
     obtain ⟨Ao19,co19,eo19⟩:=Kd.R_slice HO_5.out
     subst eo19
     obtain ⟨Ao20,co20,eo20⟩:=Kd.R_slice HO_6.out
     subst eo20
     go_wp2
     go_ret
     exact ⟨_,by first|rfl|(simp [errW_none,errW_some] <;> rfl)|(simp only [← hji5];first|rfl|(simp [errW_none,errW_some] <;> rfl))|(simp [*,errW_none,errW_some] <;> rfl),by refine zr ?_;exact Kd.R_mono HO_6.out (fun _ hk=>trivial),by repeat (first|(with_reducible first|exact HB.out|apply below_alloc|apply pw_below_drewN|apply below_drew1)|exact HB.out)⟩
   ·rw [if_neg c6] at H
    have c6b0:decide (x7_1<(ji5))=false:=decide_eq_false c6
    clear c6
    obtain rfl:=Option.some.inj H
    obtain ⟨Ao21,co21,eo21⟩:=Kd.R_slice HO_5.out
    subst eo21
    go_wp2
    go_ret
    exact ⟨_,by first|rfl|(simp [errW_none,errW_some] <;> rfl)|(simp only [← hji5];first|rfl|(simp [errW_none,errW_some] <;> rfl))|(simp [*,errW_none,errW_some] <;> rfl),by refine zr ?_;exact Kd.R_mono HO_6.out (fun _ hk=>trivial),by repeat (first|(with_reducible first|exact HB.out|apply below_alloc|apply pw_below_drewN|apply below_drew1)|exact HB.out)⟩
def ancepsref40_First.f (k:Nat) (l0:List (S34)):Option (Int×Int):=(ancepsref40_Valid.f k l0).bind fun t658=>(if t658=0 then ((ancepsref40_solutions.f k l0 1).bind fun t659=>(if (t659.length:Int)=0 then (some (0,10)) else (if 0<(t659.length:Int) then (some (rd t659 0,0)) else (none)))) else (some (0,t658)))
theorem ancepsref40_First.mono:∀ a0 k,LeO (ancepsref40_First.f k a0) (ancepsref40_First.f (k+1) a0):=by
 intro a0 k
 unfold ancepsref40_First.f
 repeat' first
   | (with_reducible exact ancepsref40_Valid.mono _ _)
   | (with_reducible exact ancepsref40_solutions.mono _ _ _)
   | (with_reducible exact LeO.refl _)
   | (with_reducible exact LeO.none _)
   | (with_reducible refine LeO.ite ?_ ?_)
   | (with_reducible refine LeO.bind ?_ (fun _=>?_))
   | exact LeO.none _
   | refine LeO.ite ?_ ?_
   | refine LeO.bind ?_ (fun _=>?_)
set_option maxHeartbeats 8000000 in
set_option maxRecDepth 100000 in
theorem ancepsref40_First.calls (k:Nat) (A0:Option Addr) (c0:Nat) (l0:List (S34)) (r1:Int) (r2:Int) (w:World) (hr0:Kd.C k34 w A0 l0.length l0) (hc0:l0.length≤c0) (h:ancepsref40_First.f k l0=some (r1,r2)) :
  Calls Try.prog 53 #[.slice A0 l0.length c0] w fun e w'=>e=.returned (.tuple #[.int .i64 r1,.int .i64 r2])∧Below w.heap.size w w':=by
 have hu3:=Try.underlying3
 have HR0:=zA hr0
 have HC0:=zA hc0
 clear hr0 hc0
 have HB:=zA (Below.refl w.heap.size w)
 have H:((ancepsref40_Valid.f k l0).bind fun t658=>(if t658=0 then ((ancepsref40_solutions.f k l0 1).bind fun t659=>(if (t659.length:Int)=0 then (some (0,10)) else (if 0<(t659.length:Int) then (some (rd t659 0,0)) else (none)))) else (some (0,t658))))=some (r1,r2):=h
 clear h
 replace H:=Option.bind_eq_some_iff.mp H
 obtain ⟨t658,A20,H⟩:=H
 replace H:(if t658=0 then ((ancepsref40_solutions.f k l0 1).bind fun t659=>(if (t659.length:Int)=0 then (some (0,10)) else (if 0<(t659.length:Int) then (some (rd t659 0,0)) else (none)))) else (some (0,t658)))=some (r1,r2):=H
 have A2:=zA A20
 clear A20
 have HC3:=zA H
 clear H
 go_enter Try.func53,Try.ntmps53
 go_upto_if 9 with (first|((with_reducible refine gate_callee (f:=26) rfl ?_);refine goesL_ (some 7) rfl rfl Try.func26 zK rfl #[.slice A0 l0.length c0] rfl zM ?_;(with_reducible refine (ancepsref40_Valid.calls k _ _ l0 t658 _ ?side1 ?side2 A2.out).mono ?_);(case side1=>repeat (first|exact HR0.out|(with_reducible refine Kd.C_alloc ?_ _)|(with_reducible refine Kd.C_drewN ?_ _)|(with_reducible refine Kd.C_drew ?_)));(case side2=>exact HC0.out);rintro e w4 ⟨rfl,hb⟩;refine ⟨_,rfl,?_⟩;replace HB:=zA (below_step zB hb);(try clear hb);(try clear hb2);(try clear hk);(try clear hi)))
 (try simp only [Act.put,zi,zs,zt])
 have H:=HC3.out
 clear HC3
 by_cases c5:t658=0
 ·rw [if_pos c5] at H
  have c5b0:(t658 == 0)=true:=beq_iff_eq.mpr c5
  have c5b1:(t658 != 0)=false:=bne_eq_false_iff_eq.mpr c5
  clear c5
  (first|rw [c5b0]|(simp only [i64_w,i32_w];rw [c5b0])|skip)
  (try rw [c5b1])
  replace H:=Option.bind_eq_some_iff.mp H
  obtain ⟨t659,A60,H⟩:=H
  replace H:(if (t659.length:Int)=0 then (some (0,10)) else (if 0<(t659.length:Int) then (some (rd t659 0,0)) else (none)))=some (r1,r2):=H
  have A6:=zA A60
  clear A60
  have HC7:=zA H
  clear H
  go_upto_if 15 with (first|((with_reducible refine gate_callee (f:=36) rfl ?_);refine goesL_ (some 12) rfl rfl Try.func36 zK rfl #[.slice A0 l0.length c0,.int .i64 1] rfl zM ?_;(with_reducible refine (ancepsref40_solutions.calls k _ _ l0 1 t659 _ ?side1 ?side2 A6.out).mono ?_);(case side1=>exact zC (Kd.C_below HR0.out HB.out));(case side2=>exact HC0.out);rintro e w8 ⟨v660,rfl,ho0,hb⟩;refine ⟨_,rfl,?_⟩;have HO661:=zA (Kd.R_lower ho0 (below_size zB));replace HB:=zA (below_step zB hb);(try clear hb);(try clear hb2);(try clear hk);(try clear hi);(try clear ho0);obtain ⟨Ao9,co9,eo9⟩:=Kd.R_slice HO661.out;subst eo9))
  (try simp only [Act.put,zi,zs,zt])
  have H:=HC7.out
  clear HC7
  by_cases c10:(t659.length:Int)=0
  ·rw [if_pos c10] at H
   have c10b0:((t659.length:Int) == 0)=true:=beq_iff_eq.mpr c10
   have c10b1:((t659.length:Int) != 0)=false:=bne_eq_false_iff_eq.mpr c10
   clear c10
   (first|rw [c10b0]|(simp only [i64_w,i32_w];rw [c10b0])|skip)
   (try rw [c10b1])
   simp only [Option.some.injEq,Prod.mk.injEq] at H
   obtain ⟨rfl,rfl⟩:=H
   go_wp2
   go_ret2
   exact ⟨ze,by repeat (first|(with_reducible first|exact HB.out|apply below_alloc|apply pw_below_drewN|apply below_drew1)|exact HB.out)⟩
  ·rw [if_neg c10] at H
   have c10b0:((t659.length:Int) == 0)=false:=beq_eq_false_iff_ne.mpr c10
   have c10b1:((t659.length:Int) != 0)=true:=bne_iff_ne.mpr c10
   have c10b2:¬ (t659=[]):=fun h_=>c10 (by rw [h_];rfl)
   (first|rw [c10b0]|(simp only [i64_w,i32_w];rw [c10b0])|skip)
   (try rw [c10b1])
   (try rw [c10b2])
   by_cases c11:0<(t659.length:Int)
   ·rw [if_pos c11] at H
    have c11b0:decide (0<(t659.length:Int))=true:=decide_eq_true c11
    have c11b1:decide (0<t659.length)=true:=decide_eq_true (by omega)
    clear c11
    simp only [Option.some.injEq,Prod.mk.injEq] at H
    obtain ⟨rfl,rfl⟩:=H
    have p662:0≤(0:Int):=(by omega)
    have q662:0<(t659.length:Int):=of_decide_eq_true zh
    obtain ⟨ad662,e662,hx662_0⟩:=Kd.at_int (Kd.R_reads' HO661.out).2.2 0 p662 q662
    cases e662
    have qi662:(0<t659.length)=True:=eq_true (by omega)
    (try rw [show ((0:Int)).toNat=0 from rfl] at hx662_0)
    (try rw [Addr.add_zero'] at hx662_0)
    replace p662:=eq_true p662
    replace q662:=eq_true q662
    go_wp2
    go_ret2
    exact ⟨ze,by repeat (first|(with_reducible first|exact HB.out|apply below_alloc|apply pw_below_drewN|apply below_drew1)|exact HB.out)⟩
   ·rw [if_neg c11] at H
    exact absurd H (by simp)
 ·rw [if_neg c5] at H
  have c5b0:(t658 == 0)=false:=beq_eq_false_iff_ne.mpr c5
  have c5b1:(t658 != 0)=true:=bne_iff_ne.mpr c5
  (first|rw [c5b0]|(simp only [i64_w,i32_w];rw [c5b0])|skip)
  (try rw [c5b1])
  simp only [Option.some.injEq,Prod.mk.injEq] at H
  obtain ⟨rfl,rfl⟩:=H
  go_wp2
  go_ret2
  exact ⟨ze,by repeat (first|(with_reducible first|exact HB.out|apply below_alloc|apply pw_below_drewN|apply below_drew1)|exact HB.out)⟩
def ancepsref41_solvable.f (k:Nat) (l0:List (S34)):Option (Bool):=(ancepsref40_First.f k l0).bind fun bt663=>(some (bt663.2 == 0))
theorem ancepsref41_solvable.mono:∀ a0 k,LeO (ancepsref41_solvable.f k a0) (ancepsref41_solvable.f (k+1) a0):=by
 intro a0 k
 unfold ancepsref41_solvable.f
 repeat' first
   | (with_reducible exact ancepsref40_First.mono _ _)
   | (with_reducible exact LeO.refl _)
   | (with_reducible exact LeO.none _)
   | (with_reducible refine LeO.ite ?_ ?_)
   | (with_reducible refine LeO.bind ?_ (fun _=>?_))
   | exact LeO.none _
   | refine LeO.ite ?_ ?_
   | refine LeO.bind ?_ (fun _=>?_)
set_option maxHeartbeats 8000000 in
set_option maxRecDepth 100000 in
theorem ancepsref41_solvable.calls (k:Nat) (A0:Option Addr) (c0:Nat) (l0:List (S34)) (r:Bool) (w:World) (hr0:Kd.C k34 w A0 l0.length l0) (hc0:l0.length≤c0) (h:ancepsref41_solvable.f k l0=some r) :
  Calls Try.prog 33 #[.slice A0 l0.length c0] w fun e w'=>e=.returned (.bool r)∧Below w.heap.size w w':=by
 have HR0:=zA hr0
 have HC0:=zA hc0
 clear hr0 hc0
 have HB:=zA (Below.refl w.heap.size w)
 have H:((ancepsref40_First.f k l0).bind fun bt663=>(some (bt663.2 == 0)))=some r:=h
 clear h
 replace H:=Option.bind_eq_some_iff.mp H
 obtain ⟨⟨t663,t664⟩,A20,H⟩:=H
 replace H:(some (t664 == 0))=some r:=H
 have A2:=zA A20
 clear A20
 obtain rfl:=Option.some.inj H
 go_enter Try.func33,Try.ntmps33
 go_wp2_with (first|((with_reducible refine gate_callee (f:=53) rfl ?_);refine goesL_ (some 7) rfl rfl Try.func53 zK rfl #[.slice A0 l0.length c0] rfl zM ?_;(with_reducible refine (ancepsref40_First.calls k _ _ l0 t663 t664 _ ?side1 ?side2 A2.out).mono ?_);(case side1=>repeat (first|exact HR0.out|(with_reducible refine Kd.C_alloc ?_ _)|(with_reducible refine Kd.C_drewN ?_ _)|(with_reducible refine Kd.C_drew ?_)));(case side2=>exact HC0.out);rintro e w3 ⟨rfl,hb⟩;refine ⟨_,rfl,?_⟩;replace HB:=zA (below_step zB hb);(try clear hb);(try clear hb2);(try clear hk);(try clear hi)))
 go_ret
 exact ⟨ze,by repeat (first|(with_reducible first|exact HB.out|apply below_alloc|apply pw_below_drewN|apply below_drew1)|exact HB.out)⟩
def ancepsref41_has.l0:Nat→List Int→Int→Int→Option (Bool)
 | 0,_,_,_=>none
 | k+1,x0,x1,x5=>if x5<(x0.length:Int) then (if 0≤x5 then (if (rd x0 x5)=x1 then (some true) else (ancepsref41_has.l0 k x0 x1 (wrap64 (x5+1)))) else (none)) else (some false)
def ancepsref41_has.f (k:Nat) (l0:List Int) (a1:Int):Option (Bool):=ancepsref41_has.l0 k l0 a1 0
theorem ancepsref41_has.mono_l:∀ k,(∀ y0 y1 y2,LeO (ancepsref41_has.l0 k y0 y1 y2) (ancepsref41_has.l0 (k+1) y0 y1 y2))
 | 0=>fun _ _ _ r h=>by simp [ancepsref41_has.l0] at h
 | k+1=>by
  have ih0:=ancepsref41_has.mono_l k
  ·intro y0 y1 y2
   unfold ancepsref41_has.l0
   repeat' first
   | (with_reducible exact ih0 _ _ _)
   | (with_reducible exact LeO.refl _)
   | (with_reducible exact LeO.none _)
   | (with_reducible refine LeO.ite ?_ ?_)
   | (with_reducible refine LeO.bind ?_ (fun _=>?_))
   | exact LeO.none _
   | refine LeO.ite ?_ ?_
   | refine LeO.bind ?_ (fun _=>?_)
theorem ancepsref41_has.mono:∀ a0 a1 k,LeO (ancepsref41_has.f k a0 a1) (ancepsref41_has.f (k+1) a0 a1):=by
 intro a0 a1 k
 have ih0:=ancepsref41_has.mono_l k
 unfold ancepsref41_has.f
 repeat' first
   | (with_reducible exact ih0 _ _ _)
   | (with_reducible exact LeO.refl _)
   | (with_reducible exact LeO.none _)
   | (with_reducible refine LeO.ite ?_ ?_)
   | (with_reducible refine LeO.bind ?_ (fun _=>?_))
   | exact LeO.none _
   | refine LeO.ite ?_ ?_
   | refine LeO.bind ?_ (fun _=>?_)
set_option maxHeartbeats 8000000 in
set_option maxRecDepth 100000 in
theorem ancepsref41_has.calls (k:Nat) (A0:Option Addr) (c0:Nat) (l0:List Int) (a1:Int) (r:Bool) (w:World) (hr0:Kd.C (Kd.int .i64) w A0 l0.length l0) (hc0:l0.length≤c0) (h:ancepsref41_has.f k l0 a1=some r) :
  Calls Try.prog 34 #[.slice A0 l0.length c0,.int .i64 a1] w fun e w'=>e=.returned (.bool r)∧Drawn0 w w':=by
 have hu3:=Try.underlying3
 have HR0:=zA hr0
 have HC0:=zA hc0
 clear hr0 hc0
 have H:(ancepsref41_has.l0 k l0 a1 0)=some r:=h
 clear h
 have H':=zA H
 clear H
 go_enter Try.func34,Try.ntmps34
 go_wp2
 go_loopg [5] k (fun kq v5 w'=>∃ (x5_1:Int),v5=.int .i64 x5_1∧Aside0 (ancepsref41_has.l0 kq l0 a1 x5_1=some r)∧Aside0 (kq≤k)∧Drawn0 w w')
 case atStart=>exact ⟨(0),zT,H',⟨Nat.le_refl _⟩,by repeat (first|exact Drawn0.refl _|apply Drawn0.step)⟩
 case round=>
  clear H'
  obtain ⟨x5_1,rfl,HA,HK1,⟨m1,rfl⟩⟩:=hrel
  cases gk with
  | zero=>exact absurd HA.out (by simp [ancepsref41_has.l0])
  | succ k1=>
   have H:=HA.out
   clear HA
   simp only [ancepsref41_has.l0] at H
   by_cases c3:x5_1<(l0.length:Int)
   ·rw [if_pos c3] at H
    have c3b0:decide (x5_1<(l0.length:Int))=true:=decide_eq_true c3
    clear c3
    by_cases c4:0≤x5_1
    ·rw [if_pos c4] at H
     have c4b0:decide (0≤x5_1)=true:=decide_eq_true c4
     clear c4
     by_cases c5:(rd l0 x5_1)=a1
     ·rw [if_pos c5] at H
      have c5b0:((rd l0 x5_1) == a1)=true:=beq_iff_eq.mpr c5
      have c5b1:((rd l0 x5_1) != a1)=false:=bne_eq_false_iff_eq.mpr c5
      clear c5
      obtain rfl:=Option.some.inj H
      have p665:0≤(x5_1:Int):=of_decide_eq_true zh
      have q665:x5_1<(l0.length:Int):=of_decide_eq_true zh
      obtain ⟨ad665,e665,hx665_0⟩:=Kd.at_int HR0.out x5_1 p665 q665
      cases e665
      replace p665:=eq_true p665
      replace q665:=eq_true q665
      go_wp2
      go_ret
      exact ⟨by first|rfl|(simp;done)|(simp [*];done),by repeat (first|exact Drawn0.refl _|apply Drawn0.step)⟩
     ·rw [if_neg c5] at H
      have c5b0:((rd l0 x5_1) == a1)=false:=beq_eq_false_iff_ne.mpr c5
      have c5b1:((rd l0 x5_1) != a1)=true:=bne_iff_ne.mpr c5
      have H':=zA H
      clear H
      have p665:0≤(x5_1:Int):=of_decide_eq_true zh
      have q665:x5_1<(l0.length:Int):=of_decide_eq_true zh
      obtain ⟨ad665,e665,hx665_0⟩:=Kd.at_int HR0.out x5_1 p665 q665
      cases e665
      replace p665:=eq_true p665
      replace q665:=eq_true q665
      go_wp2
      go_roundg k1
      case measure=>have:=HK1.out;omega
      case rel=>exact ⟨(wrap64 (x5_1+1)),zT,H',⟨by have:=HK1.out;omega⟩,by repeat (first|exact Drawn0.refl _|apply Drawn0.step)⟩
    ·rw [if_neg c4] at H
     exact absurd H (by simp)
   ·rw [if_neg c3] at H
    have c3b0:decide (x5_1<(l0.length:Int))=false:=decide_eq_false c3
    clear c3
    obtain rfl:=Option.some.inj H
    go_wp2
    go_ret
    exact ⟨by first|rfl|(simp;done)|(simp [*];done),by repeat (first|exact Drawn0.refl _|apply Drawn0.step)⟩
def ancepsref40_All.f (k:Nat) (l0:List (S34)):Option (List Int×Int):=(ancepsref40_Valid.f k l0).bind fun t698=>(if t698=0 then ((ancepsref40_solutions.f k l0 1001).bind fun t699=>(if (t699.length:Int)>1000 then (some (([]:List Int),3)) else (some (t699,0)))) else (some (([]:List Int),t698)))
theorem ancepsref40_All.mono:∀ a0 k,LeO (ancepsref40_All.f k a0) (ancepsref40_All.f (k+1) a0):=by
 intro a0 k
 unfold ancepsref40_All.f
 repeat' first
   | (with_reducible exact ancepsref40_Valid.mono _ _)
   | (with_reducible exact ancepsref40_solutions.mono _ _ _)
   | (with_reducible exact LeO.refl _)
   | (with_reducible exact LeO.none _)
   | (with_reducible refine LeO.ite ?_ ?_)
   | (with_reducible refine LeO.bind ?_ (fun _=>?_))
   | exact LeO.none _
   | refine LeO.ite ?_ ?_
   | refine LeO.bind ?_ (fun _=>?_)
set_option maxHeartbeats 8000000 in
set_option maxRecDepth 100000 in
theorem ancepsref40_All.calls (k:Nat) (A0:Option Addr) (c0:Nat) (l0:List (S34)) (r1:List Int) (r2:Int) (w:World) (hr0:Kd.C k34 w A0 l0.length l0) (hc0:l0.length≤c0) (h:ancepsref40_All.f k l0=some (r1,r2)) :
  Calls Try.prog 11 #[.slice A0 l0.length c0] w fun e w'=>∃ v0_:Value,e=.returned (.tuple #[v0_,.int .i64 r2])∧Kd.R (Kd.int .i64) 3 w' w.heap.size (fun _=>True) v0_ r1∧Below w.heap.size w w':=by
 have HR0:=zA hr0
 have HC0:=zA hc0
 clear hr0 hc0
 have HB:=zA (Below.refl w.heap.size w)
 have H:((ancepsref40_Valid.f k l0).bind fun t698=>(if t698=0 then ((ancepsref40_solutions.f k l0 1001).bind fun t699=>(if (t699.length:Int)>1000 then (some (([]:List Int),3)) else (some (t699,0)))) else (some (([]:List Int),t698))))=some (r1,r2):=h
 clear h
 replace H:=Option.bind_eq_some_iff.mp H
 obtain ⟨t698,A20,H⟩:=H
 replace H:(if t698=0 then ((ancepsref40_solutions.f k l0 1001).bind fun t699=>(if (t699.length:Int)>1000 then (some (([]:List Int),3)) else (some (t699,0)))) else (some (([]:List Int),t698)))=some (r1,r2):=H
 have A2:=zA A20
 clear A20
 have HC3:=zA H
 clear H
 go_enter Try.func11,Try.ntmps11
 go_upto_if 9 with (first|((with_reducible refine gate_callee (f:=26) rfl ?_);refine goesL_ (some 7) rfl rfl Try.func26 zK rfl #[.slice A0 l0.length c0] rfl zM ?_;(with_reducible refine (ancepsref40_Valid.calls k _ _ l0 t698 _ ?side1 ?side2 A2.out).mono ?_);(case side1=>repeat (first|exact HR0.out|(with_reducible refine Kd.C_alloc ?_ _)|(with_reducible refine Kd.C_drewN ?_ _)|(with_reducible refine Kd.C_drew ?_)));(case side2=>exact HC0.out);rintro e w4 ⟨rfl,hb⟩;refine ⟨_,rfl,?_⟩;replace HB:=zA (below_step zB hb);(try clear hb);(try clear hb2);(try clear hk);(try clear hi)))
 (try simp only [Act.put,zi,zs,zt])
 have H:=HC3.out
 clear HC3
 by_cases c5:t698=0
 ·rw [if_pos c5] at H
  have c5b0:(t698 == 0)=true:=beq_iff_eq.mpr c5
  have c5b1:(t698 != 0)=false:=bne_eq_false_iff_eq.mpr c5
  clear c5
  (first|rw [c5b0]|(simp only [i64_w,i32_w];rw [c5b0])|skip)
  (try rw [c5b1])
  replace H:=Option.bind_eq_some_iff.mp H
  obtain ⟨t699,A60,H⟩:=H
  replace H:(if (t699.length:Int)>1000 then (some (([]:List Int),3)) else (some (t699,0)))=some (r1,r2):=H
  have A6:=zA A60
  clear A60
  have HC7:=zA H
  clear H
  go_upto_if 15 with (first|((with_reducible refine gate_callee (f:=36) rfl ?_);refine goesL_ (some 12) rfl rfl Try.func36 zK rfl #[.slice A0 l0.length c0,.int .i64 1001] rfl zM ?_;(with_reducible refine (ancepsref40_solutions.calls k _ _ l0 1001 t699 _ ?side1 ?side2 A6.out).mono ?_);(case side1=>exact zC (Kd.C_below HR0.out HB.out));(case side2=>exact HC0.out);rintro e w8 ⟨v700,rfl,ho0,hb⟩;refine ⟨_,rfl,?_⟩;have HO701:=zA (Kd.R_lower ho0 (below_size zB));replace HB:=zA (below_step zB hb);(try clear hb);(try clear hb2);(try clear hk);(try clear hi);(try clear ho0);obtain ⟨Ao9,co9,eo9⟩:=Kd.R_slice HO701.out;subst eo9))
  (try simp only [Act.put,zi,zs,zt])
  have H:=HC7.out
  clear HC7
  by_cases c10:(t699.length:Int)>1000
  ·rw [if_pos c10] at H
   have c10b0:decide (1000<(t699.length:Int))=true:=decide_eq_true c10
   have c10b1:decide (1000<t699.length)=true:=decide_eq_true (by omega)
   clear c10
   (first|rw [c10b0]|(simp only [i64_w,i32_w];rw [c10b0])|skip)
   (try rw [c10b1])
   simp only [Option.some.injEq,Prod.mk.injEq] at H
   obtain ⟨rfl,rfl⟩:=H
   go_wp2
   go_ret2
   exact ⟨_,ze,by first|exact Kd.R_nil _ _ _ _ _|exact Kd.N_nil _ _ _ _ _|exact Kd.V_nil _ _ _ _ _|exact Kd.Q_nil _ _ _ _ _|exact Kd.S_nil _ _ _ _ _,by repeat (first|(with_reducible first|exact HB.out|apply below_alloc|apply pw_below_drewN|apply below_drew1)|exact HB.out)⟩
  ·rw [if_neg c10] at H
   have c10b0:decide (1000<(t699.length:Int))=false:=decide_eq_false c10
   have c10b1:decide (1000<t699.length)=false:=decide_eq_false (by omega)
   clear c10
   (first|rw [c10b0]|(simp only [i64_w,i32_w];rw [c10b0])|skip)
   (try rw [c10b1])
   simp only [Option.some.injEq,Prod.mk.injEq] at H
   obtain ⟨rfl,rfl⟩:=H
   go_wp2
   go_ret2
   exact ⟨_,ze,by refine zr ?_;exact HO701.out,by repeat (first|(with_reducible first|exact HB.out|apply below_alloc|apply pw_below_drewN|apply below_drew1)|exact HB.out)⟩
 ·rw [if_neg c5] at H
  have c5b0:(t698 == 0)=false:=beq_eq_false_iff_ne.mpr c5
  have c5b1:(t698 != 0)=true:=bne_iff_ne.mpr c5
  (first|rw [c5b0]|(simp only [i64_w,i32_w];rw [c5b0])|skip)
  (try rw [c5b1])
  simp only [Option.some.injEq,Prod.mk.injEq] at H
  obtain ⟨rfl,rfl⟩:=H
  go_wp2
  go_ret2
  exact ⟨_,ze,by first|exact Kd.R_nil _ _ _ _ _|exact Kd.N_nil _ _ _ _ _|exact Kd.V_nil _ _ _ _ _|exact Kd.Q_nil _ _ _ _ _|exact Kd.S_nil _ _ _ _ _,by repeat (first|(with_reducible first|exact HB.out|apply below_alloc|apply pw_below_drewN|apply below_drew1)|exact HB.out)⟩
end Go.Proofs.Ytngpkbbljnbojaa.S
