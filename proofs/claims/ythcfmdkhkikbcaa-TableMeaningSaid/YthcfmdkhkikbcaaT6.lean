import Derived.Test.YthcfmdkhkikbcaaT0
namespace Go.Proofs.Ythcfmdkhkikbcaa.T
open Go.RowKit Go.Proofs.YthcfmdkhkikbcaaW.PrintWords Go.Proofs.YthcfmdkhkikbcaaW.PrintLast Go.Proofs.YthcfmdkhkikbcaaW.PrintMore
attribute [local go_sem] max2_int min2_int max_two min_two max_three min_three max_four min_four
set_option linter.unusedVariables false
set_option linter.unusedSimpArgs false
def ancepsref38_in.l0:Nat→List Int→Int→Int→Option (Bool)
 | 0,_,_,_=>none
 | k+1,x0,x1,x5=>if x5<(x0.length:Int) then (if 0≤x5 then (if (rd x0 x5)=x1 then (some true) else (ancepsref38_in.l0 k x0 x1 (wrap64 (x5+1)))) else (none)) else (some false)
def ancepsref38_in.f (k:Nat) (l0:List Int) (a1:Int):Option (Bool):=ancepsref38_in.l0 k l0 a1 0
theorem ancepsref38_in.mono_l:∀ k,(∀ y0 y1 y2,LeO (ancepsref38_in.l0 k y0 y1 y2) (ancepsref38_in.l0 (k+1) y0 y1 y2))
 | 0=>fun _ _ _ r h=>by simp [ancepsref38_in.l0] at h
 | k+1=>by
  have ih0:=ancepsref38_in.mono_l k
  ·intro y0 y1 y2
   unfold ancepsref38_in.l0
   repeat' first
   | (with_reducible exact ih0 _ _ _)
   | (with_reducible exact LeO.refl _)
   | (with_reducible exact LeO.none _)
   | (with_reducible refine LeO.ite ?_ ?_)
   | (with_reducible refine LeO.bind ?_ (fun _=>?_))
   | exact LeO.none _
   | refine LeO.ite ?_ ?_
   | refine LeO.bind ?_ (fun _=>?_)
theorem ancepsref38_in.mono:∀ a0 a1 k,LeO (ancepsref38_in.f k a0 a1) (ancepsref38_in.f (k+1) a0 a1):=by
 intro a0 a1 k
 have ih0:=ancepsref38_in.mono_l k
 unfold ancepsref38_in.f
 repeat' first
   | (with_reducible exact ih0 _ _ _)
   | (with_reducible exact LeO.refl _)
   | (with_reducible exact LeO.none _)
   | (with_reducible refine LeO.ite ?_ ?_)
   | (with_reducible refine LeO.bind ?_ (fun _=>?_))
   | exact LeO.none _
   | refine LeO.ite ?_ ?_
   | refine LeO.bind ?_ (fun _=>?_)
set_option maxHeartbeats 8000000 in
set_option maxRecDepth 100000 in
theorem ancepsref38_in.calls (k:Nat) (A0:Option Addr) (c0:Nat) (l0:List Int) (a1:Int) (r:Bool) (w:World) (hr0:Kd.C (Kd.int .i64) w A0 l0.length l0) (hc0:l0.length≤c0) (h:ancepsref38_in.f k l0 a1=some r) :
  Calls Try.prog 45 #[.slice A0 l0.length c0,.int .i64 a1] w fun e w'=>e=.returned (.bool r)∧Drawn0 w w':=by
 have hu3:=Try.underlying3
 have HR0:=zA hr0
 have HC0:=zA hc0
 clear hr0 hc0
 have H:(ancepsref38_in.l0 k l0 a1 0)=some r:=h
 clear h
 have H':=zA H
 clear H
 go_enter Try.func45,Try.ntmps45
 go_wp2
 go_loopg [5] k (fun kq v5 w'=>∃ (x5_1:Int),v5=.int .i64 x5_1∧Aside0 (ancepsref38_in.l0 kq l0 a1 x5_1=some r)∧Aside0 (kq≤k)∧Drawn0 w w')
 case atStart=>exact ⟨(0),zT,H',⟨Nat.le_refl _⟩,by repeat (first|exact Drawn0.refl _|apply Drawn0.step)⟩
 case round=>
  clear H'
  obtain ⟨x5_1,rfl,HA,HK1,⟨m1,rfl⟩⟩:=hrel
  cases gk with
  | zero=>exact absurd HA.out (by simp [ancepsref38_in.l0])
  | succ k1=>
   have H:=HA.out
   clear HA
   simp only [ancepsref38_in.l0] at H
   by_cases c3:x5_1<(l0.length:Int)
   ·rw [if_pos c3] at H
    have c3b0:decide (x5_1<(l0.length:Int))=true:=decide_eq_true c3
    clear c3
    by_cases c4:0≤x5_1
    ·rw [if_pos c4] at H
     have c4b0:decide (0≤x5_1)=true:=decide_eq_true c4
     clear c4
     by_cases c5:(rd l0 x5_1)=a1
     ·rw [if_pos c5] at H
      have c5b0:((rd l0 x5_1) == a1)=true:=beq_iff_eq.mpr c5
      have c5b1:((rd l0 x5_1) != a1)=false:=bne_eq_false_iff_eq.mpr c5
      clear c5
      obtain rfl:=Option.some.inj H
      have p449:0≤(x5_1:Int):=of_decide_eq_true zh
      have q449:x5_1<(l0.length:Int):=of_decide_eq_true zh
      obtain ⟨ad449,e449,hx449_0⟩:=Kd.at_int HR0.out x5_1 p449 q449
      cases e449
      replace p449:=eq_true p449
      replace q449:=eq_true q449
      go_wp2
      go_ret
      exact ⟨by first|rfl|(simp;done)|(simp [*];done),by repeat (first|exact Drawn0.refl _|apply Drawn0.step)⟩
     ·rw [if_neg c5] at H
      have c5b0:((rd l0 x5_1) == a1)=false:=beq_eq_false_iff_ne.mpr c5
      have c5b1:((rd l0 x5_1) != a1)=true:=bne_iff_ne.mpr c5
      have H':=zA H
      clear H
      have p449:0≤(x5_1:Int):=of_decide_eq_true zh
      have q449:x5_1<(l0.length:Int):=of_decide_eq_true zh
      obtain ⟨ad449,e449,hx449_0⟩:=Kd.at_int HR0.out x5_1 p449 q449
      cases e449
      replace p449:=eq_true p449
      replace q449:=eq_true q449
      go_wp2
      go_roundg k1
      case measure=>have:=HK1.out;omega
      case rel=>exact ⟨(wrap64 (x5_1+1)),zT,H',⟨by have:=HK1.out;omega⟩,by repeat (first|exact Drawn0.refl _|apply Drawn0.step)⟩
    ·rw [if_neg c4] at H
     exact absurd H (by simp)
   ·rw [if_neg c3] at H
    have c3b0:decide (x5_1<(l0.length:Int))=false:=decide_eq_false c3
    clear c3
    obtain rfl:=Option.some.inj H
    go_wp2
    go_ret
    exact ⟨by first|rfl|(simp;done)|(simp [*];done),by repeat (first|exact Drawn0.refl _|apply Drawn0.step)⟩
def ancepsref38_Row.l0:Nat→List Int→Int→Int→Int→Option (Int)
 | 0,_,_,_,_=>none
 | k+1,x0,x1,x5,x6=>if x6<(x0.length:Int) then (if 0≤x6 then (if 0≤(rd x0 x6) then (ancepsref38_Row.l0 k x0 x1 (wrap64 (x5+(shl .i64 (Int.tmod (shr .i64 x1 (rd x0 x6)) 2) x6))) (wrap64 (x6+1))) else (none)) else (none)) else (some x5)
def ancepsref38_Row.f (k:Nat) (l0:List Int) (a1:Int):Option (Int):=ancepsref38_Row.l0 k l0 a1 0 0
theorem ancepsref38_Row.mono_l:∀ k,(∀ y0 y1 y2 y3,LeO (ancepsref38_Row.l0 k y0 y1 y2 y3) (ancepsref38_Row.l0 (k+1) y0 y1 y2 y3))
 | 0=>fun _ _ _ _ r h=>by simp [ancepsref38_Row.l0] at h
 | k+1=>by
  have ih0:=ancepsref38_Row.mono_l k
  ·intro y0 y1 y2 y3
   unfold ancepsref38_Row.l0
   repeat' first
   | (with_reducible exact ih0 _ _ _ _)
   | (with_reducible exact LeO.refl _)
   | (with_reducible exact LeO.none _)
   | (with_reducible refine LeO.ite ?_ ?_)
   | (with_reducible refine LeO.bind ?_ (fun _=>?_))
   | exact LeO.none _
   | refine LeO.ite ?_ ?_
   | refine LeO.bind ?_ (fun _=>?_)
theorem ancepsref38_Row.mono:∀ a0 a1 k,LeO (ancepsref38_Row.f k a0 a1) (ancepsref38_Row.f (k+1) a0 a1):=by
 intro a0 a1 k
 have ih0:=ancepsref38_Row.mono_l k
 unfold ancepsref38_Row.f
 repeat' first
   | (with_reducible exact ih0 _ _ _ _)
   | (with_reducible exact LeO.refl _)
   | (with_reducible exact LeO.none _)
   | (with_reducible refine LeO.ite ?_ ?_)
   | (with_reducible refine LeO.bind ?_ (fun _=>?_))
   | exact LeO.none _
   | refine LeO.ite ?_ ?_
   | refine LeO.bind ?_ (fun _=>?_)
set_option maxHeartbeats 8000000 in
set_option maxRecDepth 100000 in
theorem ancepsref38_Row.calls (k:Nat) (A0:Option Addr) (c0:Nat) (l0:List Int) (a1:Int) (r:Int) (w:World) (hr0:Kd.C (Kd.int .i64) w A0 l0.length l0) (hc0:l0.length≤c0) (h:ancepsref38_Row.f k l0 a1=some r) :
  Calls Try.prog 56 #[.slice A0 l0.length c0,.int .i64 a1] w fun e w'=>e=.returned (.int .i64 r)∧Drawn0 w w':=by
 have hu3:=Try.underlying3
 have HR0:=zA hr0
 have HC0:=zA hc0
 clear hr0 hc0
 have H:(ancepsref38_Row.l0 k l0 a1 0 0)=some r:=h
 clear h
 have H':=zA H
 clear H
 go_enter Try.func56,Try.ntmps56
 go_wp2
 go_loopg [5,6] k (fun kq v5 v6 w'=>∃ (x5_1:Int) (x6_1:Int),v5=.int .i64 x5_1∧v6=.int .i64 x6_1∧Aside0 (ancepsref38_Row.l0 kq l0 a1 x5_1 x6_1=some r)∧Aside0 (kq≤k)∧Drawn0 w w')
 case atStart=>exact ⟨(0),(0),zT,zT,H',⟨Nat.le_refl _⟩,by repeat (first|exact Drawn0.refl _|apply Drawn0.step)⟩
 case round=>
  clear H'
  obtain ⟨x5_1,x6_1,rfl,rfl,HA,HK1,⟨m1,rfl⟩⟩:=hrel
  cases gk with
  | zero=>exact absurd HA.out (by simp [ancepsref38_Row.l0])
  | succ k1=>
   have H:=HA.out
   clear HA
   simp only [ancepsref38_Row.l0] at H
   by_cases c3:x6_1<(l0.length:Int)
   ·rw [if_pos c3] at H
    have c3b0:decide (x6_1<(l0.length:Int))=true:=decide_eq_true c3
    clear c3
    by_cases c4:0≤x6_1
    ·rw [if_pos c4] at H
     have c4b0:decide (0≤x6_1)=true:=decide_eq_true c4
     clear c4
     by_cases c5:0≤(rd l0 x6_1)
     ·rw [if_pos c5] at H
      have c5b0:=eq_true c5
      have c5b1:decide (0≤(rd l0 x6_1))=true:=decide_eq_true c5
      clear c5
      obtain ⟨ji6,hji6⟩:∃ j_:Int,(shr .i64 a1 (rd l0 x6_1))=j_:=⟨_,rfl⟩
      replace H:(ancepsref38_Row.l0 k1 l0 a1 (wrap64 (x5_1+(shl .i64 (Int.tmod (ji6) 2) x6_1))) (wrap64 (x6_1+1)))=some r:=by first|(rw [hji6] at H;exact H)|(simp only [hji6] at H ⊢;exact H)
      have hji6_:(a1 / 2 ^ min (rd l0 x6_1).toNat 64)=ji6:=hji6
      have hji6z:(rd l0 x6_1)≤64→(a1 / 2 ^ (rd l0 x6_1).toNat)=ji6:=shr_small hji6
      have c7b0:=eq_true (of_decide_eq_true zh:0≤x6_1)
      obtain ⟨ji8,hji8⟩:∃ j_:Int,(shl .i64 (Int.tmod (ji6) 2) x6_1)=j_:=⟨_,rfl⟩
      replace H:(ancepsref38_Row.l0 k1 l0 a1 (wrap64 (x5_1+(ji8))) (wrap64 (x6_1+1)))=some r:=by first|(rw [hji8] at H;exact H)|(simp only [hji8] at H ⊢;exact H)
      have hji8_:(IntKind.i64.wrap ((Int.tmod (ji6) 2) * 2 ^ min x6_1.toNat 64))=ji8:=hji8
      have hji8z:x6_1≤64→(IntKind.i64.wrap ((Int.tmod (ji6) 2) * 2 ^ x6_1.toNat))=ji8:=shl_small hji8
      have hji8y:(wrap64 ((Int.tmod (ji6) 2) * 2 ^ min x6_1.toNat 64))=ji8:=(i64_w _).symm.trans hji8_
      have hji8x:x6_1≤64→(wrap64 ((Int.tmod (ji6) 2) * 2 ^ x6_1.toNat))=ji8:=fun h_=>(i64_w _).symm.trans (hji8z h_)
      have H':=zA H
      clear H
      have p450:0≤(x6_1:Int):=of_decide_eq_true zh
      have q450:x6_1<(l0.length:Int):=of_decide_eq_true zh
      obtain ⟨ad450,e450,hx450_0⟩:=Kd.at_int HR0.out x6_1 p450 q450
      cases e450
      replace p450:=eq_true p450
      replace q450:=eq_true q450
      go_wp2
      go_roundg k1
      case measure=>have:=HK1.out;omega
      case rel=>exact ⟨(wrap64 (x5_1+(ji8))),(wrap64 (x6_1+1)),(by first|rfl|(simp;done)|(simp only [← hji8] <;> (first|rfl|simp))|(simp [*];done)),zT,H',⟨by have:=HK1.out;omega⟩,by repeat (first|exact Drawn0.refl _|apply Drawn0.step)⟩
     ·rw [if_neg c5] at H
      exact absurd H (by simp)
    ·rw [if_neg c4] at H
     exact absurd H (by simp)
   ·rw [if_neg c3] at H
    have c3b0:decide (x6_1<(l0.length:Int))=false:=decide_eq_false c3
    clear c3
    obtain rfl:=Option.some.inj H
    go_wp2
    go_ret
    exact ⟨by first|rfl|(simp;done)|(simp [*];done),by repeat (first|exact Drawn0.refl _|apply Drawn0.step)⟩
end Go.Proofs.Ythcfmdkhkikbcaa.T
