import Derived.Test.YthcfmdkhkikbcaaT0
namespace Go.Proofs.Ythcfmdkhkikbcaa.T
open Go.RowKit Go.Proofs.YthcfmdkhkikbcaaW.PrintWords Go.Proofs.YthcfmdkhkikbcaaW.PrintLast Go.Proofs.YthcfmdkhkikbcaaW.PrintMore
attribute [local go_sem] max2_int min2_int max_two min_two max_three min_three max_four min_four
set_option linter.unusedVariables false
set_option linter.unusedSimpArgs false
mutual
def ancepsref38_Variables.l0:Nat→List Int→Int→Option (Int)
 | 0,_,_=>none
 | k+1,x0,x3=>if x3<(x0.length:Int) then (if 0≤x3 then (if (rd x0 x3)<0 then (ancepsref38_Variables.j1 k x0 x3 true) else (ancepsref38_Variables.j1 k x0 x3 (decide ((rd x0 x3)>23)))) else (none)) else (some 0)
def ancepsref38_Variables.j1:Nat→List Int→Int→Bool→Option (Int)
 | 0,_,_,_=>none
 | k+1,x0,x3,x24=>if x24=true then (some 6) else (if x3>0 then (if 0≤x3 then (if x3<(x0.length:Int) then (if 0≤(wrap64 (x3 - 1)) then (if (wrap64 (x3 - 1))<(x0.length:Int) then (if (rd x0 x3)≤(rd x0 (wrap64 (x3 - 1))) then (some 18) else (ancepsref38_Variables.l0 k x0 (wrap64 (x3+1)))) else (none)) else (none)) else (none)) else (none)) else (ancepsref38_Variables.l0 k x0 (wrap64 (x3+1))))
end
def ancepsref38_Variables.f (k:Nat) (l0:List Int):Option (Int):=if (l0.length:Int)>10 then (some 3) else (ancepsref38_Variables.l0 k l0 0)
theorem ancepsref38_Variables.mono_l:∀ k,(∀ y0 y1,LeO (ancepsref38_Variables.l0 k y0 y1) (ancepsref38_Variables.l0 (k+1) y0 y1))∧(∀ y0 y1 y2,LeO (ancepsref38_Variables.j1 k y0 y1 y2) (ancepsref38_Variables.j1 (k+1) y0 y1 y2))
 | 0=>⟨fun _ _ r h=>by simp [ancepsref38_Variables.l0] at h,fun _ _ _ r h=>by simp [ancepsref38_Variables.j1] at h⟩
 | k+1=>by
  obtain ⟨ih0,ih1⟩:=ancepsref38_Variables.mono_l k
  refine ⟨?_,?_⟩
  ·intro y0 y1
   unfold ancepsref38_Variables.l0
   repeat' first
   | (with_reducible exact ih0 _ _)
   | (with_reducible exact ih1 _ _ _)
   | (with_reducible exact LeO.refl _)
   | (with_reducible exact LeO.none _)
   | (with_reducible refine LeO.ite ?_ ?_)
   | (with_reducible refine LeO.bind ?_ (fun _=>?_))
   | exact LeO.none _
   | refine LeO.ite ?_ ?_
   | refine LeO.bind ?_ (fun _=>?_)
  ·intro y0 y1 y2
   unfold ancepsref38_Variables.j1
   repeat' first
   | (with_reducible exact ih0 _ _)
   | (with_reducible exact ih1 _ _ _)
   | (with_reducible exact LeO.refl _)
   | (with_reducible exact LeO.none _)
   | (with_reducible refine LeO.ite ?_ ?_)
   | (with_reducible refine LeO.bind ?_ (fun _=>?_))
   | exact LeO.none _
   | refine LeO.ite ?_ ?_
   | refine LeO.bind ?_ (fun _=>?_)
theorem ancepsref38_Variables.mono:∀ a0 k,LeO (ancepsref38_Variables.f k a0) (ancepsref38_Variables.f (k+1) a0):=by
 intro a0 k
 obtain ⟨ih0,ih1⟩:=ancepsref38_Variables.mono_l k
 unfold ancepsref38_Variables.f
 repeat' first
   | (with_reducible exact ih0 _ _)
   | (with_reducible exact ih1 _ _ _)
   | (with_reducible exact LeO.refl _)
   | (with_reducible exact LeO.none _)
   | (with_reducible refine LeO.ite ?_ ?_)
   | (with_reducible refine LeO.bind ?_ (fun _=>?_))
   | exact LeO.none _
   | refine LeO.ite ?_ ?_
   | refine LeO.bind ?_ (fun _=>?_)
set_option maxHeartbeats 8000000 in
set_option maxRecDepth 100000 in
theorem ancepsref38_Variables.calls (k:Nat) (A0:Option Addr) (c0:Nat) (l0:List Int) (r:Int) (w:World) (hr0:Kd.C (Kd.int .i64) w A0 l0.length l0) (hc0:l0.length≤c0) (h:ancepsref38_Variables.f k l0=some r) :
  Calls Try.prog 54 #[.slice A0 l0.length c0] w fun e w'=>e=.returned (.int .i64 r)∧Drawn0 w w':=by
 have hu3:=Try.underlying3
 have HR0:=zA hr0
 have HC0:=zA hc0
 clear hr0 hc0
 have H:(if (l0.length:Int)>10 then (some 3) else (ancepsref38_Variables.l0 k l0 0))=some r:=h
 clear h
 by_cases c2:(l0.length:Int)>10
 ·rw [if_pos c2] at H
  have c2b0:decide (10<(l0.length:Int))=true:=decide_eq_true c2
  have c2b1:decide (10<l0.length)=true:=decide_eq_true (by omega)
  clear c2
  obtain rfl:=Option.some.inj H
  go_enter Try.func54,Try.ntmps54
  go_wp2
  repeat (go_quiet (fail);try go_wp2)
  go_ret
  exact ⟨by first|rfl|(simp;done)|(simp [*];done),by repeat (first|exact Drawn0.refl _|apply Drawn0.step)⟩
 ·rw [if_neg c2] at H
  have c2b0:decide (10<(l0.length:Int))=false:=decide_eq_false c2
  have c2b1:decide (10<l0.length)=false:=decide_eq_false (by omega)
  clear c2
  have H':=zA H
  clear H
  go_enter Try.func54,Try.ntmps54
  go_wp2
  repeat (go_quiet (fail);try go_wp2)
  go_loopg [3] k (fun kq v3 w'=>∃ (x3_1:Int),v3=.int .i64 x3_1∧Aside0 (ancepsref38_Variables.l0 kq l0 x3_1=some r)∧Aside0 (kq≤k)∧Drawn0 w w')
  case atStart=>exact ⟨(0),zT,H',⟨Nat.le_refl _⟩,by repeat (first|exact Drawn0.refl _|apply Drawn0.step)⟩
  case round=>
   clear H'
   try clear c2
   try clear c2b0
   try clear c2b1
   obtain ⟨x3_1,rfl,HA,HK1,⟨m1,rfl⟩⟩:=hrel
   cases gk with
   | zero=>exact absurd HA.out (by simp [ancepsref38_Variables.l0])
   | succ k1=>
    have H:=HA.out
    clear HA
    simp only [ancepsref38_Variables.l0] at H
    by_cases c3:x3_1<(l0.length:Int)
    ·rw [if_pos c3] at H
     have c3b0:decide (x3_1<(l0.length:Int))=true:=decide_eq_true c3
     clear c3
     have HC4:=zA H
     clear H
     go_upto_region 6 with (fail)
     repeat (go_quiet (fail);go_upto_region 6 with (fail))
     go_cut [24] (fun v24 wc=>∃ (kq:Nat) (x24_3:Bool),v24=.bool x24_3∧Aside0 (ancepsref38_Variables.j1 kq l0 x3_1 x24_3=some r)∧Aside0 (kq≤k1)∧Drawn0 w wc)
     case first=>
      have H:=HC4.out
      clear HC4
      by_cases c5:0≤x3_1
      ·rw [if_pos c5] at H
       have c5b0:decide (0≤x3_1)=true:=decide_eq_true c5
       clear c5
       (first|rw [c5b0]|(simp only [i64_w,i32_w];rw [c5b0])|skip)
       by_cases c6:(rd l0 x3_1)<0
       ·rw [if_pos c6] at H
        have c6b0:decide ((rd l0 x3_1)<0)=true:=decide_eq_true c6
        clear c6
        have H':=zA H
        clear H
        have p439:0≤(x3_1:Int):=of_decide_eq_true zh
        have q439:x3_1<(l0.length:Int):=of_decide_eq_true zh
        obtain ⟨ad439,e439,hx439_0⟩:=Kd.at_int HR0.out x3_1 p439 q439
        cases e439
        replace p439:=eq_true p439
        replace q439:=eq_true q439
        go_wp2
        repeat (go_quiet (fail);try go_wp2)
        go_meet
        case rel=>exact ⟨_,(true),zT,H',⟨by have:=HK1.out;first|omega|exact Nat.le_refl _⟩,by repeat (first|exact Drawn0.refl _|apply Drawn0.step)⟩
       ·rw [if_neg c6] at H
        have c6b0:decide ((rd l0 x3_1)<0)=false:=decide_eq_false c6
        clear c6
        have H':=zA H
        clear H
        have p439:0≤(x3_1:Int):=of_decide_eq_true zh
        have q439:x3_1<(l0.length:Int):=of_decide_eq_true zh
        obtain ⟨ad439,e439,hx439_0⟩:=Kd.at_int HR0.out x3_1 p439 q439
        cases e439
        replace p439:=eq_true p439
        replace q439:=eq_true q439
        have p440:0≤(x3_1:Int):=of_decide_eq_true zh
        have q440:x3_1<(l0.length:Int):=of_decide_eq_true zh
        obtain ⟨ad440,e440,hx440_0⟩:=Kd.at_int HR0.out x3_1 p440 q440
        obtain rfl:ad439=ad440:=(by injection e440)
        replace p440:=eq_true p440
        replace q440:=eq_true q440
        go_wp2
        repeat (go_quiet (fail);try go_wp2)
        go_meet
        case rel=>exact ⟨_,(decide ((rd l0 x3_1)>23)),zT,H',⟨by have:=HK1.out;first|omega|exact Nat.le_refl _⟩,by repeat (first|exact Drawn0.refl _|apply Drawn0.step)⟩
      ·rw [if_neg c5] at H
       exact absurd H (by simp)
     case rest=>
      clear HC4
      try clear c2
      try clear c2b0
      try clear c2b1
      try clear c3
      try clear c3b0
      obtain ⟨kq,x24_3,rfl,HA,HJ3,⟨mc3,rfl⟩⟩:=hcut
      cases kq with
      | zero=>exact absurd HA.out (by simp [ancepsref38_Variables.j1])
      | succ kj3=>
       have H:=HA.out
       clear HA
       simp only [ancepsref38_Variables.j1] at H
       by_cases c7:x24_3=true
       ·subst c7
        have H1:(some 6)=some r:=by rw [if_pos rfl] at H;exact H
        clear H
        have H:=H1
        clear H1
        obtain rfl:=Option.some.inj H
        go_wp2
        repeat (go_quiet (fail);try go_wp2)
        go_ret
        exact ⟨by first|rfl|(simp;done)|(simp [*];done),by repeat (first|exact Drawn0.refl _|apply Drawn0.step)⟩
       ·replace c7:=Bool.eq_false_iff.mpr c7
        subst c7
        have H1:(if x3_1>0 then (if 0≤x3_1 then (if x3_1<(l0.length:Int) then (if 0≤(wrap64 (x3_1 - 1)) then (if (wrap64 (x3_1 - 1))<(l0.length:Int) then (if (rd l0 x3_1)≤(rd l0 (wrap64 (x3_1 - 1))) then (some 18) else (ancepsref38_Variables.l0 kj3 l0 (wrap64 (x3_1+1)))) else (none)) else (none)) else (none)) else (none)) else (ancepsref38_Variables.l0 kj3 l0 (wrap64 (x3_1+1))))=some r:=by rw [if_neg (show ¬ (false=true) by decide)] at H;exact H
        clear H
        have H:=H1
        clear H1
        by_cases c8:x3_1>0
        ·rw [if_pos c8] at H
         have c8b0:decide (0<x3_1)=true:=decide_eq_true c8
         clear c8
         by_cases c9:0≤x3_1
         ·rw [if_pos c9] at H
          have c9b0:decide (0≤x3_1)=true:=decide_eq_true c9
          clear c9
          by_cases c10:x3_1<(l0.length:Int)
          ·rw [if_pos c10] at H
           have c10b0:decide (x3_1<(l0.length:Int))=true:=decide_eq_true c10
           clear c10
           obtain ⟨ji11,hji11⟩:∃ j_:Int,(wrap64 (x3_1 - 1))=j_:=⟨_,rfl⟩
           replace H:(if 0≤(ji11) then (if (ji11)<(l0.length:Int) then (if (rd l0 x3_1)≤(rd l0 (ji11)) then (some 18) else (ancepsref38_Variables.l0 kj3 l0 (wrap64 (x3_1+1)))) else (none)) else (none))=some r:=by first|(rw [hji11] at H;exact H)|(simp only [hji11] at H ⊢;exact H)
           have hji11w:(IntKind.i64.wrap (x3_1 - 1))=ji11:=(i64_w _).trans hji11
           by_cases c12:0≤(ji11)
           ·rw [if_pos c12] at H
            have c12b0:decide (0≤(ji11))=true:=decide_eq_true c12
            clear c12
            by_cases c13:(ji11)<(l0.length:Int)
            ·rw [if_pos c13] at H
             have c13b0:decide ((ji11)<(l0.length:Int))=true:=decide_eq_true c13
             clear c13
             by_cases c14:(rd l0 x3_1)≤(rd l0 (ji11))
             ·rw [if_pos c14] at H
              have c14b0:decide ((rd l0 x3_1)≤(rd l0 (ji11)))=true:=decide_eq_true c14
              clear c14
              obtain rfl:=Option.some.inj H
              have p441:0≤(x3_1:Int):=of_decide_eq_true zh
              have q441:x3_1<(l0.length:Int):=of_decide_eq_true zh
              obtain ⟨ad441,e441,hx441_0⟩:=Kd.at_int HR0.out x3_1 p441 q441
              cases e441
              replace p441:=eq_true p441
              replace q441:=eq_true q441
              have p442:0≤((ji11):Int):=of_decide_eq_true zh
              have q442:(ji11)<(l0.length:Int):=of_decide_eq_true zh
              obtain ⟨ad442,e442,hx442_0⟩:=Kd.at_int HR0.out (ji11) p442 q442
              obtain rfl:ad441=ad442:=(by injection e442)
              replace p442:=eq_true p442
              replace q442:=eq_true q442
              go_wp2
              repeat (go_quiet (fail);try go_wp2)
              go_ret
              exact ⟨by first|rfl|(simp;done)|(simp only [← hji11] <;> (first|rfl|simp))|(simp [*];done),by repeat (first|exact Drawn0.refl _|apply Drawn0.step)⟩
             ·rw [if_neg c14] at H
              have c14b0:decide ((rd l0 x3_1)≤(rd l0 (ji11)))=false:=decide_eq_false c14
              clear c14
              have H':=zA H
              clear H
              have p441:0≤(x3_1:Int):=of_decide_eq_true zh
              have q441:x3_1<(l0.length:Int):=of_decide_eq_true zh
              obtain ⟨ad441,e441,hx441_0⟩:=Kd.at_int HR0.out x3_1 p441 q441
              cases e441
              replace p441:=eq_true p441
              replace q441:=eq_true q441
              have p442:0≤((ji11):Int):=of_decide_eq_true zh
              have q442:(ji11)<(l0.length:Int):=of_decide_eq_true zh
              obtain ⟨ad442,e442,hx442_0⟩:=Kd.at_int HR0.out (ji11) p442 q442
              obtain rfl:ad441=ad442:=(by injection e442)
              replace p442:=eq_true p442
              replace q442:=eq_true q442
              go_wp2
              repeat (go_quiet (fail);try go_wp2)
              go_roundg kj3
              case measure=>have:=HK1.out;have:=HJ3.out;omega
              case rel=>exact ⟨(wrap64 (x3_1+1)),zT,H',⟨by have:=HK1.out;have:=HJ3.out;omega⟩,by repeat (first|exact Drawn0.refl _|apply Drawn0.step)⟩
            ·rw [if_neg c13] at H
             exact absurd H (by simp)
           ·rw [if_neg c12] at H
            exact absurd H (by simp)
          ·rw [if_neg c10] at H
           exact absurd H (by simp)
         ·rw [if_neg c9] at H
          exact absurd H (by simp)
        ·rw [if_neg c8] at H
         have c8b0:decide (0<x3_1)=false:=decide_eq_false c8
         clear c8
         have H':=zA H
         clear H
         go_wp2
         repeat (go_quiet (fail);try go_wp2)
         go_roundg kj3
         case measure=>have:=HK1.out;have:=HJ3.out;omega
         case rel=>exact ⟨(wrap64 (x3_1+1)),zT,H',⟨by have:=HK1.out;have:=HJ3.out;omega⟩,by repeat (first|exact Drawn0.refl _|apply Drawn0.step)⟩
    ·rw [if_neg c3] at H
     have c3b0:decide (x3_1<(l0.length:Int))=false:=decide_eq_false c3
     clear c3
     obtain rfl:=Option.some.inj H
     go_wp2
     repeat (go_quiet (fail);try go_wp2)
     go_ret
     exact ⟨by first|rfl|(simp;done)|(simp [*];done),by repeat (first|exact Drawn0.refl _|apply Drawn0.step)⟩
mutual
def ancepsref38_Valid.l0:Nat→Int→List Int→List Int→Option (Int)
 | 0,_,_,_=>none
 | k+1,x4,x444000,x444001=>if x4<(x444001.length:Int) then (if 0≤x4 then (if (rd x444001 x4)<0 then (ancepsref38_Valid.j1 k x4 true x444000 x444001) else (ancepsref38_Valid.j1 k x4 (decide ((rd x444001 x4)≥(shl .i64 1 (x444000.length:Int)))) x444000 x444001)) else (none)) else (some 0)
def ancepsref38_Valid.j1:Nat→Int→Bool→List Int→List Int→Option (Int)
 | 0,_,_,_,_=>none
 | k+1,x4,x35,x444000,x444001=>if x35=true then (some 6) else (if x4>0 then (if 0≤x4 then (if x4<(x444001.length:Int) then (if 0≤(wrap64 (x4 - 1)) then (if (wrap64 (x4 - 1))<(x444001.length:Int) then (if (rd x444001 x4)≤(rd x444001 (wrap64 (x4 - 1))) then (some 18) else (ancepsref38_Valid.l0 k (wrap64 (x4+1)) x444000 x444001)) else (none)) else (none)) else (none)) else (none)) else (ancepsref38_Valid.l0 k (wrap64 (x4+1)) x444000 x444001))
end
def ancepsref38_Valid.f (k:Nat) (l0_0:List Int) (l0_1:List Int):Option (Int):=(ancepsref38_Variables.f k l0_0).bind fun t444=>(if t444=0 then (ancepsref38_Valid.l0 k 0 l0_0 l0_1) else (some t444))
theorem ancepsref38_Valid.mono_l:∀ k,(∀ y0 y1 y2,LeO (ancepsref38_Valid.l0 k y0 y1 y2) (ancepsref38_Valid.l0 (k+1) y0 y1 y2))∧(∀ y0 y1 y2 y3,LeO (ancepsref38_Valid.j1 k y0 y1 y2 y3) (ancepsref38_Valid.j1 (k+1) y0 y1 y2 y3))
 | 0=>⟨fun _ _ _ r h=>by simp [ancepsref38_Valid.l0] at h,fun _ _ _ _ r h=>by simp [ancepsref38_Valid.j1] at h⟩
 | k+1=>by
  obtain ⟨ih0,ih1⟩:=ancepsref38_Valid.mono_l k
  refine ⟨?_,?_⟩
  ·intro y0 y1 y2
   unfold ancepsref38_Valid.l0
   repeat' first
   | (with_reducible exact ih0 _ _ _)
   | (with_reducible exact ih1 _ _ _ _)
   | (with_reducible exact ancepsref38_Variables.mono _ _)
   | (with_reducible exact LeO.refl _)
   | (with_reducible exact LeO.none _)
   | (with_reducible refine LeO.ite ?_ ?_)
   | (with_reducible refine LeO.bind ?_ (fun _=>?_))
   | exact LeO.none _
   | refine LeO.ite ?_ ?_
   | refine LeO.bind ?_ (fun _=>?_)
  ·intro y0 y1 y2 y3
   unfold ancepsref38_Valid.j1
   repeat' first
   | (with_reducible exact ih0 _ _ _)
   | (with_reducible exact ih1 _ _ _ _)
   | (with_reducible exact ancepsref38_Variables.mono _ _)
   | (with_reducible exact LeO.refl _)
   | (with_reducible exact LeO.none _)
   | (with_reducible refine LeO.ite ?_ ?_)
   | (with_reducible refine LeO.bind ?_ (fun _=>?_))
   | exact LeO.none _
   | refine LeO.ite ?_ ?_
   | refine LeO.bind ?_ (fun _=>?_)
theorem ancepsref38_Valid.mono:∀ a0 a1 k,LeO (ancepsref38_Valid.f k a0 a1) (ancepsref38_Valid.f (k+1) a0 a1):=by
 intro a0 a1 k
 obtain ⟨ih0,ih1⟩:=ancepsref38_Valid.mono_l k
 unfold ancepsref38_Valid.f
 repeat' first
   | (with_reducible exact ih0 _ _ _)
   | (with_reducible exact ih1 _ _ _ _)
   | (with_reducible exact ancepsref38_Variables.mono _ _)
   | (with_reducible exact LeO.refl _)
   | (with_reducible exact LeO.none _)
   | (with_reducible refine LeO.ite ?_ ?_)
   | (with_reducible refine LeO.bind ?_ (fun _=>?_))
   | exact LeO.none _
   | refine LeO.ite ?_ ?_
   | refine LeO.bind ?_ (fun _=>?_)
set_option maxHeartbeats 8000000 in
set_option maxRecDepth 100000 in
theorem ancepsref38_Valid.calls (k:Nat) (A0_0:Option Addr) (c0_0:Nat) (l0_0:List Int) (A0_1:Option Addr) (c0_1:Nat) (l0_1:List Int) (r:Int) (w:World) (hr0_0:Kd.C (Kd.int .i64) w A0_0 l0_0.length l0_0) (hc0_0:l0_0.length≤c0_0) (hr0_1:Kd.C (Kd.int .i64) w A0_1 l0_1.length l0_1) (hc0_1:l0_1.length≤c0_1) (h:ancepsref38_Valid.f k l0_0 l0_1=some r) :
  Calls Try.prog 26 #[.agg #[.slice A0_0 l0_0.length c0_0,.slice A0_1 l0_1.length c0_1]] w fun e w'=>e=.returned (.int .i64 r)∧Below w.heap.size w w':=by
 have hu29:=Try.underlying29
 have hu27:=Try.underlying27
 have hu3:=Try.underlying3
 have HR0_0:=zA hr0_0
 have HC0_0:=zA hc0_0
 clear hr0_0 hc0_0
 have HR0_1:=zA hr0_1
 have HC0_1:=zA hc0_1
 clear hr0_1 hc0_1
 have HB:=zA (Below.refl w.heap.size w)
 have H:((ancepsref38_Variables.f k l0_0).bind fun t444=>(if t444=0 then (ancepsref38_Valid.l0 k 0 l0_0 l0_1) else (some t444)))=some r:=h
 clear h
 replace H:=Option.bind_eq_some_iff.mp H
 obtain ⟨t444,A20,H⟩:=H
 replace H:(if t444=0 then (ancepsref38_Valid.l0 k 0 l0_0 l0_1) else (some t444))=some r:=H
 have A2:=zA A20
 clear A20
 have HC3:=zA H
 clear H
 go_enter Try.func26,Try.ntmps26
 go_upto_if 9 with (first|((with_reducible refine gate_dst (N:=1) rfl ?_);(try (refine gate_guard (by rfl) ?_;dsimp only));refine box_event ?hg (N:=1) ?hd (cs:=#[.slice A0_0 l0_0.length c0_0,.slice A0_1 l0_1.length c0_1]) (t:=29) ?hr ?_;(case hd=>rfl);(case hg=>rfl);(case hr=>first|(go_simp;done)|(go_simp;rfl));intro gb443 hg w4 hbox hb;have BK443:=zA (hbox);have GW443:=zA (zG hg (below_size zB):w.heap.size≤gb443);have GE443:=GW443;replace HB:=zA (below_step zB hb);clear hb hbox hg;have hcz5_0:w4.cell? ⟨gb443,0,none⟩=some (.slice A0_0 l0_0.length c0_0):=(blk_cell BK443.out 0).trans rfl;have hcz5_1:w4.cell? ⟨gb443,1,none⟩=some (.slice A0_1 l0_1.length c0_1):=(blk_cell BK443.out 1).trans rfl;have hfz5_0:=blk_frozen BK443.out 0;have hfz5_1:=blk_frozen BK443.out 1)|(go_at_call 54;(with_reducible refine (ancepsref38_Variables.calls k _ _ l0_0 t444 _ ?side1 ?side2 A2.out).mono ?_);(case side1=>exact zC (Kd.C_below HR0_0.out HB.out));(case side2=>exact HC0_0.out);rintro e w' ⟨rfl,⟨nd,rfl⟩⟩;(try first|exact ⟨rfl,_,World.drewN_drewN _ _ _⟩|exact ⟨rfl,_,Eq.trans (World.drewN_drewN _ _ _) (congrArg (World.drewN _) (Nat.add_assoc _ _ _))⟩)))
 repeat (go_quiet (first|((with_reducible refine gate_dst (N:=1) rfl ?_);(try (refine gate_guard (by rfl) ?_;dsimp only));refine box_event ?hg (N:=1) ?hd (cs:=#[.slice A0_0 l0_0.length c0_0,.slice A0_1 l0_1.length c0_1]) (t:=29) ?hr ?_;(case hd=>rfl);(case hg=>rfl);(case hr=>first|(go_simp;done)|(go_simp;rfl));intro gb443 hg w4 hbox hb;have BK443:=zA (hbox);have GW443:=zA (zG hg (below_size zB):w.heap.size≤gb443);have GE443:=GW443;replace HB:=zA (below_step zB hb);clear hb hbox hg;have hcz5_0:w4.cell? ⟨gb443,0,none⟩=some (.slice A0_0 l0_0.length c0_0):=(blk_cell BK443.out 0).trans rfl;have hcz5_1:w4.cell? ⟨gb443,1,none⟩=some (.slice A0_1 l0_1.length c0_1):=(blk_cell BK443.out 1).trans rfl;have hfz5_0:=blk_frozen BK443.out 0;have hfz5_1:=blk_frozen BK443.out 1)|(go_at_call 54;(with_reducible refine (ancepsref38_Variables.calls k _ _ l0_0 t444 _ ?side1 ?side2 A2.out).mono ?_);(case side1=>exact zC (Kd.C_below HR0_0.out HB.out));(case side2=>exact HC0_0.out);rintro e w' ⟨rfl,⟨nd,rfl⟩⟩;(try first|exact ⟨rfl,_,World.drewN_drewN _ _ _⟩|exact ⟨rfl,_,Eq.trans (World.drewN_drewN _ _ _) (congrArg (World.drewN _) (Nat.add_assoc _ _ _))⟩)));go_upto_if 9 with (first|((with_reducible refine gate_dst (N:=1) rfl ?_);(try (refine gate_guard (by rfl) ?_;dsimp only));refine box_event ?hg (N:=1) ?hd (cs:=#[.slice A0_0 l0_0.length c0_0,.slice A0_1 l0_1.length c0_1]) (t:=29) ?hr ?_;(case hd=>rfl);(case hg=>rfl);(case hr=>first|(go_simp;done)|(go_simp;rfl));intro gb443 hg w4 hbox hb;have BK443:=zA (hbox);have GW443:=zA (zG hg (below_size zB):w.heap.size≤gb443);have GE443:=GW443;replace HB:=zA (below_step zB hb);clear hb hbox hg;have hcz5_0:w4.cell? ⟨gb443,0,none⟩=some (.slice A0_0 l0_0.length c0_0):=(blk_cell BK443.out 0).trans rfl;have hcz5_1:w4.cell? ⟨gb443,1,none⟩=some (.slice A0_1 l0_1.length c0_1):=(blk_cell BK443.out 1).trans rfl;have hfz5_0:=blk_frozen BK443.out 0;have hfz5_1:=blk_frozen BK443.out 1)|(go_at_call 54;(with_reducible refine (ancepsref38_Variables.calls k _ _ l0_0 t444 _ ?side1 ?side2 A2.out).mono ?_);(case side1=>exact zC (Kd.C_below HR0_0.out HB.out));(case side2=>exact HC0_0.out);rintro e w' ⟨rfl,⟨nd,rfl⟩⟩;(try first|exact ⟨rfl,_,World.drewN_drewN _ _ _⟩|exact ⟨rfl,_,Eq.trans (World.drewN_drewN _ _ _) (congrArg (World.drewN _) (Nat.add_assoc _ _ _))⟩))))
 (try simp only [Act.put,zi,zs,zt])
 have H:=HC3.out
 clear HC3
 by_cases c6:t444=0
 ·rw [if_pos c6] at H
  have c6b0:(t444 == 0)=true:=beq_iff_eq.mpr c6
  have c6b1:(t444 != 0)=false:=bne_eq_false_iff_eq.mpr c6
  clear c6
  (first|rw [c6b0]|(simp only [i64_w,i32_w];rw [c6b0])|skip)
  (try rw [c6b1])
  have H':=zA H
  clear H
  go_wp2
  repeat (go_quiet (fail);try go_wp2)
  go_loopg [4] k (fun kq v4 w'=>∃ (x4_1:Int),v4=.int .i64 x4_1∧Aside0 (ancepsref38_Valid.l0 kq x4_1 l0_0 l0_1=some r)∧Aside0 (kq≤k)∧Aside0 (w'.heap[gb443]?=some (.cells #[(.slice A0_0 l0_0.length c0_0),(.slice A0_1 l0_1.length c0_1)] 29 (0,0)))∧Aside0 (Below w.heap.size w w'))
  case atStart=>exact ⟨(0),zT,H',⟨Nat.le_refl _⟩,⟨by refine zj ?_;exact BK443.out⟩,⟨by repeat (first|(with_reducible first|exact HB.out|apply below_alloc|apply pw_below_drewN|apply below_drew1|refine below_set ?_ GE443.out)|exact HB.out)⟩⟩
  case round=>
   clear H'
   try clear c6
   try clear c6b0
   try clear c6b1
   try clear hcz5_0
   try clear hcz5_1
   try clear hfz5_0
   try clear hfz5_1
   obtain ⟨x4_1,rfl,HA,HK1,BK443,HB⟩:=hrel
   cases gk with
   | zero=>exact absurd HA.out (by simp [ancepsref38_Valid.l0])
   | succ k1=>
    have H:=HA.out
    clear HA
    simp only [ancepsref38_Valid.l0] at H
    by_cases c7:x4_1<(l0_1.length:Int)
    ·rw [if_pos c7] at H
     have c7b0:decide (x4_1<(l0_1.length:Int))=true:=decide_eq_true c7
     clear c7
     have HC8:=zA H
     clear H
     have hcz9_0:wr.cell? ⟨gb443,0,none⟩=some (.slice A0_0 l0_0.length c0_0):=(blk_cell BK443.out 0).trans rfl
     have hcz9_1:wr.cell? ⟨gb443,1,none⟩=some (.slice A0_1 l0_1.length c0_1):=(blk_cell BK443.out 1).trans rfl
     have hfz9_0:=blk_frozen BK443.out 0
     have hfz9_1:=blk_frozen BK443.out 1
     go_upto_region 7 with (fail)
     repeat (go_quiet (fail);go_upto_region 7 with (fail))
     go_cut [35] (fun v35 wc=>∃ (kq:Nat) (x35_7:Bool),v35=.bool x35_7∧Aside0 (ancepsref38_Valid.j1 kq x4_1 x35_7 l0_0 l0_1=some r)∧Aside0 (kq≤k1)∧Aside0 (wc.heap[gb443]?=some (.cells #[(.slice A0_0 l0_0.length c0_0),(.slice A0_1 l0_1.length c0_1)] 29 (0,0)))∧Aside0 (Below w.heap.size w wc))
     case first=>
      have H:=HC8.out
      clear HC8
      by_cases c10:0≤x4_1
      ·rw [if_pos c10] at H
       have c10b0:decide (0≤x4_1)=true:=decide_eq_true c10
       clear c10
       (first|rw [c10b0]|(simp only [i64_w,i32_w];rw [c10b0])|skip)
       by_cases c11:(rd l0_1 x4_1)<0
       ·rw [if_pos c11] at H
        have c11b0:decide ((rd l0_1 x4_1)<0)=true:=decide_eq_true c11
        clear c11
        have H':=zA H
        clear H
        have hcz12_0:wr.cell? ⟨gb443,0,none⟩=some (.slice A0_0 l0_0.length c0_0):=(blk_cell BK443.out 0).trans rfl
        have hcz12_1:wr.cell? ⟨gb443,1,none⟩=some (.slice A0_1 l0_1.length c0_1):=(blk_cell BK443.out 1).trans rfl
        have hfz12_0:=blk_frozen BK443.out 0
        have hfz12_1:=blk_frozen BK443.out 1
        have p445:0≤(x4_1:Int):=of_decide_eq_true zh
        have q445:x4_1<(l0_1.length:Int):=of_decide_eq_true zh
        obtain ⟨ad445,e445,hx445_0⟩:=Kd.at_int HR0_1.out x4_1 p445 q445
        cases e445
        replace hx445_0:=(HB.out.cell (World.block_lt_of_cell? w _ hx445_0)).trans hx445_0
        replace p445:=eq_true p445
        replace q445:=eq_true q445
        go_wp2
        repeat (go_quiet (fail);try go_wp2)
        go_meet
        case rel=>exact ⟨_,(true),zT,H',⟨by have:=HK1.out;first|omega|exact Nat.le_refl _⟩,⟨by refine zj ?_;exact BK443.out⟩,⟨by repeat (first|(with_reducible first|exact HB.out|apply below_alloc|apply pw_below_drewN|apply below_drew1|refine below_set ?_ GE443.out)|exact HB.out)⟩⟩
       ·rw [if_neg c11] at H
        have c11b0:decide ((rd l0_1 x4_1)<0)=false:=decide_eq_false c11
        clear c11
        obtain ⟨ji13,hji13⟩:∃ j_:Int,(shl .i64 1 (l0_0.length:Int))=j_:=⟨_,rfl⟩
        replace H:(ancepsref38_Valid.j1 k1 x4_1 (decide ((rd l0_1 x4_1)≥(ji13))) l0_0 l0_1)=some r:=by first|(rw [hji13] at H;exact H)|(simp only [hji13] at H ⊢;exact H)
        have hji13_:(IntKind.i64.wrap (1 * 2 ^ min (l0_0.length:Int).toNat 64))=ji13:=hji13
        have hji13z:(l0_0.length:Int)≤64→(IntKind.i64.wrap (1 * 2 ^ (l0_0.length:Int).toNat))=ji13:=shl_small hji13
        have hji13p:(IntKind.i64.wrap (1 * 2 ^ min l0_0.length 64))=ji13:=hji13_
        have hji13q:(l0_0.length:Int)≤64→(IntKind.i64.wrap (1 * 2 ^ l0_0.length))=ji13:=hji13z
        have hji13r:(IntKind.i64.wrap (2 ^ min l0_0.length 64))=ji13:=by have h_:=hji13p;rw [Int.one_mul] at h_;exact h_
        have hji13s:(l0_0.length:Int)≤64→(IntKind.i64.wrap (2 ^ l0_0.length))=ji13:=fun hle_=>by have h_:=hji13q hle_;rw [Int.one_mul] at h_;exact h_
        have hji13u:(IntKind.i64.wrap (2 ^ min (l0_0.length:Int).toNat 64))=ji13:=by have h_:=hji13_;rw [Int.one_mul] at h_;exact h_
        have hji13v:(l0_0.length:Int)≤64→(IntKind.i64.wrap (2 ^ (l0_0.length:Int).toNat))=ji13:=fun hle_=>by have h_:=hji13z hle_;rw [Int.one_mul] at h_;exact h_
        have hji13y:(wrap64 (1 * 2 ^ min (l0_0.length:Int).toNat 64))=ji13:=(i64_w _).symm.trans hji13_
        have hji13x:(l0_0.length:Int)≤64→(wrap64 (1 * 2 ^ (l0_0.length:Int).toNat))=ji13:=fun h_=>(i64_w _).symm.trans (hji13z h_)
        have H':=zA H
        clear H
        have hcz14_0:wr.cell? ⟨gb443,0,none⟩=some (.slice A0_0 l0_0.length c0_0):=(blk_cell BK443.out 0).trans rfl
        have hcz14_1:wr.cell? ⟨gb443,1,none⟩=some (.slice A0_1 l0_1.length c0_1):=(blk_cell BK443.out 1).trans rfl
        have hfz14_0:=blk_frozen BK443.out 0
        have hfz14_1:=blk_frozen BK443.out 1
        have p445:0≤(x4_1:Int):=of_decide_eq_true zh
        have q445:x4_1<(l0_1.length:Int):=of_decide_eq_true zh
        obtain ⟨ad445,e445,hx445_0⟩:=Kd.at_int HR0_1.out x4_1 p445 q445
        cases e445
        replace hx445_0:=(HB.out.cell (World.block_lt_of_cell? w _ hx445_0)).trans hx445_0
        replace p445:=eq_true p445
        replace q445:=eq_true q445
        have p446:0≤(x4_1:Int):=of_decide_eq_true zh
        have q446:x4_1<(l0_1.length:Int):=of_decide_eq_true zh
        obtain ⟨ad446,e446,hx446_0⟩:=Kd.at_int HR0_1.out x4_1 p446 q446
        obtain rfl:ad445=ad446:=(by injection e446)
        replace hx446_0:=(HB.out.cell (World.block_lt_of_cell? w _ hx446_0)).trans hx446_0
        replace p446:=eq_true p446
        replace q446:=eq_true q446
        go_wp2
        repeat (go_quiet (fail);try go_wp2)
        go_meet
        case rel=>exact ⟨_,(decide ((rd l0_1 x4_1)≥(ji13))),(by first|rfl|(simp;done)|(simp only [← hji13] <;> (first|rfl|simp))|(simp [*];done)),H',⟨by have:=HK1.out;first|omega|exact Nat.le_refl _⟩,⟨by refine zj ?_;exact BK443.out⟩,⟨by repeat (first|(with_reducible first|exact HB.out|apply below_alloc|apply pw_below_drewN|apply below_drew1|refine below_set ?_ GE443.out)|exact HB.out)⟩⟩
      ·rw [if_neg c10] at H
       exact absurd H (by simp)
     case rest=>
      clear HC8
      try clear c6
      try clear c6b0
      try clear c6b1
      try clear c7
      try clear c7b0
      try clear hcz5_0
      try clear hcz5_1
      try clear hcz9_0
      try clear hcz9_1
      try clear hfz5_0
      try clear hfz5_1
      try clear hfz9_0
      try clear hfz9_1
      obtain ⟨kq,x35_7,rfl,HA,HJ7,BK443,HB⟩:=hcut
      cases kq with
      | zero=>exact absurd HA.out (by simp [ancepsref38_Valid.j1])
      | succ kj7=>
       have H:=HA.out
       clear HA
       simp only [ancepsref38_Valid.j1] at H
       by_cases c15:x35_7=true
       ·subst c15
        have H1:(some 6)=some r:=by rw [if_pos rfl] at H;exact H
        clear H
        have H:=H1
        clear H1
        obtain rfl:=Option.some.inj H
        go_wp2
        repeat (go_quiet (fail);try go_wp2)
        go_ret
        exact ⟨ze,by repeat (first|(with_reducible first|exact HB.out|apply below_alloc|apply pw_below_drewN|apply below_drew1|refine below_set ?_ GE443.out)|exact HB.out)⟩
       ·replace c15:=Bool.eq_false_iff.mpr c15
        subst c15
        have H1:(if x4_1>0 then (if 0≤x4_1 then (if x4_1<(l0_1.length:Int) then (if 0≤(wrap64 (x4_1 - 1)) then (if (wrap64 (x4_1 - 1))<(l0_1.length:Int) then (if (rd l0_1 x4_1)≤(rd l0_1 (wrap64 (x4_1 - 1))) then (some 18) else (ancepsref38_Valid.l0 kj7 (wrap64 (x4_1+1)) l0_0 l0_1)) else (none)) else (none)) else (none)) else (none)) else (ancepsref38_Valid.l0 kj7 (wrap64 (x4_1+1)) l0_0 l0_1))=some r:=by rw [if_neg (show ¬ (false=true) by decide)] at H;exact H
        clear H
        have H:=H1
        clear H1
        by_cases c16:x4_1>0
        ·rw [if_pos c16] at H
         have c16b0:decide (0<x4_1)=true:=decide_eq_true c16
         clear c16
         by_cases c17:0≤x4_1
         ·rw [if_pos c17] at H
          have c17b0:decide (0≤x4_1)=true:=decide_eq_true c17
          clear c17
          by_cases c18:x4_1<(l0_1.length:Int)
          ·rw [if_pos c18] at H
           have c18b0:decide (x4_1<(l0_1.length:Int))=true:=decide_eq_true c18
           clear c18
           obtain ⟨ji19,hji19⟩:∃ j_:Int,(wrap64 (x4_1 - 1))=j_:=⟨_,rfl⟩
           replace H:(if 0≤(ji19) then (if (ji19)<(l0_1.length:Int) then (if (rd l0_1 x4_1)≤(rd l0_1 (ji19)) then (some 18) else (ancepsref38_Valid.l0 kj7 (wrap64 (x4_1+1)) l0_0 l0_1)) else (none)) else (none))=some r:=by first|(rw [hji19] at H;exact H)|(simp only [hji19] at H ⊢;exact H)
           have hji19w:(IntKind.i64.wrap (x4_1 - 1))=ji19:=(i64_w _).trans hji19
           by_cases c20:0≤(ji19)
           ·rw [if_pos c20] at H
            have c20b0:decide (0≤(ji19))=true:=decide_eq_true c20
            clear c20
            by_cases c21:(ji19)<(l0_1.length:Int)
            ·rw [if_pos c21] at H
             have c21b0:decide ((ji19)<(l0_1.length:Int))=true:=decide_eq_true c21
             clear c21
             by_cases c22:(rd l0_1 x4_1)≤(rd l0_1 (ji19))
             ·rw [if_pos c22] at H
              have c22b0:decide ((rd l0_1 x4_1)≤(rd l0_1 (ji19)))=true:=decide_eq_true c22
              clear c22
              obtain rfl:=Option.some.inj H
              have hcz23_0:wc.cell? ⟨gb443,0,none⟩=some (.slice A0_0 l0_0.length c0_0):=(blk_cell BK443.out 0).trans rfl
              have hcz23_1:wc.cell? ⟨gb443,1,none⟩=some (.slice A0_1 l0_1.length c0_1):=(blk_cell BK443.out 1).trans rfl
              have hfz23_0:=blk_frozen BK443.out 0
              have hfz23_1:=blk_frozen BK443.out 1
              have p447:0≤(x4_1:Int):=of_decide_eq_true zh
              have q447:x4_1<(l0_1.length:Int):=of_decide_eq_true zh
              obtain ⟨ad447,e447,hx447_0⟩:=Kd.at_int HR0_1.out x4_1 p447 q447
              cases e447
              replace hx447_0:=(HB.out.cell (World.block_lt_of_cell? w _ hx447_0)).trans hx447_0
              replace p447:=eq_true p447
              replace q447:=eq_true q447
              have p448:0≤((ji19):Int):=of_decide_eq_true zh
              have q448:(ji19)<(l0_1.length:Int):=of_decide_eq_true zh
              obtain ⟨ad448,e448,hx448_0⟩:=Kd.at_int HR0_1.out (ji19) p448 q448
              obtain rfl:ad447=ad448:=(by injection e448)
              replace hx448_0:=(HB.out.cell (World.block_lt_of_cell? w _ hx448_0)).trans hx448_0
              replace p448:=eq_true p448
              replace q448:=eq_true q448
              go_wp2
              repeat (go_quiet (fail);try go_wp2)
              go_ret
              exact ⟨by first|rfl|(simp [errW_none,errW_some] <;> rfl)|(simp only [← hji19];first|rfl|(simp [errW_none,errW_some] <;> rfl))|(simp [*,errW_none,errW_some] <;> rfl),by repeat (first|(with_reducible first|exact HB.out|apply below_alloc|apply pw_below_drewN|apply below_drew1|refine below_set ?_ GE443.out)|exact HB.out)⟩
             ·rw [if_neg c22] at H
              have c22b0:decide ((rd l0_1 x4_1)≤(rd l0_1 (ji19)))=false:=decide_eq_false c22
              clear c22
              have H':=zA H
              clear H
              have hcz24_0:wc.cell? ⟨gb443,0,none⟩=some (.slice A0_0 l0_0.length c0_0):=(blk_cell BK443.out 0).trans rfl
              have hcz24_1:wc.cell? ⟨gb443,1,none⟩=some (.slice A0_1 l0_1.length c0_1):=(blk_cell BK443.out 1).trans rfl
              have hfz24_0:=blk_frozen BK443.out 0
              have hfz24_1:=blk_frozen BK443.out 1
              have p447:0≤(x4_1:Int):=of_decide_eq_true zh
              have q447:x4_1<(l0_1.length:Int):=of_decide_eq_true zh
              obtain ⟨ad447,e447,hx447_0⟩:=Kd.at_int HR0_1.out x4_1 p447 q447
              cases e447
              replace hx447_0:=(HB.out.cell (World.block_lt_of_cell? w _ hx447_0)).trans hx447_0
              replace p447:=eq_true p447
              replace q447:=eq_true q447
              have p448:0≤((ji19):Int):=of_decide_eq_true zh
              have q448:(ji19)<(l0_1.length:Int):=of_decide_eq_true zh
              obtain ⟨ad448,e448,hx448_0⟩:=Kd.at_int HR0_1.out (ji19) p448 q448
              obtain rfl:ad447=ad448:=(by injection e448)
              replace hx448_0:=(HB.out.cell (World.block_lt_of_cell? w _ hx448_0)).trans hx448_0
              replace p448:=eq_true p448
              replace q448:=eq_true q448
              go_wp2
              repeat (go_quiet (fail);try go_wp2)
              go_roundg kj7
              case measure=>have:=HK1.out;have:=HJ7.out;omega
              case rel=>exact ⟨(wrap64 (x4_1+1)),zT,H',⟨by have:=HK1.out;have:=HJ7.out;omega⟩,⟨by refine zj ?_;exact BK443.out⟩,⟨by repeat (first|(with_reducible first|exact HB.out|apply below_alloc|apply pw_below_drewN|apply below_drew1|refine below_set ?_ GE443.out)|exact HB.out)⟩⟩
            ·rw [if_neg c21] at H
             exact absurd H (by simp)
           ·rw [if_neg c20] at H
            exact absurd H (by simp)
          ·rw [if_neg c18] at H
           exact absurd H (by simp)
         ·rw [if_neg c17] at H
          exact absurd H (by simp)
        ·rw [if_neg c16] at H
         have c16b0:decide (0<x4_1)=false:=decide_eq_false c16
         clear c16
         have H':=zA H
         clear H
         go_wp2
         repeat (go_quiet (fail);try go_wp2)
         go_roundg kj7
         case measure=>have:=HK1.out;have:=HJ7.out;omega
         case rel=>exact ⟨(wrap64 (x4_1+1)),zT,H',⟨by have:=HK1.out;have:=HJ7.out;omega⟩,⟨by refine zj ?_;exact BK443.out⟩,⟨by repeat (first|(with_reducible first|exact HB.out|apply below_alloc|apply pw_below_drewN|apply below_drew1|refine below_set ?_ GE443.out)|exact HB.out)⟩⟩
    ·rw [if_neg c7] at H
     have c7b0:decide (x4_1<(l0_1.length:Int))=false:=decide_eq_false c7
     clear c7
     obtain rfl:=Option.some.inj H
     have hcz25_0:wr.cell? ⟨gb443,0,none⟩=some (.slice A0_0 l0_0.length c0_0):=(blk_cell BK443.out 0).trans rfl
     have hcz25_1:wr.cell? ⟨gb443,1,none⟩=some (.slice A0_1 l0_1.length c0_1):=(blk_cell BK443.out 1).trans rfl
     have hfz25_0:=blk_frozen BK443.out 0
     have hfz25_1:=blk_frozen BK443.out 1
     go_wp2
     repeat (go_quiet (fail);try go_wp2)
     go_ret
     exact ⟨ze,by repeat (first|(with_reducible first|exact HB.out|apply below_alloc|apply pw_below_drewN|apply below_drew1|refine below_set ?_ GE443.out)|exact HB.out)⟩
 ·rw [if_neg c6] at H
  have c6b0:(t444 == 0)=false:=beq_eq_false_iff_ne.mpr c6
  have c6b1:(t444 != 0)=true:=bne_iff_ne.mpr c6
  (first|rw [c6b0]|(simp only [i64_w,i32_w];rw [c6b0])|skip)
  (try rw [c6b1])
  obtain rfl:=Option.some.inj H
  go_wp2
  repeat (go_quiet (fail);try go_wp2)
  go_ret
  exact ⟨ze,by repeat (first|(with_reducible first|exact HB.out|apply below_alloc|apply pw_below_drewN|apply below_drew1|refine below_set ?_ GE443.out)|exact HB.out)⟩
def ancepsref38_Assignment.l0:Nat→List Int→Int→Int→Int→Option (Int)
 | 0,_,_,_,_=>none
 | k+1,x0,x1,x5,x6=>if x6<(x0.length:Int) then (if 0≤x6 then (if 0≤(rd x0 x6) then (ancepsref38_Assignment.l0 k x0 x1 (wrap64 (x5+(shl .i64 (Int.tmod (shr .i64 x1 x6) 2) (rd x0 x6)))) (wrap64 (x6+1))) else (none)) else (none)) else (some x5)
def ancepsref38_Assignment.f (k:Nat) (l0:List Int) (a1:Int):Option (Int):=ancepsref38_Assignment.l0 k l0 a1 0 0
theorem ancepsref38_Assignment.mono_l:∀ k,(∀ y0 y1 y2 y3,LeO (ancepsref38_Assignment.l0 k y0 y1 y2 y3) (ancepsref38_Assignment.l0 (k+1) y0 y1 y2 y3))
 | 0=>fun _ _ _ _ r h=>by simp [ancepsref38_Assignment.l0] at h
 | k+1=>by
  have ih0:=ancepsref38_Assignment.mono_l k
  ·intro y0 y1 y2 y3
   unfold ancepsref38_Assignment.l0
   repeat' first
   | (with_reducible exact ih0 _ _ _ _)
   | (with_reducible exact LeO.refl _)
   | (with_reducible exact LeO.none _)
   | (with_reducible refine LeO.ite ?_ ?_)
   | (with_reducible refine LeO.bind ?_ (fun _=>?_))
   | exact LeO.none _
   | refine LeO.ite ?_ ?_
   | refine LeO.bind ?_ (fun _=>?_)
theorem ancepsref38_Assignment.mono:∀ a0 a1 k,LeO (ancepsref38_Assignment.f k a0 a1) (ancepsref38_Assignment.f (k+1) a0 a1):=by
 intro a0 a1 k
 have ih0:=ancepsref38_Assignment.mono_l k
 unfold ancepsref38_Assignment.f
 repeat' first
   | (with_reducible exact ih0 _ _ _ _)
   | (with_reducible exact LeO.refl _)
   | (with_reducible exact LeO.none _)
   | (with_reducible refine LeO.ite ?_ ?_)
   | (with_reducible refine LeO.bind ?_ (fun _=>?_))
   | exact LeO.none _
   | refine LeO.ite ?_ ?_
   | refine LeO.bind ?_ (fun _=>?_)
set_option maxHeartbeats 8000000 in
set_option maxRecDepth 100000 in
theorem ancepsref38_Assignment.calls (k:Nat) (A0:Option Addr) (c0:Nat) (l0:List Int) (a1:Int) (r:Int) (w:World) (hr0:Kd.C (Kd.int .i64) w A0 l0.length l0) (hc0:l0.length≤c0) (h:ancepsref38_Assignment.f k l0 a1=some r) :
  Calls Try.prog 39 #[.slice A0 l0.length c0,.int .i64 a1] w fun e w'=>e=.returned (.int .i64 r)∧Drawn0 w w':=by
 have hu3:=Try.underlying3
 have HR0:=zA hr0
 have HC0:=zA hc0
 clear hr0 hc0
 have H:(ancepsref38_Assignment.l0 k l0 a1 0 0)=some r:=h
 clear h
 have H':=zA H
 clear H
 go_enter Try.func39,Try.ntmps39
 go_wp2
 repeat (go_quiet (fail);try go_wp2)
 go_loopg [5,6] k (fun kq v5 v6 w'=>∃ (x5_1:Int) (x6_1:Int),v5=.int .i64 x5_1∧v6=.int .i64 x6_1∧Aside0 (ancepsref38_Assignment.l0 kq l0 a1 x5_1 x6_1=some r)∧Aside0 (kq≤k)∧Drawn0 w w')
 case atStart=>exact ⟨(0),(0),zT,zT,H',⟨Nat.le_refl _⟩,by repeat (first|exact Drawn0.refl _|apply Drawn0.step)⟩
 case round=>
  clear H'
  obtain ⟨x5_1,x6_1,rfl,rfl,HA,HK1,⟨m1,rfl⟩⟩:=hrel
  cases gk with
  | zero=>exact absurd HA.out (by simp [ancepsref38_Assignment.l0])
  | succ k1=>
   have H:=HA.out
   clear HA
   simp only [ancepsref38_Assignment.l0] at H
   by_cases c3:x6_1<(l0.length:Int)
   ·rw [if_pos c3] at H
    have c3b0:decide (x6_1<(l0.length:Int))=true:=decide_eq_true c3
    clear c3
    by_cases c4:0≤x6_1
    ·rw [if_pos c4] at H
     have c4b0:=eq_true c4
     have c4b1:decide (0≤x6_1)=true:=decide_eq_true c4
     clear c4
     obtain ⟨ji5,hji5⟩:∃ j_:Int,(shr .i64 a1 x6_1)=j_:=⟨_,rfl⟩
     replace H:(if 0≤(rd l0 x6_1) then (ancepsref38_Assignment.l0 k1 l0 a1 (wrap64 (x5_1+(shl .i64 (Int.tmod (ji5) 2) (rd l0 x6_1)))) (wrap64 (x6_1+1))) else (none))=some r:=by first|(rw [hji5] at H;exact H)|(simp only [hji5] at H ⊢;exact H)
     have hji5_:(a1 / 2 ^ min x6_1.toNat 64)=ji5:=hji5
     have hji5z:x6_1≤64→(a1 / 2 ^ x6_1.toNat)=ji5:=shr_small hji5
     by_cases c6:0≤(rd l0 x6_1)
     ·rw [if_pos c6] at H
      have c6b0:=eq_true c6
      have c6b1:decide (0≤(rd l0 x6_1))=true:=decide_eq_true c6
      clear c6
      obtain ⟨ji7,hji7⟩:∃ j_:Int,(shl .i64 (Int.tmod (ji5) 2) (rd l0 x6_1))=j_:=⟨_,rfl⟩
      replace H:(ancepsref38_Assignment.l0 k1 l0 a1 (wrap64 (x5_1+(ji7))) (wrap64 (x6_1+1)))=some r:=by first|(rw [hji7] at H;exact H)|(simp only [hji7] at H ⊢;exact H)
      have hji7_:(IntKind.i64.wrap ((Int.tmod (ji5) 2) * 2 ^ min (rd l0 x6_1).toNat 64))=ji7:=hji7
      have hji7z:(rd l0 x6_1)≤64→(IntKind.i64.wrap ((Int.tmod (ji5) 2) * 2 ^ (rd l0 x6_1).toNat))=ji7:=shl_small hji7
      have hji7y:(wrap64 ((Int.tmod (ji5) 2) * 2 ^ min (rd l0 x6_1).toNat 64))=ji7:=(i64_w _).symm.trans hji7_
      have hji7x:(rd l0 x6_1)≤64→(wrap64 ((Int.tmod (ji5) 2) * 2 ^ (rd l0 x6_1).toNat))=ji7:=fun h_=>(i64_w _).symm.trans (hji7z h_)
      have H':=zA H
      clear H
      have p457:0≤(x6_1:Int):=of_decide_eq_true zh
      have q457:x6_1<(l0.length:Int):=of_decide_eq_true zh
      obtain ⟨ad457,e457,hx457_0⟩:=Kd.at_int HR0.out x6_1 p457 q457
      cases e457
      replace p457:=eq_true p457
      replace q457:=eq_true q457
      go_wp2
      repeat (go_quiet (fail);try go_wp2)
      go_roundg k1
      case measure=>have:=HK1.out;omega
      case rel=>exact ⟨(wrap64 (x5_1+(ji7))),(wrap64 (x6_1+1)),(by first|rfl|(simp;done)|(simp only [← hji7] <;> (first|rfl|simp))|(simp [*];done)),zT,H',⟨by have:=HK1.out;omega⟩,by repeat (first|exact Drawn0.refl _|apply Drawn0.step)⟩
     ·rw [if_neg c6] at H
      exact absurd H (by simp)
    ·rw [if_neg c4] at H
     exact absurd H (by simp)
   ·rw [if_neg c3] at H
    have c3b0:decide (x6_1<(l0.length:Int))=false:=decide_eq_false c3
    clear c3
    obtain rfl:=Option.some.inj H
    go_wp2
    repeat (go_quiet (fail);try go_wp2)
    go_ret
    exact ⟨by first|rfl|(simp;done)|(simp [*];done),by repeat (first|exact Drawn0.refl _|apply Drawn0.step)⟩
end Go.Proofs.Ythcfmdkhkikbcaa.T
