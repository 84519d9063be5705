import Derived.Test.YtngpkbbljnbojaaI0
namespace Go.Proofs.Ytngpkbbljnbojaa.I
open Go.RowKit Go.Proofs.YtngpkbbljnbojaaW.PrintWords Go.Proofs.YtngpkbbljnbojaaW.PrintLast Go.Proofs.YtngpkbbljnbojaaW.PrintMore
attribute [local go_sem] max2_int min2_int max_two min_two max_three min_three max_four min_four
set_option linter.unusedVariables false
set_option linter.unusedSimpArgs false
def slices_Index_int_int.l0:Nat→List Int→Int→Int→Int→Option (Int)
 | 0,_,_,_,_=>none
 | k+1,x0,x1,x7,x8=>if x8<x7 then (if 0≤x8 then (if x8<(x0.length:Int) then (if x1=(rd x0 x8) then (some x8) else (slices_Index_int_int.l0 k x0 x1 x7 (wrap64 (x8+1)))) else (none)) else (none)) else (some (-1))
def slices_Index_int_int.f (k:Nat) (l0:List Int) (a1:Int):Option (Int):=slices_Index_int_int.l0 k l0 a1 (l0.length:Int) 0
theorem slices_Index_int_int.mono_l:∀ k,(∀ y0 y1 y2 y3,LeO (slices_Index_int_int.l0 k y0 y1 y2 y3) (slices_Index_int_int.l0 (k+1) y0 y1 y2 y3))
 | 0=>fun _ _ _ _ r h=>by simp [slices_Index_int_int.l0] at h
 | k+1=>by
  have ih0:=slices_Index_int_int.mono_l k
  ·intro y0 y1 y2 y3
   unfold slices_Index_int_int.l0
   repeat' first
   | (with_reducible exact ih0 _ _ _ _)
   | (with_reducible exact LeO.refl _)
   | (with_reducible exact LeO.none _)
   | (with_reducible refine LeO.ite ?_ ?_)
   | (with_reducible refine LeO.bind ?_ (fun _=>?_))
   | exact LeO.none _
   | refine LeO.ite ?_ ?_
   | refine LeO.bind ?_ (fun _=>?_)
theorem slices_Index_int_int.mono:∀ a0 a1 k,LeO (slices_Index_int_int.f k a0 a1) (slices_Index_int_int.f (k+1) a0 a1):=by
 intro a0 a1 k;have ih0:=slices_Index_int_int.mono_l k
 unfold slices_Index_int_int.f
 repeat' first
   | (with_reducible exact ih0 _ _ _ _)
   | (with_reducible exact LeO.refl _)
   | (with_reducible exact LeO.none _)
   | (with_reducible refine LeO.ite ?_ ?_)
   | (with_reducible refine LeO.bind ?_ (fun _=>?_))
   | exact LeO.none _
   | refine LeO.ite ?_ ?_
   | refine LeO.bind ?_ (fun _=>?_)
set_option maxHeartbeats 8000000 in
set_option maxRecDepth 100000 in
theorem slices_Index_int_int.calls (k:Nat) (A0:Option Addr) (c0:Nat) (l0:List Int) (a1:Int) (r:Int) (w:World) (hr0:Kd.C (Kd.int .i64) w A0 l0.length l0) (hc0:l0.length≤c0) (h:slices_Index_int_int.f k l0 a1=some r) :
  Calls Try.prog 42 #[.slice A0 l0.length c0,.int .i64 a1] w fun e w'=>e=.returned (.int .i64 r)∧Drawn0 w w':=by
 have hu3:=Try.underlying3;have HR0:=zA hr0;have HC0:=zA hc0;clear hr0 hc0;have H:(slices_Index_int_int.l0 k l0 a1 (l0.length:Int) 0)=some r:=h;clear h;have H':=zA H;clear H
 go_enter Try.func42,Try.ntmps42
 go_wp2
 go_loopg [8] k (fun kq v8 w'=>∃ (x8_1:Int),v8=.int .i64 x8_1∧Aside0 (slices_Index_int_int.l0 kq l0 a1 (l0.length:Int) x8_1=some r)∧Aside0 (kq≤k)∧Drawn0 w w')
 case atStart=>exact ⟨(0),zT,H',⟨Nat.le_refl _⟩,by repeat (first|exact Drawn0.refl _|apply Drawn0.step)⟩
 case round=>
  clear H';obtain ⟨x8_1,rfl,HA,HK1,⟨m1,rfl⟩⟩:=hrel
  cases gk with
  | zero=>exact absurd HA.out (by simp [slices_Index_int_int.l0])
  | succ k1=>
   have H:=HA.out;clear HA;simp only [slices_Index_int_int.l0] at H
   by_cases c3:x8_1<(l0.length:Int)
   ·rw [if_pos c3] at H;have c3b0:decide (x8_1<(l0.length:Int))=true:=decide_eq_true c3;clear c3
    by_cases c4:0≤x8_1
    ·rw [if_pos c4] at H;have c4b0:decide (0≤x8_1)=true:=decide_eq_true c4;clear c4
     by_cases c5:x8_1<(l0.length:Int)
     ·rw [if_pos c5] at H;have c5b0:decide (x8_1<(l0.length:Int))=true:=decide_eq_true c5;clear c5
      by_cases c6:a1=(rd l0 x8_1)
      ·rw [if_pos c6] at H;have c6b0:(a1 == (rd l0 x8_1))=true:=beq_iff_eq.mpr c6;have c6b1:(a1 != (rd l0 x8_1))=false:=bne_eq_false_iff_eq.mpr c6;clear c6;obtain rfl:=Option.some.inj H;have p36:0≤(x8_1:Int):=of_decide_eq_true zh;have q36:x8_1<(l0.length:Int):=of_decide_eq_true zh;obtain ⟨ad36,e36,hx36_0⟩:=Kd.at_int HR0.out x8_1 p36 q36
       cases e36
       replace p36:=eq_true p36;replace q36:=eq_true q36
       go_wp2
       go_ret
       exact ⟨by first|rfl|(simp;done)|(simp [*];done),by repeat (first|exact Drawn0.refl _|apply Drawn0.step)⟩
      ·rw [if_neg c6] at H;have c6b0:(a1 == (rd l0 x8_1))=false:=beq_eq_false_iff_ne.mpr c6;have c6b1:(a1 != (rd l0 x8_1))=true:=bne_iff_ne.mpr c6;have H':=zA H;clear H;have p36:0≤(x8_1:Int):=of_decide_eq_true zh;have q36:x8_1<(l0.length:Int):=of_decide_eq_true zh;obtain ⟨ad36,e36,hx36_0⟩:=Kd.at_int HR0.out x8_1 p36 q36
       cases e36
       replace p36:=eq_true p36;replace q36:=eq_true q36
       go_wp2
       go_roundg k1
       case measure=>have:=HK1.out;omega
       case rel=>exact ⟨(wrap64 (x8_1+1)),zT,H',⟨by have:=HK1.out;omega⟩,by repeat (first|exact Drawn0.refl _|apply Drawn0.step)⟩
     ·rw [if_neg c5] at H;exact absurd H (by simp)
    ·rw [if_neg c4] at H;exact absurd H (by simp)
   ·rw [if_neg c3] at H;have c3b0:decide (x8_1<(l0.length:Int))=false:=decide_eq_false c3;clear c3;obtain rfl:=Option.some.inj H
    go_wp2
    go_ret
    exact ⟨by first|rfl|(simp;done)|(simp [*];done),by repeat (first|exact Drawn0.refl _|apply Drawn0.step)⟩
def slices_Contains_int_int.f (k:Nat) (l0:List Int) (a1:Int):Option (Bool):=(slices_Index_int_int.f k l0 a1).bind fun t56=>(some (decide (t56≥0)))
theorem slices_Contains_int_int.mono:∀ a0 a1 k,LeO (slices_Contains_int_int.f k a0 a1) (slices_Contains_int_int.f (k+1) a0 a1):=by
 intro a0 a1 k
 unfold slices_Contains_int_int.f
 repeat' first
   | (with_reducible exact slices_Index_int_int.mono _ _ _)
   | (with_reducible exact LeO.refl _)
   | (with_reducible exact LeO.none _)
   | (with_reducible refine LeO.ite ?_ ?_)
   | (with_reducible refine LeO.bind ?_ (fun _=>?_))
   | exact LeO.none _
   | refine LeO.ite ?_ ?_
   | refine LeO.bind ?_ (fun _=>?_)
set_option maxHeartbeats 8000000 in
set_option maxRecDepth 100000 in
theorem slices_Contains_int_int.calls (k:Nat) (A0:Option Addr) (c0:Nat) (l0:List Int) (a1:Int) (r:Bool) (w:World) (hr0:Kd.C (Kd.int .i64) w A0 l0.length l0) (hc0:l0.length≤c0) (h:slices_Contains_int_int.f k l0 a1=some r) :
  Calls Try.prog 15 #[.slice A0 l0.length c0,.int .i64 a1] w fun e w'=>e=.returned (.bool r)∧Drawn0 w w':=by
 have HR0:=zA hr0;have HC0:=zA hc0;clear hr0 hc0;have H:((slices_Index_int_int.f k l0 a1).bind fun t56=>(some (decide (t56≥0))))=some r:=h;clear h;replace H:=Option.bind_eq_some_iff.mp H;obtain ⟨t56,A30,H⟩:=H;replace H:(some (decide (t56≥0)))=some r:=H;have A3:=zA A30;clear A30;obtain rfl:=Option.some.inj H
 go_enter Try.func15,Try.ntmps15
 go_wp2_with (first|((with_reducible refine gate_callee (f:=42) rfl ?_);refine goesL_ (some 7) rfl rfl Try.func42 zK rfl #[.slice A0 l0.length c0,.int .i64 a1] rfl zM ?_;(with_reducible refine (slices_Index_int_int.calls k _ _ l0 a1 t56 _ ?side1 ?side2 A3.out).mono ?_);(case side1=>repeat (first|exact HR0.out|(with_reducible refine Kd.C_alloc ?_ _)|(with_reducible refine Kd.C_drewN ?_ _)|(with_reducible refine Kd.C_drew ?_)));(case side2=>exact HC0.out);rintro e w' ⟨rfl,⟨nd,rfl⟩⟩;refine ⟨_,rfl,?_⟩))
 go_ret
 exact ⟨by first|rfl|(simp;done)|(simp [*];done),by repeat (first|exact Drawn0.refl _|apply Drawn0.step)⟩
def table_ascending.l0:Nat→List Int→List Int→Int→Int→Option (Int)
 | 0,_,_,_,_=>none
 | k+1,x0,x8,x9,x10=>if x10<x9 then (if 0≤x10 then (if x10<(x8.length:Int) then (if (rd x8 x10)<0 then (some 6) else (if (rd x8 x10)≥24 then (some 6) else (if x10>0 then (if 0≤(wrap64 (x10 - 1)) then (if (wrap64 (x10 - 1))<(x0.length:Int) then (if (rd x0 (wrap64 (x10 - 1)))≥(rd x8 x10) then (some 18) else (table_ascending.l0 k x0 x8 x9 (wrap64 (x10+1)))) else (none)) else (none)) else (table_ascending.l0 k x0 x8 x9 (wrap64 (x10+1)))))) else (none)) else (none)) else (some 0)
def table_ascending.f (k:Nat) (l0:List Int):Option (Int):=if (l0.length:Int)>10 then (some 3) else (table_ascending.l0 k l0 l0 (l0.length:Int) 0)
theorem table_ascending.mono_l:∀ k,(∀ y0 y1 y2 y3,LeO (table_ascending.l0 k y0 y1 y2 y3) (table_ascending.l0 (k+1) y0 y1 y2 y3))
 | 0=>fun _ _ _ _ r h=>by simp [table_ascending.l0] at h
 | k+1=>by
  have ih0:=table_ascending.mono_l k
  ·intro y0 y1 y2 y3
   unfold table_ascending.l0
   repeat' first
   | (with_reducible exact ih0 _ _ _ _)
   | (with_reducible exact LeO.refl _)
   | (with_reducible exact LeO.none _)
   | (with_reducible refine LeO.ite ?_ ?_)
   | (with_reducible refine LeO.bind ?_ (fun _=>?_))
   | exact LeO.none _
   | refine LeO.ite ?_ ?_
   | refine LeO.bind ?_ (fun _=>?_)
theorem table_ascending.mono:∀ a0 k,LeO (table_ascending.f k a0) (table_ascending.f (k+1) a0):=by
 intro a0 k;have ih0:=table_ascending.mono_l k
 unfold table_ascending.f
 repeat' first
   | (with_reducible exact ih0 _ _ _ _)
   | (with_reducible exact LeO.refl _)
   | (with_reducible exact LeO.none _)
   | (with_reducible refine LeO.ite ?_ ?_)
   | (with_reducible refine LeO.bind ?_ (fun _=>?_))
   | exact LeO.none _
   | refine LeO.ite ?_ ?_
   | refine LeO.bind ?_ (fun _=>?_)
set_option maxHeartbeats 8000000 in
set_option maxRecDepth 100000 in
theorem table_ascending.calls (k:Nat) (A0:Option Addr) (c0:Nat) (l0:List Int) (r:Int) (w:World) (hr0:Kd.C (Kd.int .i64) w A0 l0.length l0) (hc0:l0.length≤c0) (h:table_ascending.f k l0=some r) :
  Calls Try.prog 57 #[.slice A0 l0.length c0] w fun e w'=>e=.returned (.int .i64 r)∧Drawn0 w w':=by
 have hu3:=Try.underlying3;have HR0:=zA hr0;have HC0:=zA hc0;clear hr0 hc0;have H:(if (l0.length:Int)>10 then (some 3) else (table_ascending.l0 k l0 l0 (l0.length:Int) 0))=some r:=h;clear h
 by_cases c2:(l0.length:Int)>10
 ·rw [if_pos c2] at H;have c2b0:decide (10<(l0.length:Int))=true:=decide_eq_true c2;have c2b1:decide (10<l0.length)=true:=decide_eq_true (by omega);clear c2;obtain rfl:=Option.some.inj H
  go_enter Try.func57,Try.ntmps57
  go_wp2
  go_ret
  exact ⟨by first|rfl|(simp;done)|(simp [*];done),by repeat (first|exact Drawn0.refl _|apply Drawn0.step)⟩
 ·rw [if_neg c2] at H;have c2b0:decide (10<(l0.length:Int))=false:=decide_eq_false c2;have c2b1:decide (10<l0.length)=false:=decide_eq_false (by omega);clear c2;have H':=zA H;clear H
  go_enter Try.func57,Try.ntmps57
  go_wp2
  go_loopg [10] k (fun kq v10 w'=>∃ (x10_1:Int),v10=.int .i64 x10_1∧Aside0 (table_ascending.l0 kq l0 l0 (l0.length:Int) x10_1=some r)∧Aside0 (kq≤k)∧Drawn0 w w')
  case atStart=>exact ⟨(0),zT,H',⟨Nat.le_refl _⟩,by repeat (first|exact Drawn0.refl _|apply Drawn0.step)⟩
  case round=>
   clear H'
   try clear c2
   try clear c2b0
   try clear c2b1
   obtain ⟨x10_1,rfl,HA,HK1,⟨m1,rfl⟩⟩:=hrel
   cases gk with
   | zero=>exact absurd HA.out (by simp [table_ascending.l0])
   | succ k1=>
    have H:=HA.out;clear HA;simp only [table_ascending.l0] at H
    by_cases c3:x10_1<(l0.length:Int)
    ·rw [if_pos c3] at H;have c3b0:decide (x10_1<(l0.length:Int))=true:=decide_eq_true c3;clear c3
     by_cases c4:0≤x10_1
     ·rw [if_pos c4] at H;have c4b0:decide (0≤x10_1)=true:=decide_eq_true c4;clear c4
      by_cases c5:x10_1<(l0.length:Int)
      ·rw [if_pos c5] at H;have c5b0:decide (x10_1<(l0.length:Int))=true:=decide_eq_true c5;clear c5
       by_cases c6:(rd l0 x10_1)<0
       ·rw [if_pos c6] at H;have c6b0:decide ((rd l0 x10_1)<0)=true:=decide_eq_true c6;clear c6;obtain rfl:=Option.some.inj H;have p24:0≤(x10_1:Int):=of_decide_eq_true zh;have q24:x10_1<(l0.length:Int):=of_decide_eq_true zh;obtain ⟨ad24,e24,hx24_0⟩:=Kd.at_int HR0.out x10_1 p24 q24
        cases e24
        replace p24:=eq_true p24;replace q24:=eq_true q24
        go_wp2
        go_ret
        exact ⟨by first|rfl|(simp;done)|(simp [*];done),by repeat (first|exact Drawn0.refl _|apply Drawn0.step)⟩
       ·rw [if_neg c6] at H;have c6b0:decide ((rd l0 x10_1)<0)=false:=decide_eq_false c6;clear c6
        by_cases c7:(rd l0 x10_1)≥24
        ·rw [if_pos c7] at H;have c7b0:decide (24≤(rd l0 x10_1))=true:=decide_eq_true c7;clear c7;obtain rfl:=Option.some.inj H;have p24:0≤(x10_1:Int):=of_decide_eq_true zh;have q24:x10_1<(l0.length:Int):=of_decide_eq_true zh;obtain ⟨ad24,e24,hx24_0⟩:=Kd.at_int HR0.out x10_1 p24 q24
         cases e24
         replace p24:=eq_true p24;replace q24:=eq_true q24
         go_wp2
         go_ret
         exact ⟨by first|rfl|(simp;done)|(simp [*];done),by repeat (first|exact Drawn0.refl _|apply Drawn0.step)⟩
        ·rw [if_neg c7] at H;have c7b0:decide (24≤(rd l0 x10_1))=false:=decide_eq_false c7;clear c7
         by_cases c8:x10_1>0
         ·rw [if_pos c8] at H;have c8b0:decide (0<x10_1)=true:=decide_eq_true c8;clear c8
          obtain ⟨ji9,hji9⟩:∃ j_:Int,(wrap64 (x10_1 - 1))=j_:=⟨_,rfl⟩
          replace H:(if 0≤(ji9) then (if (ji9)<(l0.length:Int) then (if (rd l0 (ji9))≥(rd l0 x10_1) then (some 18) else (table_ascending.l0 k1 l0 l0 (l0.length:Int) (wrap64 (x10_1+1)))) else (none)) else (none))=some r:=by first|(rw [hji9] at H;exact H)|(simp only [hji9] at H ⊢;exact H)
          have hji9w:(IntKind.i64.wrap (x10_1 - 1))=ji9:=(i64_w _).trans hji9
          by_cases c10:0≤(ji9)
          ·rw [if_pos c10] at H;have c10b0:decide (0≤(ji9))=true:=decide_eq_true c10;clear c10
           by_cases c11:(ji9)<(l0.length:Int)
           ·rw [if_pos c11] at H;have c11b0:decide ((ji9)<(l0.length:Int))=true:=decide_eq_true c11;clear c11
            by_cases c12:(rd l0 (ji9))≥(rd l0 x10_1)
            ·rw [if_pos c12] at H;have c12b0:decide ((rd l0 x10_1)≤(rd l0 (ji9)))=true:=decide_eq_true c12;clear c12;obtain rfl:=Option.some.inj H;have p24:0≤(x10_1:Int):=of_decide_eq_true zh;have q24:x10_1<(l0.length:Int):=of_decide_eq_true zh;obtain ⟨ad24,e24,hx24_0⟩:=Kd.at_int HR0.out x10_1 p24 q24
             cases e24
             replace p24:=eq_true p24;replace q24:=eq_true q24;have p35:0≤((ji9):Int):=of_decide_eq_true zh;have q35:(ji9)<(l0.length:Int):=of_decide_eq_true zh;obtain ⟨ad35,e35,hx35_0⟩:=Kd.at_int HR0.out (ji9) p35 q35
             obtain rfl:ad24=ad35:=(by injection e35)
             replace p35:=eq_true p35;replace q35:=eq_true q35
             go_wp2
             go_ret
             exact ⟨by first|rfl|(simp;done)|(simp only [← hji9] <;> (first|rfl|simp))|(simp [*];done),by repeat (first|exact Drawn0.refl _|apply Drawn0.step)⟩
            ·rw [if_neg c12] at H;have c12b0:decide ((rd l0 x10_1)≤(rd l0 (ji9)))=false:=decide_eq_false c12;clear c12;have H':=zA H;clear H;have p24:0≤(x10_1:Int):=of_decide_eq_true zh;have q24:x10_1<(l0.length:Int):=of_decide_eq_true zh;obtain ⟨ad24,e24,hx24_0⟩:=Kd.at_int HR0.out x10_1 p24 q24
             cases e24
             replace p24:=eq_true p24;replace q24:=eq_true q24;have p35:0≤((ji9):Int):=of_decide_eq_true zh;have q35:(ji9)<(l0.length:Int):=of_decide_eq_true zh;obtain ⟨ad35,e35,hx35_0⟩:=Kd.at_int HR0.out (ji9) p35 q35
             obtain rfl:ad24=ad35:=(by injection e35)
             replace p35:=eq_true p35;replace q35:=eq_true q35
             go_wp2
             go_roundg k1
             case measure=>have:=HK1.out;omega
             case rel=>exact ⟨(wrap64 (x10_1+1)),zT,H',⟨by have:=HK1.out;omega⟩,by repeat (first|exact Drawn0.refl _|apply Drawn0.step)⟩
           ·rw [if_neg c11] at H;exact absurd H (by simp)
          ·rw [if_neg c10] at H;exact absurd H (by simp)
         ·rw [if_neg c8] at H;have c8b0:decide (0<x10_1)=false:=decide_eq_false c8;clear c8;have H':=zA H;clear H;have p24:0≤(x10_1:Int):=of_decide_eq_true zh;have q24:x10_1<(l0.length:Int):=of_decide_eq_true zh;obtain ⟨ad24,e24,hx24_0⟩:=Kd.at_int HR0.out x10_1 p24 q24
          cases e24
          replace p24:=eq_true p24;replace q24:=eq_true q24
          go_wp2
          go_roundg k1
          case measure=>have:=HK1.out;omega
          case rel=>exact ⟨(wrap64 (x10_1+1)),zT,H',⟨by have:=HK1.out;omega⟩,by repeat (first|exact Drawn0.refl _|apply Drawn0.step)⟩
      ·rw [if_neg c5] at H;exact absurd H (by simp)
     ·rw [if_neg c4] at H;exact absurd H (by simp)
    ·rw [if_neg c3] at H;have c3b0:decide (x10_1<(l0.length:Int))=false:=decide_eq_false c3;clear c3;obtain rfl:=Option.some.inj H
     go_wp2
     go_ret
     exact ⟨by first|rfl|(simp;done)|(simp [*];done),by repeat (first|exact Drawn0.refl _|apply Drawn0.step)⟩
def table_Valid.l0:Nat→List Int→Int→Int→List Int→List Int→Option (Int)
 | 0,_,_,_,_,_=>none
 | k+1,x13,x14,x15,x55,x49=>if x15<x14 then (if 0≤x15 then (if x15<(x13.length:Int) then (if (rd x13 x15)<0 then (some 6) else (if (rd x13 x15)≥(shl .i64 1 (x55.length:Int)) then (some 6) else (if x15>0 then (if 0≤(wrap64 (x15 - 1)) then (if (wrap64 (x15 - 1))<(x49.length:Int) then (if (rd x49 (wrap64 (x15 - 1)))≥(rd x13 x15) then (some 18) else (table_Valid.l0 k x13 x14 (wrap64 (x15+1)) x55 x49)) else (none)) else (none)) else (table_Valid.l0 k x13 x14 (wrap64 (x15+1)) x55 x49)))) else (none)) else (none)) else (some 0)
def table_Valid.f (k:Nat) (l0_0:List Int) (l0_1:List Int):Option (Int):=(table_ascending.f k l0_0).bind fun t43=>(if t43=0 then (table_Valid.l0 k l0_1 (l0_1.length:Int) 0 l0_0 l0_1) else (some t43))
theorem table_Valid.mono_l:∀ k,(∀ y0 y1 y2 y3 y4,LeO (table_Valid.l0 k y0 y1 y2 y3 y4) (table_Valid.l0 (k+1) y0 y1 y2 y3 y4))
 | 0=>fun _ _ _ _ _ r h=>by simp [table_Valid.l0] at h
 | k+1=>by
  have ih0:=table_Valid.mono_l k
  ·intro y0 y1 y2 y3 y4
   unfold table_Valid.l0
   repeat' first
   | (with_reducible exact ih0 _ _ _ _ _)
   | (with_reducible exact table_ascending.mono _ _)
   | (with_reducible exact LeO.refl _)
   | (with_reducible exact LeO.none _)
   | (with_reducible refine LeO.ite ?_ ?_)
   | (with_reducible refine LeO.bind ?_ (fun _=>?_))
   | exact LeO.none _
   | refine LeO.ite ?_ ?_
   | refine LeO.bind ?_ (fun _=>?_)
theorem table_Valid.mono:∀ a0 a1 k,LeO (table_Valid.f k a0 a1) (table_Valid.f (k+1) a0 a1):=by
 intro a0 a1 k;have ih0:=table_Valid.mono_l k
 unfold table_Valid.f
 repeat' first
   | (with_reducible exact ih0 _ _ _ _ _)
   | (with_reducible exact table_ascending.mono _ _)
   | (with_reducible exact LeO.refl _)
   | (with_reducible exact LeO.none _)
   | (with_reducible refine LeO.ite ?_ ?_)
   | (with_reducible refine LeO.bind ?_ (fun _=>?_))
   | exact LeO.none _
   | refine LeO.ite ?_ ?_
   | refine LeO.bind ?_ (fun _=>?_)
set_option maxHeartbeats 8000000 in
set_option maxRecDepth 100000 in
theorem table_Valid.calls (k:Nat) (A0_0:Option Addr) (c0_0:Nat) (l0_0:List Int) (A0_1:Option Addr) (c0_1:Nat) (l0_1:List Int) (r:Int) (w:World) (hr0_0:Kd.C (Kd.int .i64) w A0_0 l0_0.length l0_0) (hc0_0:l0_0.length≤c0_0) (hr0_1:Kd.C (Kd.int .i64) w A0_1 l0_1.length l0_1) (hc0_1:l0_1.length≤c0_1) (h:table_Valid.f k l0_0 l0_1=some r) :
  Calls Try.prog 37 #[.agg #[.slice A0_0 l0_0.length c0_0,.slice A0_1 l0_1.length c0_1]] w fun e w'=>e=.returned (.int .i64 r)∧Below w.heap.size w w':=by
 have hu34:=Try.underlying34;have hu29:=Try.underlying29;have hu3:=Try.underlying3;have HR0_0:=zA hr0_0;have HC0_0:=zA hc0_0;clear hr0_0 hc0_0;have HR0_1:=zA hr0_1;have HC0_1:=zA hc0_1;clear hr0_1 hc0_1;have HB:=zA (Below.refl w.heap.size w);have H:((table_ascending.f k l0_0).bind fun t43=>(if t43=0 then (table_Valid.l0 k l0_1 (l0_1.length:Int) 0 l0_0 l0_1) else (some t43)))=some r:=h;clear h;replace H:=Option.bind_eq_some_iff.mp H;obtain ⟨t43,A20,H⟩:=H;replace H:(if t43=0 then (table_Valid.l0 k l0_1 (l0_1.length:Int) 0 l0_0 l0_1) else (some t43))=some r:=H;have A2:=zA A20;clear A20;have HC3:=zA H;clear H
 go_enter Try.func37,Try.ntmps37
 go_upto_if 10 with (first|((with_reducible refine gate_dst (N:=1) rfl ?_);(try (refine gate_guard (by rfl) ?_;dsimp only));refine box_event ?hg (N:=1) ?hd (cs:=#[.slice A0_0 l0_0.length c0_0,.slice A0_1 l0_1.length c0_1]) (t:=34) ?hr ?_;(case hd=>rfl);(case hg=>rfl);(case hr=>first|(go_simp;done)|(go_simp;rfl));intro gb25 hg w4 hbox hb;have BK25:=zA (hbox);have GW25:=zA (zG hg (below_size zB):w.heap.size≤gb25);have GE25:=GW25;replace HB:=zA (below_step zB hb);clear hb hbox hg;have hcz5_0:w4.cell? ⟨gb25,0,none⟩=some (.slice A0_0 l0_0.length c0_0):=(blk_cell BK25.out 0).trans rfl;have hcz5_1:w4.cell? ⟨gb25,1,none⟩=some (.slice A0_1 l0_1.length c0_1):=(blk_cell BK25.out 1).trans rfl;have hfz5_0:=blk_frozen BK25.out 0;have hfz5_1:=blk_frozen BK25.out 1)|((with_reducible refine gate_callee (f:=57) rfl ?_);refine goesL_ (some 8) rfl rfl Try.func57 zK rfl #[.slice A0_0 l0_0.length c0_0] rfl zM ?_;(with_reducible refine (table_ascending.calls k _ _ l0_0 t43 _ ?side1 ?side2 A2.out).mono ?_);(case side1=>exact zC (Kd.C_below HR0_0.out HB.out));(case side2=>exact HC0_0.out);rintro e w' ⟨rfl,⟨nd,rfl⟩⟩;refine ⟨_,rfl,?_⟩))
 (try simp only [Act.put,zi,zs,zt]);have H:=HC3.out;clear HC3
 by_cases c6:t43=0
 ·rw [if_pos c6] at H;have c6b0:(t43 == 0)=true:=beq_iff_eq.mpr c6;have c6b1:(t43 != 0)=false:=bne_eq_false_iff_eq.mpr c6;clear c6
  (first|rw [c6b0]|(simp only [i64_w,i32_w];rw [c6b0])|skip)
  (try rw [c6b1]);have H':=zA H;clear H;have hcz7_0:w4.cell? ⟨gb25,0,none⟩=some (.slice A0_0 l0_0.length c0_0):=(blk_cell BK25.out 0).trans rfl;have hcz7_1:w4.cell? ⟨gb25,1,none⟩=some (.slice A0_1 l0_1.length c0_1):=(blk_cell BK25.out 1).trans rfl;have hfz7_0:=blk_frozen BK25.out 0;have hfz7_1:=blk_frozen BK25.out 1
  go_wp2
  go_loopg [15] k (fun kq v15 w'=>∃ (x15_1:Int),v15=.int .i64 x15_1∧Aside0 (table_Valid.l0 kq l0_1 (l0_1.length:Int) x15_1 l0_0 l0_1=some r)∧Aside0 (kq≤k)∧Aside0 (w'.heap[gb25]?=some (.cells #[(.slice A0_0 l0_0.length c0_0),(.slice A0_1 l0_1.length c0_1)] 34 (0,0)))∧Aside0 (Below w.heap.size w w'))
  case atStart=>exact ⟨(0),zT,H',⟨Nat.le_refl _⟩,⟨by refine zj ?_;exact BK25.out⟩,⟨zv1 HB GE25⟩⟩
  case round=>
   clear H'
   try clear c6
   try clear c6b0
   try clear c6b1
   try clear hcz5_0
   try clear hcz5_1
   try clear hcz7_0
   try clear hcz7_1
   try clear hfz5_0
   try clear hfz5_1
   try clear hfz7_0
   try clear hfz7_1
   obtain ⟨x15_1,rfl,HA,HK1,BK25,HB⟩:=hrel
   cases gk with
   | zero=>exact absurd HA.out (by simp [table_Valid.l0])
   | succ k1=>
    have H:=HA.out;clear HA;simp only [table_Valid.l0] at H
    by_cases c8:x15_1<(l0_1.length:Int)
    ·rw [if_pos c8] at H;have c8b0:decide (x15_1<(l0_1.length:Int))=true:=decide_eq_true c8;clear c8
     by_cases c9:0≤x15_1
     ·rw [if_pos c9] at H;have c9b0:decide (0≤x15_1)=true:=decide_eq_true c9;clear c9
      by_cases c10:x15_1<(l0_1.length:Int)
      ·rw [if_pos c10] at H;have c10b0:decide (x15_1<(l0_1.length:Int))=true:=decide_eq_true c10;clear c10
       by_cases c11:(rd l0_1 x15_1)<0
       ·rw [if_pos c11] at H;have c11b0:decide ((rd l0_1 x15_1)<0)=true:=decide_eq_true c11;clear c11;obtain rfl:=Option.some.inj H;have p23:0≤(x15_1:Int):=of_decide_eq_true zh;have q23:x15_1<(l0_1.length:Int):=of_decide_eq_true zh;obtain ⟨ad23,e23,hx23_0⟩:=Kd.at_int HR0_1.out x15_1 p23 q23
        cases e23
        replace hx23_0:=(HB.out.cell (World.block_lt_of_cell? w _ hx23_0)).trans hx23_0;replace p23:=eq_true p23;replace q23:=eq_true q23
        go_wp2
        go_ret
        exact ⟨ze,zv1 HB GE25⟩
       ·rw [if_neg c11] at H;have c11b0:decide ((rd l0_1 x15_1)<0)=false:=decide_eq_false c11;clear c11
        obtain ⟨ji12,hji12⟩:∃ j_:Int,(shl .i64 1 (l0_0.length:Int))=j_:=⟨_,rfl⟩
        replace H:(if (rd l0_1 x15_1)≥(ji12) then (some 6) else (if x15_1>0 then (if 0≤(wrap64 (x15_1 - 1)) then (if (wrap64 (x15_1 - 1))<(l0_1.length:Int) then (if (rd l0_1 (wrap64 (x15_1 - 1)))≥(rd l0_1 x15_1) then (some 18) else (table_Valid.l0 k1 l0_1 (l0_1.length:Int) (wrap64 (x15_1+1)) l0_0 l0_1)) else (none)) else (none)) else (table_Valid.l0 k1 l0_1 (l0_1.length:Int) (wrap64 (x15_1+1)) l0_0 l0_1)))=some r:=by first|(rw [hji12] at H;exact H)|(simp only [hji12] at H ⊢;exact H)
        have hji12_:(IntKind.i64.wrap (1 * 2 ^ min (l0_0.length:Int).toNat 64))=ji12:=hji12;have hji12z:(l0_0.length:Int)≤64→(IntKind.i64.wrap (1 * 2 ^ (l0_0.length:Int).toNat))=ji12:=shl_small hji12;have hji12p:(IntKind.i64.wrap (1 * 2 ^ min l0_0.length 64))=ji12:=hji12_;have hji12q:(l0_0.length:Int)≤64→(IntKind.i64.wrap (1 * 2 ^ l0_0.length))=ji12:=hji12z
        have hji12r:(IntKind.i64.wrap (2 ^ min l0_0.length 64))=ji12:=by have h_:=hji12p;rw [Int.one_mul] at h_;exact h_
        have hji12s:(l0_0.length:Int)≤64→(IntKind.i64.wrap (2 ^ l0_0.length))=ji12:=fun hle_=>by have h_:=hji12q hle_;rw [Int.one_mul] at h_;exact h_
        have hji12u:(IntKind.i64.wrap (2 ^ min (l0_0.length:Int).toNat 64))=ji12:=by have h_:=hji12_;rw [Int.one_mul] at h_;exact h_
        have hji12v:(l0_0.length:Int)≤64→(IntKind.i64.wrap (2 ^ (l0_0.length:Int).toNat))=ji12:=fun hle_=>by have h_:=hji12z hle_;rw [Int.one_mul] at h_;exact h_
        have hji12y:(wrap64 (1 * 2 ^ min (l0_0.length:Int).toNat 64))=ji12:=(i64_w _).symm.trans hji12_
        have hji12x:(l0_0.length:Int)≤64→(wrap64 (1 * 2 ^ (l0_0.length:Int).toNat))=ji12:=fun h_=>(i64_w _).symm.trans (hji12z h_)
        by_cases c13:(rd l0_1 x15_1)≥(ji12)
        ·rw [if_pos c13] at H;have c13b0:decide ((ji12)≤(rd l0_1 x15_1))=true:=decide_eq_true c13;clear c13;obtain rfl:=Option.some.inj H;have p23:0≤(x15_1:Int):=of_decide_eq_true zh;have q23:x15_1<(l0_1.length:Int):=of_decide_eq_true zh;obtain ⟨ad23,e23,hx23_0⟩:=Kd.at_int HR0_1.out x15_1 p23 q23
         cases e23
         replace hx23_0:=(HB.out.cell (World.block_lt_of_cell? w _ hx23_0)).trans hx23_0;replace p23:=eq_true p23;replace q23:=eq_true q23;have hcz14_0:wr.cell? ⟨gb25,0,none⟩=some (.slice A0_0 l0_0.length c0_0):=(blk_cell BK25.out 0).trans rfl;have hcz14_1:wr.cell? ⟨gb25,1,none⟩=some (.slice (some ad23) l0_1.length c0_1):=(blk_cell BK25.out 1).trans rfl;have hfz14_0:=blk_frozen BK25.out 0;have hfz14_1:=blk_frozen BK25.out 1
         go_wp2
         go_ret
         exact ⟨by first|rfl|(simp [errW_none,errW_some] <;> rfl)|(simp only [← hji12];first|rfl|(simp [errW_none,errW_some] <;> rfl))|(simp [*,errW_none,errW_some] <;> rfl),zv1 HB GE25⟩
        ·rw [if_neg c13] at H;have c13b0:decide ((ji12)≤(rd l0_1 x15_1))=false:=decide_eq_false c13;clear c13
         by_cases c15:x15_1>0
         ·rw [if_pos c15] at H;have c15b0:decide (0<x15_1)=true:=decide_eq_true c15;clear c15
          obtain ⟨ji16,hji16⟩:∃ j_:Int,(wrap64 (x15_1 - 1))=j_:=⟨_,rfl⟩
          replace H:(if 0≤(ji16) then (if (ji16)<(l0_1.length:Int) then (if (rd l0_1 (ji16))≥(rd l0_1 x15_1) then (some 18) else (table_Valid.l0 k1 l0_1 (l0_1.length:Int) (wrap64 (x15_1+1)) l0_0 l0_1)) else (none)) else (none))=some r:=by first|(rw [hji16] at H;exact H)|(simp only [hji16] at H ⊢;exact H)
          have hji16w:(IntKind.i64.wrap (x15_1 - 1))=ji16:=(i64_w _).trans hji16
          by_cases c17:0≤(ji16)
          ·rw [if_pos c17] at H;have c17b0:decide (0≤(ji16))=true:=decide_eq_true c17;clear c17
           by_cases c18:(ji16)<(l0_1.length:Int)
           ·rw [if_pos c18] at H;have c18b0:decide ((ji16)<(l0_1.length:Int))=true:=decide_eq_true c18;clear c18
            by_cases c19:(rd l0_1 (ji16))≥(rd l0_1 x15_1)
            ·rw [if_pos c19] at H;have c19b0:decide ((rd l0_1 x15_1)≤(rd l0_1 (ji16)))=true:=decide_eq_true c19;clear c19;obtain rfl:=Option.some.inj H;have p23:0≤(x15_1:Int):=of_decide_eq_true zh;have q23:x15_1<(l0_1.length:Int):=of_decide_eq_true zh;obtain ⟨ad23,e23,hx23_0⟩:=Kd.at_int HR0_1.out x15_1 p23 q23
             cases e23
             replace hx23_0:=(HB.out.cell (World.block_lt_of_cell? w _ hx23_0)).trans hx23_0;replace p23:=eq_true p23;replace q23:=eq_true q23;have hcz20_0:wr.cell? ⟨gb25,0,none⟩=some (.slice A0_0 l0_0.length c0_0):=(blk_cell BK25.out 0).trans rfl;have hcz20_1:wr.cell? ⟨gb25,1,none⟩=some (.slice (some ad23) l0_1.length c0_1):=(blk_cell BK25.out 1).trans rfl;have hfz20_0:=blk_frozen BK25.out 0;have hfz20_1:=blk_frozen BK25.out 1;have p33:0≤((ji16):Int):=of_decide_eq_true zh;have q33:(ji16)<(l0_1.length:Int):=of_decide_eq_true zh;obtain ⟨ad33,e33,hx33_0⟩:=Kd.at_int HR0_1.out (ji16) p33 q33
             obtain rfl:ad23=ad33:=(by injection e33)
             replace hx33_0:=(HB.out.cell (World.block_lt_of_cell? w _ hx33_0)).trans hx33_0;replace p33:=eq_true p33;replace q33:=eq_true q33
             go_wp2
             go_ret
             exact ⟨by first|rfl|(simp [errW_none,errW_some] <;> rfl)|(simp only [← hji12,← hji16];first|rfl|(simp [errW_none,errW_some] <;> rfl))|(simp [*,errW_none,errW_some] <;> rfl),zv1 HB GE25⟩
            ·rw [if_neg c19] at H;have c19b0:decide ((rd l0_1 x15_1)≤(rd l0_1 (ji16)))=false:=decide_eq_false c19;clear c19;have H':=zA H;clear H;have p23:0≤(x15_1:Int):=of_decide_eq_true zh;have q23:x15_1<(l0_1.length:Int):=of_decide_eq_true zh;obtain ⟨ad23,e23,hx23_0⟩:=Kd.at_int HR0_1.out x15_1 p23 q23
             cases e23
             replace hx23_0:=(HB.out.cell (World.block_lt_of_cell? w _ hx23_0)).trans hx23_0;replace p23:=eq_true p23;replace q23:=eq_true q23;have hcz21_0:wr.cell? ⟨gb25,0,none⟩=some (.slice A0_0 l0_0.length c0_0):=(blk_cell BK25.out 0).trans rfl;have hcz21_1:wr.cell? ⟨gb25,1,none⟩=some (.slice (some ad23) l0_1.length c0_1):=(blk_cell BK25.out 1).trans rfl;have hfz21_0:=blk_frozen BK25.out 0;have hfz21_1:=blk_frozen BK25.out 1;have p33:0≤((ji16):Int):=of_decide_eq_true zh;have q33:(ji16)<(l0_1.length:Int):=of_decide_eq_true zh;obtain ⟨ad33,e33,hx33_0⟩:=Kd.at_int HR0_1.out (ji16) p33 q33
             obtain rfl:ad23=ad33:=(by injection e33)
             replace hx33_0:=(HB.out.cell (World.block_lt_of_cell? w _ hx33_0)).trans hx33_0;replace p33:=eq_true p33;replace q33:=eq_true q33
             go_wp2
             go_roundg k1
             case measure=>have:=HK1.out;omega
             case rel=>exact ⟨(wrap64 (x15_1+1)),zT,H',⟨by have:=HK1.out;omega⟩,⟨by refine zj ?_;exact BK25.out⟩,⟨zv1 HB GE25⟩⟩
           ·rw [if_neg c18] at H;exact absurd H (by simp)
          ·rw [if_neg c17] at H;exact absurd H (by simp)
         ·rw [if_neg c15] at H;have c15b0:decide (0<x15_1)=false:=decide_eq_false c15;clear c15;have H':=zA H;clear H;have p23:0≤(x15_1:Int):=of_decide_eq_true zh;have q23:x15_1<(l0_1.length:Int):=of_decide_eq_true zh;obtain ⟨ad23,e23,hx23_0⟩:=Kd.at_int HR0_1.out x15_1 p23 q23
          cases e23
          replace hx23_0:=(HB.out.cell (World.block_lt_of_cell? w _ hx23_0)).trans hx23_0;replace p23:=eq_true p23;replace q23:=eq_true q23;have hcz22_0:wr.cell? ⟨gb25,0,none⟩=some (.slice A0_0 l0_0.length c0_0):=(blk_cell BK25.out 0).trans rfl;have hcz22_1:wr.cell? ⟨gb25,1,none⟩=some (.slice (some ad23) l0_1.length c0_1):=(blk_cell BK25.out 1).trans rfl;have hfz22_0:=blk_frozen BK25.out 0;have hfz22_1:=blk_frozen BK25.out 1
          go_wp2
          go_roundg k1
          case measure=>have:=HK1.out;omega
          case rel=>exact ⟨(wrap64 (x15_1+1)),zT,H',⟨by have:=HK1.out;omega⟩,⟨by refine zj ?_;exact BK25.out⟩,⟨zv1 HB GE25⟩⟩
      ·rw [if_neg c10] at H;exact absurd H (by simp)
     ·rw [if_neg c9] at H;exact absurd H (by simp)
    ·rw [if_neg c8] at H;have c8b0:decide (x15_1<(l0_1.length:Int))=false:=decide_eq_false c8;clear c8;obtain rfl:=Option.some.inj H
     go_wp2
     go_ret
     exact ⟨ze,zv1 HB GE25⟩
 ·rw [if_neg c6] at H;have c6b0:(t43 == 0)=false:=beq_eq_false_iff_ne.mpr c6;have c6b1:(t43 != 0)=true:=bne_iff_ne.mpr c6
  (first|rw [c6b0]|(simp only [i64_w,i32_w];rw [c6b0])|skip)
  (try rw [c6b1]);obtain rfl:=Option.some.inj H
  go_wp2
  go_ret
  exact ⟨ze,zv1 HB GE25⟩
def shared_given.l0:Nat→List (S34)→List (S34)→Int→Int→Option (Int)
 | 0,_,_,_,_=>none
 | k+1,x0,x9,x10,x11=>if x11<x10 then (if 0≤x11 then (if x11<(x9.length:Int) then ((table_Valid.f k ((rd_T34 x9 x11).f0) ((rd_T34 x9 x11).f1)).bind fun t46=>(if t46=0 then (shared_given.l0 k x0 x9 x10 (wrap64 (x11+1))) else (some t46))) else (none)) else (none)) else (if (x0.length:Int)>15 then (some 3) else (some 0))
def shared_given.f (k:Nat) (l0:List (S34)):Option (Int):=if (l0.length:Int)>16 then (some 3) else (shared_given.l0 k l0 l0 (l0.length:Int) 0)
theorem shared_given.mono_l:∀ k,(∀ y0 y1 y2 y3,LeO (shared_given.l0 k y0 y1 y2 y3) (shared_given.l0 (k+1) y0 y1 y2 y3))
 | 0=>fun _ _ _ _ r h=>by simp [shared_given.l0] at h
 | k+1=>by
  have ih0:=shared_given.mono_l k
  ·intro y0 y1 y2 y3
   unfold shared_given.l0
   repeat' first
   | (with_reducible exact ih0 _ _ _ _)
   | (with_reducible exact table_Valid.mono _ _ _)
   | (with_reducible exact LeO.refl _)
   | (with_reducible exact LeO.none _)
   | (with_reducible refine LeO.ite ?_ ?_)
   | (with_reducible refine LeO.bind ?_ (fun _=>?_))
   | exact LeO.none _
   | refine LeO.ite ?_ ?_
   | refine LeO.bind ?_ (fun _=>?_)
theorem shared_given.mono:∀ a0 k,LeO (shared_given.f k a0) (shared_given.f (k+1) a0):=by
 intro a0 k;have ih0:=shared_given.mono_l k
 unfold shared_given.f
 repeat' first
   | (with_reducible exact ih0 _ _ _ _)
   | (with_reducible exact table_Valid.mono _ _ _)
   | (with_reducible exact LeO.refl _)
   | (with_reducible exact LeO.none _)
   | (with_reducible refine LeO.ite ?_ ?_)
   | (with_reducible refine LeO.bind ?_ (fun _=>?_))
   | exact LeO.none _
   | refine LeO.ite ?_ ?_
   | refine LeO.bind ?_ (fun _=>?_)
set_option maxHeartbeats 8000000 in
set_option maxRecDepth 100000 in
theorem shared_given.calls (k:Nat) (A0:Option Addr) (c0:Nat) (l0:List (S34)) (r:Int) (w:World) (hr0:Kd.C k34 w A0 l0.length l0) (hc0:l0.length≤c0) (h:shared_given.f k l0=some r) :
  Calls Try.prog 27 #[.slice A0 l0.length c0] w fun e w'=>e=.returned (.int .i64 r)∧Below w.heap.size w w':=by
 have hu34:=Try.underlying34;have HR0:=zA hr0;have HC0:=zA hc0;clear hr0 hc0;have HB:=zA (Below.refl w.heap.size w);have H:(if (l0.length:Int)>16 then (some 3) else (shared_given.l0 k l0 l0 (l0.length:Int) 0))=some r:=h;clear h
 by_cases c2:(l0.length:Int)>16
 ·rw [if_pos c2] at H;have c2b0:decide (16<(l0.length:Int))=true:=decide_eq_true c2;have c2b1:decide (16<l0.length)=true:=decide_eq_true (by omega);clear c2;obtain rfl:=Option.some.inj H
  go_enter Try.func27,Try.ntmps27
  go_wp2
  go_ret
  exact ⟨ze,zv0 HB⟩
 ·rw [if_neg c2] at H;have c2b0:decide (16<(l0.length:Int))=false:=decide_eq_false c2;have c2b1:decide (16<l0.length)=false:=decide_eq_false (by omega);clear c2;have H':=zA H;clear H
  go_enter Try.func27,Try.ntmps27
  go_wp2
  go_loopg [11] k (fun kq v11 w'=>∃ (x11_1:Int),v11=.int .i64 x11_1∧Aside0 (shared_given.l0 kq l0 l0 (l0.length:Int) x11_1=some r)∧Aside0 (kq≤k)∧Aside0 (Below w.heap.size w w'))
  case atStart=>exact ⟨(0),zT,H',⟨Nat.le_refl _⟩,⟨zv0 HB⟩⟩
  case round=>
   clear H'
   try clear c2
   try clear c2b0
   try clear c2b1
   obtain ⟨x11_1,rfl,HA,HK1,HB⟩:=hrel
   cases gk with
   | zero=>exact absurd HA.out (by simp [shared_given.l0])
   | succ k1=>
    have H:=HA.out;clear HA;simp only [shared_given.l0] at H
    by_cases c3:x11_1<(l0.length:Int)
    ·rw [if_pos c3] at H;have c3b0:decide (x11_1<(l0.length:Int))=true:=decide_eq_true c3;clear c3
     by_cases c4:0≤x11_1
     ·rw [if_pos c4] at H;have c4b0:decide (0≤x11_1)=true:=decide_eq_true c4;clear c4
      by_cases c5:x11_1<(l0.length:Int)
      ·rw [if_pos c5] at H;have c5b0:decide (x11_1<(l0.length:Int))=true:=decide_eq_true c5;clear c5;replace H:=Option.bind_eq_some_iff.mp H;obtain ⟨t46,A60,H⟩:=H;replace H:(if t46=0 then (shared_given.l0 k1 l0 l0 (l0.length:Int) (wrap64 (x11_1+1))) else (some t46))=some r:=H;have A6:=zA A60;clear A60;have HC7:=zA H;clear H;have p26:0≤(x11_1:Int):=of_decide_eq_true zh;have q26:x11_1<(l0.length:Int):=of_decide_eq_true zh;obtain ⟨ad26,A26_0,c26_0,A26_1,c26_1,e26,hx26_0,hx26_1,hl26_0,hi26_0,hl26_1,hi26_1⟩:=at_T34 HR0.out x11_1 p26 q26
       cases e26
       replace hx26_0:=(HB.out.cell (World.block_lt_of_cell? w _ hx26_0)).trans hx26_0;replace hx26_1:=(HB.out.cell (World.block_lt_of_cell? w _ hx26_1)).trans hx26_1;have HR26_0:=zA hi26_0;have HC26_0:=zA hl26_0;clear hi26_0 hl26_0;have HR26_1:=zA hi26_1;have HC26_1:=zA hl26_1;clear hi26_1 hl26_1;replace p26:=eq_true p26;replace q26:=eq_true q26
       go_upto_if 18 with (first|((with_reducible refine gate_dst (N:=4) rfl ?_);refine box_event ?hg (N:=4) ?hd (cs:=#[.slice none 0 0,.slice none 0 0]) (t:=34) ?hr ?_;(case hd=>rfl);(case hg=>rfl);(case hr=>first|(go_simp;done)|(go_simp;rfl));intro gb40 hg w8 hbox hb;have BK40:=zA (hbox);have GW40:=zA (zG hg (below_size zB):w.heap.size≤gb40);have GE40:=GW40;replace HB:=zA (below_step zB hb);clear hb hbox hg;have hcz9_0:w8.cell? ⟨gb40,0,none⟩=some (.slice none 0 0):=(blk_cell BK40.out 0).trans rfl;have hcz9_1:w8.cell? ⟨gb40,1,none⟩=some (.slice none 0 0):=(blk_cell BK40.out 1).trans rfl;have hfz9_0:=blk_frozen BK40.out 0;have hfz9_1:=blk_frozen BK40.out 1)|((with_reducible refine gate_callee (f:=37) rfl ?_);refine goesL_ (some 16) rfl rfl Try.func37 zK rfl #[.agg #[.slice A26_0 ((rd_T34 l0 x11_1).f0).length c26_0,.slice A26_1 ((rd_T34 l0 x11_1).f1).length c26_1]] rfl zM ?_;(with_reducible refine (table_Valid.calls k1 _ _ ((rd_T34 l0 x11_1).f0) _ _ ((rd_T34 l0 x11_1).f1) t46 _ ?side1 ?side2 ?side3 ?side4 A6.out).mono ?_);(case side1=>exact Kd.C_below HR26_0.out zB);(case side2=>exact HC26_0.out);(case side3=>exact Kd.C_below HR26_1.out zB);(case side4=>exact HC26_1.out);rintro e w10 ⟨rfl,hb⟩;refine ⟨_,rfl,?_⟩;replace BK40:=zA (blk_below (g:=gb40) (o:=.cells #[.slice A26_0 ((rd_T34 l0 x11_1).f0).length c26_0,.slice A26_1 ((rd_T34 l0 x11_1).f1).length c26_1] 34 (0,0)) (by refine zj ?_;refine blk_put (cs:=#[.slice A26_0 ((rd_T34 l0 x11_1).f0).length c26_0,.slice none 0 0]) ?_ 1 _ rfl;refine zj ?_;refine blk_put (cs:=#[.slice none 0 0,.slice none 0 0]) ?_ 0 _ rfl;refine zj ?_;exact BK40.out) hb);replace HB:=zA (below_step zB hb);(try clear hb);(try clear hb2);(try clear hk);(try clear hi)))
       (try simp only [Act.put,zi,zs,zt]);have H:=HC7.out;clear HC7
       by_cases c11:t46=0
       ·rw [if_pos c11] at H;have c11b0:(t46 == 0)=true:=beq_iff_eq.mpr c11;have c11b1:(t46 != 0)=false:=bne_eq_false_iff_eq.mpr c11;clear c11
        (first|rw [c11b0]|(simp only [i64_w,i32_w];rw [c11b0])|skip)
        (try rw [c11b1]);have H':=zA H;clear H
        go_wp2
        go_roundg k1
        case measure=>have:=HK1.out;omega
        case rel=>exact ⟨(wrap64 (x11_1+1)),zT,H',⟨by have:=HK1.out;omega⟩,⟨zv1 HB GE40⟩⟩
       ·rw [if_neg c11] at H;have c11b0:(t46 == 0)=false:=beq_eq_false_iff_ne.mpr c11;have c11b1:(t46 != 0)=true:=bne_iff_ne.mpr c11
        (first|rw [c11b0]|(simp only [i64_w,i32_w];rw [c11b0])|skip)
        (try rw [c11b1]);obtain rfl:=Option.some.inj H
        go_wp2
        go_ret
        exact ⟨ze,zv1 HB GE40⟩
      ·rw [if_neg c5] at H;exact absurd H (by simp)
     ·rw [if_neg c4] at H;exact absurd H (by simp)
    ·rw [if_neg c3] at H;have c3b0:decide (x11_1<(l0.length:Int))=false:=decide_eq_false c3;clear c3
     by_cases c12:(l0.length:Int)>15
     ·rw [if_pos c12] at H;have c12b0:decide (15<(l0.length:Int))=true:=decide_eq_true c12;have c12b1:decide (15<l0.length)=true:=decide_eq_true (by omega);clear c12;obtain rfl:=Option.some.inj H
      go_wp2
      go_ret
      exact ⟨ze,zv0 HB⟩
     ·rw [if_neg c12] at H;have c12b0:decide (15<(l0.length:Int))=false:=decide_eq_false c12;have c12b1:decide (15<l0.length)=false:=decide_eq_false (by omega);clear c12;obtain rfl:=Option.some.inj H
      go_wp2
      go_ret
      exact ⟨ze,zv0 HB⟩
def solve_valid.l0:Nat→List (S34)→Int→Int→Option (Int)
 | 0,_,_,_=>none
 | k+1,x9,x10,x11=>if x11<x10 then (if 0≤x11 then (if x11<(x9.length:Int) then ((table_Valid.f k ((rd_T34 x9 x11).f0) ((rd_T34 x9 x11).f1)).bind fun t47=>(if t47=0 then (solve_valid.l0 k x9 x10 (wrap64 (x11+1))) else (some t47))) else (none)) else (none)) else (some 0)
def solve_valid.f (k:Nat) (l0:List (S34)):Option (Int):=if (l0.length:Int)>16 then (some 3) else (solve_valid.l0 k l0 (l0.length:Int) 0)
theorem solve_valid.mono_l:∀ k,(∀ y0 y1 y2,LeO (solve_valid.l0 k y0 y1 y2) (solve_valid.l0 (k+1) y0 y1 y2))
 | 0=>fun _ _ _ r h=>by simp [solve_valid.l0] at h
 | k+1=>by
  have ih0:=solve_valid.mono_l k
  ·intro y0 y1 y2
   unfold solve_valid.l0
   repeat' first
   | (with_reducible exact ih0 _ _ _)
   | (with_reducible exact table_Valid.mono _ _ _)
   | (with_reducible exact LeO.refl _)
   | (with_reducible exact LeO.none _)
   | (with_reducible refine LeO.ite ?_ ?_)
   | (with_reducible refine LeO.bind ?_ (fun _=>?_))
   | exact LeO.none _
   | refine LeO.ite ?_ ?_
   | refine LeO.bind ?_ (fun _=>?_)
theorem solve_valid.mono:∀ a0 k,LeO (solve_valid.f k a0) (solve_valid.f (k+1) a0):=by
 intro a0 k;have ih0:=solve_valid.mono_l k
 unfold solve_valid.f
 repeat' first
   | (with_reducible exact ih0 _ _ _)
   | (with_reducible exact table_Valid.mono _ _ _)
   | (with_reducible exact LeO.refl _)
   | (with_reducible exact LeO.none _)
   | (with_reducible refine LeO.ite ?_ ?_)
   | (with_reducible refine LeO.bind ?_ (fun _=>?_))
   | exact LeO.none _
   | refine LeO.ite ?_ ?_
   | refine LeO.bind ?_ (fun _=>?_)
set_option maxHeartbeats 8000000 in
set_option maxRecDepth 100000 in
theorem solve_valid.calls (k:Nat) (A0:Option Addr) (c0:Nat) (l0:List (S34)) (r:Int) (w:World) (hr0:Kd.C k34 w A0 l0.length l0) (hc0:l0.length≤c0) (h:solve_valid.f k l0=some r) :
  Calls Try.prog 50 #[.slice A0 l0.length c0] w fun e w'=>e=.returned (.int .i64 r)∧Below w.heap.size w w':=by
 have hu34:=Try.underlying34;have HR0:=zA hr0;have HC0:=zA hc0;clear hr0 hc0;have HB:=zA (Below.refl w.heap.size w);have H:(if (l0.length:Int)>16 then (some 3) else (solve_valid.l0 k l0 (l0.length:Int) 0))=some r:=h;clear h
 by_cases c2:(l0.length:Int)>16
 ·rw [if_pos c2] at H;have c2b0:decide (16<(l0.length:Int))=true:=decide_eq_true c2;have c2b1:decide (16<l0.length)=true:=decide_eq_true (by omega);clear c2;obtain rfl:=Option.some.inj H
  go_enter Try.func50,Try.ntmps50
  go_wp2
  go_ret
  exact ⟨ze,zv0 HB⟩
 ·rw [if_neg c2] at H;have c2b0:decide (16<(l0.length:Int))=false:=decide_eq_false c2;have c2b1:decide (16<l0.length)=false:=decide_eq_false (by omega);clear c2;have H':=zA H;clear H
  go_enter Try.func50,Try.ntmps50
  go_wp2
  go_loopg [11] k (fun kq v11 w'=>∃ (x11_1:Int),v11=.int .i64 x11_1∧Aside0 (solve_valid.l0 kq l0 (l0.length:Int) x11_1=some r)∧Aside0 (kq≤k)∧Aside0 (Below w.heap.size w w'))
  case atStart=>exact ⟨(0),zT,H',⟨Nat.le_refl _⟩,⟨zv0 HB⟩⟩
  case round=>
   clear H'
   try clear c2
   try clear c2b0
   try clear c2b1
   obtain ⟨x11_1,rfl,HA,HK1,HB⟩:=hrel
   cases gk with
   | zero=>exact absurd HA.out (by simp [solve_valid.l0])
   | succ k1=>
    have H:=HA.out;clear HA;simp only [solve_valid.l0] at H
    by_cases c3:x11_1<(l0.length:Int)
    ·rw [if_pos c3] at H;have c3b0:decide (x11_1<(l0.length:Int))=true:=decide_eq_true c3;clear c3
     by_cases c4:0≤x11_1
     ·rw [if_pos c4] at H;have c4b0:decide (0≤x11_1)=true:=decide_eq_true c4;clear c4
      by_cases c5:x11_1<(l0.length:Int)
      ·rw [if_pos c5] at H;have c5b0:decide (x11_1<(l0.length:Int))=true:=decide_eq_true c5;clear c5;replace H:=Option.bind_eq_some_iff.mp H;obtain ⟨t47,A60,H⟩:=H;replace H:(if t47=0 then (solve_valid.l0 k1 l0 (l0.length:Int) (wrap64 (x11_1+1))) else (some t47))=some r:=H;have A6:=zA A60;clear A60;have HC7:=zA H;clear H;have p28:0≤(x11_1:Int):=of_decide_eq_true zh;have q28:x11_1<(l0.length:Int):=of_decide_eq_true zh;obtain ⟨ad28,A28_0,c28_0,A28_1,c28_1,e28,hx28_0,hx28_1,hl28_0,hi28_0,hl28_1,hi28_1⟩:=at_T34 HR0.out x11_1 p28 q28
       cases e28
       replace hx28_0:=(HB.out.cell (World.block_lt_of_cell? w _ hx28_0)).trans hx28_0;replace hx28_1:=(HB.out.cell (World.block_lt_of_cell? w _ hx28_1)).trans hx28_1;have HR28_0:=zA hi28_0;have HC28_0:=zA hl28_0;clear hi28_0 hl28_0;have HR28_1:=zA hi28_1;have HC28_1:=zA hl28_1;clear hi28_1 hl28_1;replace p28:=eq_true p28;replace q28:=eq_true q28
       go_upto_if 18 with (first|((with_reducible refine gate_dst (N:=4) rfl ?_);refine box_event ?hg (N:=4) ?hd (cs:=#[.slice none 0 0,.slice none 0 0]) (t:=34) ?hr ?_;(case hd=>rfl);(case hg=>rfl);(case hr=>first|(go_simp;done)|(go_simp;rfl));intro gb41 hg w8 hbox hb;have BK41:=zA (hbox);have GW41:=zA (zG hg (below_size zB):w.heap.size≤gb41);have GE41:=GW41;replace HB:=zA (below_step zB hb);clear hb hbox hg;have hcz9_0:w8.cell? ⟨gb41,0,none⟩=some (.slice none 0 0):=(blk_cell BK41.out 0).trans rfl;have hcz9_1:w8.cell? ⟨gb41,1,none⟩=some (.slice none 0 0):=(blk_cell BK41.out 1).trans rfl;have hfz9_0:=blk_frozen BK41.out 0;have hfz9_1:=blk_frozen BK41.out 1)|((with_reducible refine gate_callee (f:=37) rfl ?_);refine goesL_ (some 16) rfl rfl Try.func37 zK rfl #[.agg #[.slice A28_0 ((rd_T34 l0 x11_1).f0).length c28_0,.slice A28_1 ((rd_T34 l0 x11_1).f1).length c28_1]] rfl zM ?_;(with_reducible refine (table_Valid.calls k1 _ _ ((rd_T34 l0 x11_1).f0) _ _ ((rd_T34 l0 x11_1).f1) t47 _ ?side1 ?side2 ?side3 ?side4 A6.out).mono ?_);(case side1=>exact Kd.C_below HR28_0.out zB);(case side2=>exact HC28_0.out);(case side3=>exact Kd.C_below HR28_1.out zB);(case side4=>exact HC28_1.out);rintro e w10 ⟨rfl,hb⟩;refine ⟨_,rfl,?_⟩;replace BK41:=zA (blk_below (g:=gb41) (o:=.cells #[.slice A28_0 ((rd_T34 l0 x11_1).f0).length c28_0,.slice A28_1 ((rd_T34 l0 x11_1).f1).length c28_1] 34 (0,0)) (by refine zj ?_;refine blk_put (cs:=#[.slice A28_0 ((rd_T34 l0 x11_1).f0).length c28_0,.slice none 0 0]) ?_ 1 _ rfl;refine zj ?_;refine blk_put (cs:=#[.slice none 0 0,.slice none 0 0]) ?_ 0 _ rfl;refine zj ?_;exact BK41.out) hb);replace HB:=zA (below_step zB hb);(try clear hb);(try clear hb2);(try clear hk);(try clear hi)))
       (try simp only [Act.put,zi,zs,zt]);have H:=HC7.out;clear HC7
       by_cases c11:t47=0
       ·rw [if_pos c11] at H;have c11b0:(t47 == 0)=true:=beq_iff_eq.mpr c11;have c11b1:(t47 != 0)=false:=bne_eq_false_iff_eq.mpr c11;clear c11
        (first|rw [c11b0]|(simp only [i64_w,i32_w];rw [c11b0])|skip)
        (try rw [c11b1]);have H':=zA H;clear H
        go_wp2
        go_roundg k1
        case measure=>have:=HK1.out;omega
        case rel=>exact ⟨(wrap64 (x11_1+1)),zT,H',⟨by have:=HK1.out;omega⟩,⟨zv1 HB GE41⟩⟩
       ·rw [if_neg c11] at H;have c11b0:(t47 == 0)=false:=beq_eq_false_iff_ne.mpr c11;have c11b1:(t47 != 0)=true:=bne_iff_ne.mpr c11
        (first|rw [c11b0]|(simp only [i64_w,i32_w];rw [c11b0])|skip)
        (try rw [c11b1]);obtain rfl:=Option.some.inj H
        go_wp2
        go_ret
        exact ⟨ze,zv1 HB GE41⟩
      ·rw [if_neg c5] at H;exact absurd H (by simp)
     ·rw [if_neg c4] at H;exact absurd H (by simp)
    ·rw [if_neg c3] at H;have c3b0:decide (x11_1<(l0.length:Int))=false:=decide_eq_false c3;clear c3;obtain rfl:=Option.some.inj H
     go_wp2
     go_ret
     exact ⟨ze,zv0 HB⟩
section
open Go.Sort Go.Shelf
def slices_Sort_int_int.f (l0:List Int):Option (List Int):=if l0.length<4611686018427387904 then some (l0.mergeSort fun x y=>decide (x≤y)) else none
theorem slices_Sort_int_int.calls (P0_:Nat→Prop) (u52_:Value) (l0:List Int) (r:List Int) (w0 w:World) (hB:Below w0.heap.size w0 w) (ho0:Kd.R (Kd.int .i64) 3 w w0.heap.size P0_ u52_ l0) (h:slices_Sort_int_int.f l0=some r) :
 Calls Try.prog 67 #[u52_] w fun e w'=>e=.returned (.tuple #[])∧Kd.R (Kd.int .i64) 3 w' w0.heap.size (fun k_=>(P0_ k_∨w.heap.size≤k_)) u52_ r∧Below w0.heap.size w0 w'∧Kept w w' (fun k_=>P0_ k_):=by
 unfold slices_Sort_int_int.f at h
 by_cases hsz:l0.length<4611686018427387904
 case neg=>rw [if_neg hsz] at h;exact absurd h (by simp)
 rw [if_pos hsz] at h;obtain rfl:=Option.some.inj h;obtain ⟨A,c,rfl⟩:=Kd.R_slice ho0
 rcases A with _|ad
 ·have hl:l0=[]:=by
   rcases l0 with _|⟨x,xs⟩
   ·rfl
   ·have ho:=Kd.own_of_R (enc:=Value.int .i64) (h1:=fun _=>rfl) ho0
    rcases ho.2 with ⟨_,h0⟩|⟨_,_,_,h0,_⟩
    ·simp at h0
    ·simp at h0
  subst hl;refine (Any.slices_Sort_int_none laysSort none c w).mono ?_;rintro e w' ⟨rfl,rfl⟩;exact ⟨rfl,by rw [List.mergeSort_nil];exact Kd.R_mono ho0 (fun k hk=>.inl hk),hB,Kept.refl _ _⟩
 ·have had:∃ g,ad=⟨g,0,none⟩:=by
   have ho:=Kd.own_of_R (enc:=Value.int .i64) (h1:=fun _=>rfl) ho0
   rcases ho.2 with ⟨h0,_⟩|⟨g,_,_,h0,_⟩
   ·simp at h0
   ·injection h0 with h0;injection h0 with h0;exact ⟨g,h0⟩
  obtain ⟨g,rfl⟩:=had;obtain ⟨h1,h2,h3,h4,h5,h6,h7⟩:=int_row ho0;refine (Any.slices_Sort_int laysSort g 0 c l0 w h7 h3 hsz).mono ?_;rintro e w' ⟨rfl,n,os,rfl⟩;have hl:(l0.mergeSort fun x y=>decide (x≤y)).length=l0.length:=List.length_mergeSort l0;have hr:=int_row_put (ok':=fun k_=>(P0_ k_∨w.heap.size≤k_)) ho0 n os hl (Nat.le_refl _) (.inl h1);rw [List.take_of_length_le (by omega)] at hr;exact ⟨rfl,hr,put_below hB h2 n os _,put_kept (ok:=fun k_=>P0_ k_) n os _ h1⟩
end
section
open Go.Sort Go.Shelf
def slices_Compact_int_int.f (l0:List Int):Option (List Int):=some (Lib.compact l0)
theorem slices_Compact_int_int.calls (P0_:Nat→Prop) (u52_:Value) (l0:List Int) (r:List Int) (w0 w:World) (hB:Below w0.heap.size w0 w) (ho0:Kd.R (Kd.int .i64) 3 w w0.heap.size P0_ u52_ l0) (h:slices_Compact_int_int.f l0=some r) :
 Calls Try.prog 68 #[u52_] w fun e w'=>∃ v0_:Value,e=.returned (v0_)∧Kd.R (Kd.int .i64) 3 w' w0.heap.size (fun k_=>(P0_ k_∨w.heap.size≤k_)) v0_ r∧Below w0.heap.size w0 w'∧Kept w w' (fun k_=>P0_ k_):=by
 obtain rfl:=Option.some.inj h;obtain ⟨A,c,rfl⟩:=Kd.R_slice ho0
 rcases A with _|ad
 ·have hl:l0=[]:=by
   rcases l0 with _|⟨x,xs⟩
   ·rfl
   ·have ho:=Kd.own_of_R (enc:=Value.int .i64) (h1:=fun _=>rfl) ho0
    rcases ho.2 with ⟨_,h0⟩|⟨_,_,_,h0,_⟩
    ·simp at h0
    ·simp at h0
  subst hl;refine (Any.slices_Compact_int_empty laysCompact none c w).mono ?_;rintro e w' ⟨rfl,rfl⟩;exact ⟨_,rfl,Kd.R_mono ho0 (fun k hk=>.inl hk),hB,Kept.refl _ _⟩
 ·have had:∃ g,ad=⟨g,0,none⟩:=by
   have ho:=Kd.own_of_R (enc:=Value.int .i64) (h1:=fun _=>rfl) ho0
   rcases ho.2 with ⟨h0,_⟩|⟨g,_,_,h0,_⟩
   ·simp at h0
   ·injection h0 with h0;injection h0 with h0;exact ⟨g,h0⟩
  obtain ⟨g,rfl⟩:=had;obtain ⟨h1,h2,h3,h4,h5,h6,h7⟩:=int_row ho0;have hle:=Lib.compact_length_le l0;refine (Any.slices_Compact_int laysCompact g 0 c l0 w h7 (by unfold maxLen at h6;omega) h5).mono ?_;rintro e w' ⟨rfl,q,rfl⟩;have hr:=int_row_put (ok':=fun k_=>(P0_ k_∨w.heap.size≤k_)) (ys:=Lib.compact l0++List.replicate (l0.length - (Lib.compact l0).length) 0) ho0 q #[] (by simp;omega) hle (.inl h1);rw [List.take_left,grow_empty] at hr;have hb:=put_below hB h2 q #[] (Lib.compact l0++List.replicate (l0.length - (Lib.compact l0).length) 0).toArray;have hk:=put_kept (ok:=fun k_=>P0_ k_) (w:=w) q #[] (Lib.compact l0++List.replicate (l0.length - (Lib.compact l0).length) 0).toArray h1;rw [grow_empty] at hb hk;exact ⟨_,rfl,hr,hb,hk⟩
end
def solve_occurring.l0:Nat→List Int→List (S34)→Int→Int→Option (List Int)
 | 0,_,_,_,_=>none
 | k+1,x3,x6,x7,x8=>if x8<x7 then (if 0≤x8 then (if x8<(x6.length:Int) then (if x3.length+((rd_T34 x6 x8).f0).length<17592186044416 then (solve_occurring.l0 k (x3++((rd_T34 x6 x8).f0)) x6 x7 (wrap64 (x8+1))) else (none)) else (none)) else (none)) else ((slices_Sort_int_int.f x3).bind fun t61=>((slices_Compact_int_int.f t61).bind fun t58=>(some t58)))
def solve_occurring.f (k:Nat) (l0:List (S34)):Option (List Int):=solve_occurring.l0 k ([]:List Int) l0 (l0.length:Int) 0
theorem solve_occurring.mono_l:∀ k,(∀ y0 y1 y2 y3,LeO (solve_occurring.l0 k y0 y1 y2 y3) (solve_occurring.l0 (k+1) y0 y1 y2 y3))
 | 0=>fun _ _ _ _ r h=>by simp [solve_occurring.l0] at h
 | k+1=>by
  have ih0:=solve_occurring.mono_l k
  ·intro y0 y1 y2 y3
   unfold solve_occurring.l0
   repeat' first
   | (with_reducible exact ih0 _ _ _ _)
   | (with_reducible exact LeO.refl _)
   | (with_reducible exact LeO.none _)
   | (with_reducible refine LeO.ite ?_ ?_)
   | (with_reducible refine LeO.bind ?_ (fun _=>?_))
   | exact LeO.none _
   | refine LeO.ite ?_ ?_
   | refine LeO.bind ?_ (fun _=>?_)
theorem solve_occurring.mono:∀ a0 k,LeO (solve_occurring.f k a0) (solve_occurring.f (k+1) a0):=by
 intro a0 k;have ih0:=solve_occurring.mono_l k
 unfold solve_occurring.f
 repeat' first
   | (with_reducible exact ih0 _ _ _ _)
   | (with_reducible exact LeO.refl _)
   | (with_reducible exact LeO.none _)
   | (with_reducible refine LeO.ite ?_ ?_)
   | (with_reducible refine LeO.bind ?_ (fun _=>?_))
   | exact LeO.none _
   | refine LeO.ite ?_ ?_
   | refine LeO.bind ?_ (fun _=>?_)
set_option maxHeartbeats 8000000 in
set_option maxRecDepth 100000 in
theorem solve_occurring.calls (k:Nat) (A0:Option Addr) (c0:Nat) (l0:List (S34)) (r:List Int) (w:World) (hr0:Kd.C k34 w A0 l0.length l0) (hc0:l0.length≤c0) (h:solve_occurring.f k l0=some r) :
  Calls Try.prog 51 #[.slice A0 l0.length c0] w fun e w'=>∃ v0_:Value,e=.returned (v0_)∧Kd.R (Kd.int .i64) 3 w' w.heap.size (fun _=>True) v0_ r∧Below w.heap.size w w':=by
 have hu34:=Try.underlying34;have hu29:=Try.underlying29;have HR0:=zA hr0;have HC0:=zA hc0;clear hr0 hc0;have HB:=zA (Below.refl w.heap.size w);have H:(solve_occurring.l0 k ([]:List Int) l0 (l0.length:Int) 0)=some r:=h;clear h;have H':=zA H;clear H
 go_enter Try.func51,Try.ntmps51
 go_wp2
 go_loopg [3,8] k (fun kq v3 v8 w'=>∃ (x3_1:List Int) (x8_1:Int),v8=.int .i64 x8_1∧Aside0 (solve_occurring.l0 kq x3_1 l0 (l0.length:Int) x8_1=some r)∧Aside0 (kq≤k)∧Aside0 (Kd.R (Kd.int .i64) 3 w' w.heap.size (fun _=>True) v3 x3_1)∧Aside0 (Below w.heap.size w w'))
 case atStart=>exact ⟨(([]:List Int)),(0),zT,H',⟨Nat.le_refl _⟩,⟨by first|exact Kd.R_nil _ _ _ _ _|exact Kd.N_nil _ _ _ _ _|exact Kd.V_nil _ _ _ _ _|exact Kd.Q_nil _ _ _ _ _|exact Kd.S_nil _ _ _ _ _⟩,⟨zv0 HB⟩⟩
 case round=>
  clear H';obtain ⟨x3_1,x8_1,rfl,HA,HK1,HO_3,HB⟩:=hrel
  cases gk with
  | zero=>exact absurd HA.out (by simp [solve_occurring.l0])
  | succ k1=>
   have H:=HA.out;clear HA;simp only [solve_occurring.l0] at H
   by_cases c2:x8_1<(l0.length:Int)
   ·rw [if_pos c2] at H;have c2b0:decide (x8_1<(l0.length:Int))=true:=decide_eq_true c2;clear c2
    by_cases c3:0≤x8_1
    ·rw [if_pos c3] at H;have c3b0:decide (0≤x8_1)=true:=decide_eq_true c3;clear c3
     by_cases c4:x8_1<(l0.length:Int)
     ·rw [if_pos c4] at H;have c4b0:decide (x8_1<(l0.length:Int))=true:=decide_eq_true c4;clear c4
      by_cases c5:x3_1.length+((rd_T34 l0 x8_1).f0).length<17592186044416
      ·rw [if_pos c5] at H;have LMc5:=zA c5;clear c5
       obtain ⟨y48,hy48⟩:∃ y_:List Int,y_=(x3_1++((rd_T34 l0 x8_1).f0)):=⟨_,rfl⟩
       replace H:(solve_occurring.l0 k1 y48 l0 (l0.length:Int) (wrap64 (x8_1+1)))=some r:=by first|(rw [hy48];with_reducible exact H)|(have H2_:=(Option.bind_some _ _).symm.trans H;rw [hy48];with_reducible exact H2_)|(have H2_:=(Option.bind_some _ _).symm.trans H;with_reducible exact H2_)|with_reducible exact H|(rw [hy48];exact H)|exact H
       have Ny48:=zA hy48;clear hy48;have H':=zA H;clear H;have p31:0≤(x8_1:Int):=of_decide_eq_true zh;have q31:x8_1<(l0.length:Int):=of_decide_eq_true zh;obtain ⟨ad31,A31_0,c31_0,A31_1,c31_1,e31,hx31_0,hx31_1,hl31_0,hi31_0,hl31_1,hi31_1⟩:=at_T34 HR0.out x8_1 p31 q31
       cases e31
       replace hx31_0:=(HB.out.cell (World.block_lt_of_cell? w _ hx31_0)).trans hx31_0;replace hx31_1:=(HB.out.cell (World.block_lt_of_cell? w _ hx31_1)).trans hx31_1;have HR31_0:=zA hi31_0;have HC31_0:=zA hl31_0;clear hi31_0 hl31_0;have HR31_1:=zA hi31_1;have HC31_1:=zA hl31_1;clear hi31_1 hl31_1;replace p31:=eq_true p31;replace q31:=eq_true q31
       go_wp2_with (first|((with_reducible refine gate_dst (N:=5) rfl ?_);refine box_event ?hg (N:=5) ?hd (cs:=#[.slice none 0 0,.slice none 0 0]) (t:=34) ?hr ?_;(case hd=>rfl);(case hg=>rfl);(case hr=>first|(go_simp;done)|(go_simp;rfl));intro gb38 hg w6 hbox hb;have BK38:=zA (hbox);have GW38:=zA (zG hg (below_size zB):w.heap.size≤gb38);have GE38:=GW38;replace HO_3:=zA (Kd.R_below (zR HO_3) hb);replace HB:=zA (below_step zB hb);clear hb hbox hg;have hcz7_0:w6.cell? ⟨gb38,0,none⟩=some (.slice none 0 0):=(blk_cell BK38.out 0).trans rfl;have hcz7_1:w6.cell? ⟨gb38,1,none⟩=some (.slice none 0 0):=(blk_cell BK38.out 1).trans rfl;have hfz7_0:=blk_frozen BK38.out 0;have hfz7_1:=blk_frozen BK38.out 1)|((with_reducible refine gate_builtin (b:=.append) (xs:=#[.tmp 12,.tmp 14]) rfl ?_);at_builtin;refine Kd.R_append_rows (Kd.int .i64) (w0:=w) w.heap.size rfl (.tmp 12) (.tmp 14) 29 3 (.int .i64 0) 8 rfl Try.underlying29 info3 rfl (by decide) (by omega) u3 x3_1 ((rd_T34 l0 x8_1).f0) _ _ _ (fun _=>True) (fun _=>False) rfl rfl ?aO ?aR (fun _ _ h=>h) (fun _ h=>h.elim) ?aF ?aB ?aS ?aL ?_;(case aR=>exact Kd.C_below HR31_0.out zB);(case aB=>exact zB);(case aF=>exact (fun _ _=>trivial));(case aO=>exact (by refine zr ?_;exact Kd.R_mono (Kd.R_far (p:=⟨gb38,1,none⟩) (Kd.R_far (p:=⟨gb38,0,none⟩) (Kd.R_types HO_3.out BK38.out (by decide)) (fun _ hk=>hk.2) (.slice A31_0 ((rd_T34 l0 x8_1).f0).length c31_0)) (fun _ hk=>hk.2) (.slice A31_1 ((rd_T34 l0 x8_1).f1).length c31_1)) (fun _ hk=>trivial)));(case aS=>exact (below_size zB));(case aL=>have:=LMc5.out;omega);intro v75 w8 ho hb hg hat;rw [← Ny48.out] at ho;have HO73:=zA (ho);replace BK38:=zA (blk_grown (g:=gb38) (o:=.cells #[.slice A31_0 ((rd_T34 l0 x8_1).f0).length c31_0,.slice A31_1 ((rd_T34 l0 x8_1).f1).length c31_1] 34 (0,0)) (by refine zj ?_;refine blk_put (cs:=#[.slice A31_0 ((rd_T34 l0 x8_1).f0).length c31_0,.slice none 0 0]) ?_ 1 _ rfl;refine zj ?_;refine blk_put (cs:=#[.slice none 0 0,.slice none 0 0]) ?_ 0 _ rfl;refine zj ?_;exact BK38.out) hg (Kd.R_ne HO_3.out BK38.out (by decide)));replace HB:=zA (hb);clear HO_3;clear ho hb hg hat))
       go_roundg k1
       case measure=>have:=HK1.out;omega
       case rel=>exact ⟨(y48),(wrap64 (x8_1+1)),zT,H',⟨by have:=HK1.out;omega⟩,⟨by refine zr ?_;exact HO73.out⟩,⟨zv1 HB GE38⟩⟩
      ·rw [if_neg c5] at H;exact absurd H (by simp)
     ·rw [if_neg c4] at H;exact absurd H (by simp)
    ·rw [if_neg c3] at H;exact absurd H (by simp)
   ·rw [if_neg c2] at H;have c2b0:decide (x8_1<(l0.length:Int))=false:=decide_eq_false c2;clear c2;replace H:=Option.bind_eq_some_iff.mp H;obtain ⟨t61,A90,H⟩:=H;replace H:((slices_Compact_int_int.f t61).bind fun t58=>(some t58))=some r:=H;have A9:=zA A90;clear A90;replace H:=Option.bind_eq_some_iff.mp H;obtain ⟨t58,A70,H⟩:=H;replace H:(some t58)=some r:=H;have A10:=zA A70;clear A70;obtain rfl:=Option.some.inj H;obtain ⟨Ao11,co11,eo11⟩:=Kd.R_slice HO_3.out;subst eo11
    go_wp2_with (first|((with_reducible refine gate_callee (f:=67) rfl ?_);refine goesL_ (some 18) rfl rfl Try.func67 zK rfl #[.slice Ao11 x3_1.length co11] rfl zM ?_;(with_reducible refine (slices_Sort_int_int.calls (fun k_=>some k_=(.slice Ao11 x3_1.length co11:Value).ownBlock) (.slice Ao11 x3_1.length co11) x3_1 t61 w _ ?side1 ?side2 A9.out).mono ?_);(case side1=>repeat (first|(with_reducible first|exact HB.out|apply below_alloc|apply pw_below_drewN|apply below_drew1)|exact HB.out));(case side2=>exact Kd.R_tight rfl HO_3.out);rintro e w12 ⟨rfl,hy0,hb,hkp⟩;refine ⟨_,rfl,?_⟩;replace HO_3:=zA (Kd.R_reok rfl hy0 (fun k_ e_=>HO_3.out.1 k_ e_));replace HB:=zA (hb);(try clear hb);(try clear hkp);(try clear hy0))|((with_reducible refine gate_callee (f:=68) rfl ?_);refine goesL_ (some 20) rfl rfl Try.func68 zK rfl #[.slice Ao11 x3_1.length co11] rfl zM ?_;(with_reducible refine (slices_Compact_int_int.calls (fun k_=>some k_=(.slice Ao11 x3_1.length co11:Value).ownBlock) (.slice Ao11 x3_1.length co11) t61 t58 w _ ?side1 ?side2 A10.out).mono ?_);(case side1=>repeat (first|(with_reducible first|exact HB.out|apply below_alloc|apply pw_below_drewN|apply below_drew1)|exact HB.out));(case side2=>exact Kd.R_tight rfl HO_3.out);rintro e w13 ⟨v77,rfl,ho0,hb,hkp⟩;refine ⟨_,rfl,?_⟩;have HO74:=zA (Kd.R_mono (ok':=fun k_=>True) ho0 (fun k_ hk_=>trivial));replace HB:=zA (hb);clear HO_3;(try clear hb);(try clear hkp);(try clear ho0)))
    go_ret
    exact ⟨_,ze,by refine zr ?_;exact HO74.out,zv0 HB⟩
def solve_row.l0:Nat→Int→Int→List Int→Int→Int→Option (Int)
 | 0,_,_,_,_,_=>none
 | k+1,x1,x5,x9,x10,x11=>if x11<x10 then (if 0≤x11 then (if x11<(x9.length:Int) then (if 0≤(rd x9 x11) then (solve_row.l0 k x1 (Go.bits .or .i64 x5 (shl .i64 (Go.bits .and .i64 (shr .i64 x1 (rd x9 x11)) 1) x11)) x9 x10 (wrap64 (x11+1))) else (none)) else (none)) else (none)) else (some x5)
def solve_row.f (k:Nat) (l0_0:List Int) (l0_1:List Int) (a1:Int):Option (Int):=solve_row.l0 k a1 0 l0_0 (l0_0.length:Int) 0
theorem solve_row.mono_l:∀ k,(∀ y0 y1 y2 y3 y4,LeO (solve_row.l0 k y0 y1 y2 y3 y4) (solve_row.l0 (k+1) y0 y1 y2 y3 y4))
 | 0=>fun _ _ _ _ _ r h=>by simp [solve_row.l0] at h
 | k+1=>by
  have ih0:=solve_row.mono_l k
  ·intro y0 y1 y2 y3 y4
   unfold solve_row.l0
   repeat' first
   | (with_reducible exact ih0 _ _ _ _ _)
   | (with_reducible exact LeO.refl _)
   | (with_reducible exact LeO.none _)
   | (with_reducible refine LeO.ite ?_ ?_)
   | (with_reducible refine LeO.bind ?_ (fun _=>?_))
   | exact LeO.none _
   | refine LeO.ite ?_ ?_
   | refine LeO.bind ?_ (fun _=>?_)
theorem solve_row.mono:∀ a0 a1 a2 k,LeO (solve_row.f k a0 a1 a2) (solve_row.f (k+1) a0 a1 a2):=by
 intro a0 a1 a2 k;have ih0:=solve_row.mono_l k
 unfold solve_row.f
 repeat' first
   | (with_reducible exact ih0 _ _ _ _ _)
   | (with_reducible exact LeO.refl _)
   | (with_reducible exact LeO.none _)
   | (with_reducible refine LeO.ite ?_ ?_)
   | (with_reducible refine LeO.bind ?_ (fun _=>?_))
   | exact LeO.none _
   | refine LeO.ite ?_ ?_
   | refine LeO.bind ?_ (fun _=>?_)
set_option maxHeartbeats 8000000 in
set_option maxRecDepth 100000 in
theorem solve_row.calls (k:Nat) (A0_0:Option Addr) (c0_0:Nat) (l0_0:List Int) (A0_1:Option Addr) (c0_1:Nat) (l0_1:List Int) (a1:Int) (r:Int) (w:World) (hr0_0:Kd.C (Kd.int .i64) w A0_0 l0_0.length l0_0) (hc0_0:l0_0.length≤c0_0) (hr0_1:Kd.C (Kd.int .i64) w A0_1 l0_1.length l0_1) (hc0_1:l0_1.length≤c0_1) (h:solve_row.f k l0_0 l0_1 a1=some r) :
  Calls Try.prog 76 #[.agg #[.slice A0_0 l0_0.length c0_0,.slice A0_1 l0_1.length c0_1],.int .i64 a1] w fun e w'=>e=.returned (.int .i64 r)∧Below w.heap.size w w':=by
 have hu34:=Try.underlying34;have hu29:=Try.underlying29;have hu3:=Try.underlying3;have HR0_0:=zA hr0_0;have HC0_0:=zA hc0_0;clear hr0_0 hc0_0;have HR0_1:=zA hr0_1;have HC0_1:=zA hc0_1;clear hr0_1 hc0_1;have HB:=zA (Below.refl w.heap.size w);have H:(solve_row.l0 k a1 0 l0_0 (l0_0.length:Int) 0)=some r:=h;clear h;have H':=zA H;clear H
 go_enter Try.func76,Try.ntmps76
 go_wp2_with (first|((with_reducible refine gate_dst (N:=2) rfl ?_);refine box_event ?hg (N:=2) ?hd (cs:=#[.slice A0_0 l0_0.length c0_0,.slice A0_1 l0_1.length c0_1]) (t:=34) ?hr ?_;(case hd=>rfl);(case hg=>rfl);(case hr=>first|(go_simp;done)|(go_simp;rfl));intro gb39 hg w3 hbox hb;have BK39:=zA (hbox);have GW39:=zA (zG hg (below_size zB):w.heap.size≤gb39);have GE39:=GW39;replace HB:=zA (below_step zB hb);clear hb hbox hg;have hcz4_0:w3.cell? ⟨gb39,0,none⟩=some (.slice A0_0 l0_0.length c0_0):=(blk_cell BK39.out 0).trans rfl;have hcz4_1:w3.cell? ⟨gb39,1,none⟩=some (.slice A0_1 l0_1.length c0_1):=(blk_cell BK39.out 1).trans rfl;have hfz4_0:=blk_frozen BK39.out 0;have hfz4_1:=blk_frozen BK39.out 1))
 go_loopg [5,11] k (fun kq v5 v11 w'=>∃ (x5_1:Int) (x11_1:Int),v5=.int .i64 x5_1∧v11=.int .i64 x11_1∧Aside0 (solve_row.l0 kq a1 x5_1 l0_0 (l0_0.length:Int) x11_1=some r)∧Aside0 (kq≤k)∧Aside0 (w'.heap[gb39]?=some (.cells #[(.slice A0_0 l0_0.length c0_0),(.slice A0_1 l0_1.length c0_1)] 34 (0,0)))∧Aside0 (Below w.heap.size w w'))
 case atStart=>exact ⟨(0),(0),zT,zT,H',⟨Nat.le_refl _⟩,⟨by refine zj ?_;exact BK39.out⟩,⟨zv1 HB GE39⟩⟩
 case round=>
  clear H'
  try clear hcz4_0
  try clear hcz4_1
  try clear hfz4_0
  try clear hfz4_1
  obtain ⟨x5_1,x11_1,rfl,rfl,HA,HK1,BK39,HB⟩:=hrel
  cases gk with
  | zero=>exact absurd HA.out (by simp [solve_row.l0])
  | succ k1=>
   have H:=HA.out;clear HA;simp only [solve_row.l0] at H
   by_cases c5:x11_1<(l0_0.length:Int)
   ·rw [if_pos c5] at H;have c5b0:decide (x11_1<(l0_0.length:Int))=true:=decide_eq_true c5;clear c5
    by_cases c6:0≤x11_1
    ·rw [if_pos c6] at H;have c6b0:decide (0≤x11_1)=true:=decide_eq_true c6;clear c6
     by_cases c7:x11_1<(l0_0.length:Int)
     ·rw [if_pos c7] at H;have c7b0:decide (x11_1<(l0_0.length:Int))=true:=decide_eq_true c7;clear c7
      by_cases c8:0≤(rd l0_0 x11_1)
      ·rw [if_pos c8] at H;have c8b0:=eq_true c8;have c8b1:decide (0≤(rd l0_0 x11_1))=true:=decide_eq_true c8;clear c8
       obtain ⟨ji9,hji9⟩:∃ j_:Int,(shr .i64 a1 (rd l0_0 x11_1))=j_:=⟨_,rfl⟩
       replace H:(solve_row.l0 k1 a1 (Go.bits .or .i64 x5_1 (shl .i64 (Go.bits .and .i64 (ji9) 1) x11_1)) l0_0 (l0_0.length:Int) (wrap64 (x11_1+1)))=some r:=by first|(rw [hji9] at H;exact H)|(simp only [hji9] at H ⊢;exact H)
       have hji9_:(a1 / 2 ^ min (rd l0_0 x11_1).toNat 64)=ji9:=hji9;have hji9z:(rd l0_0 x11_1)≤64→(a1 / 2 ^ (rd l0_0 x11_1).toNat)=ji9:=shr_small hji9;have c10b0:=eq_true (of_decide_eq_true zh:0≤x11_1)
       obtain ⟨ji11,hji11⟩:∃ j_:Int,(shl .i64 (Go.bits .and .i64 (ji9) 1) x11_1)=j_:=⟨_,rfl⟩
       replace H:(solve_row.l0 k1 a1 (Go.bits .or .i64 x5_1 (ji11)) l0_0 (l0_0.length:Int) (wrap64 (x11_1+1)))=some r:=by first|(rw [hji11] at H;exact H)|(simp only [hji11] at H ⊢;exact H)
       have hji11_:(IntKind.i64.wrap ((Go.bits .and .i64 (ji9) 1) * 2 ^ min x11_1.toNat 64))=ji11:=hji11;have hji11z:x11_1≤64→(IntKind.i64.wrap ((Go.bits .and .i64 (ji9) 1) * 2 ^ x11_1.toNat))=ji11:=shl_small hji11;have hji11y:(wrap64 ((Go.bits .and .i64 (ji9) 1) * 2 ^ min x11_1.toNat 64))=ji11:=(i64_w _).symm.trans hji11_
       have hji11x:x11_1≤64→(wrap64 ((Go.bits .and .i64 (ji9) 1) * 2 ^ x11_1.toNat))=ji11:=fun h_=>(i64_w _).symm.trans (hji11z h_)
       have H':=zA H;clear H;have p44:0≤(x11_1:Int):=of_decide_eq_true zh;have q44:x11_1<(l0_0.length:Int):=of_decide_eq_true zh;obtain ⟨ad44,e44,hx44_0⟩:=Kd.at_int HR0_0.out x11_1 p44 q44
       cases e44
       replace hx44_0:=(HB.out.cell (World.block_lt_of_cell? w _ hx44_0)).trans hx44_0;replace p44:=eq_true p44;replace q44:=eq_true q44
       go_wp2
       go_roundg k1
       case measure=>have:=HK1.out;omega
       case rel=>exact ⟨(Go.bits .or .i64 x5_1 (ji11)),(wrap64 (x11_1+1)),(by first|rfl|(simp;done)|(simp only [← hji11] <;> (first|rfl|simp))|(simp [*];done)),zT,H',⟨by have:=HK1.out;omega⟩,⟨by refine zj ?_;exact BK39.out⟩,⟨zv1 HB GE39⟩⟩
      ·rw [if_neg c8] at H;exact absurd H (by simp)
     ·rw [if_neg c7] at H;exact absurd H (by simp)
    ·rw [if_neg c6] at H;exact absurd H (by simp)
   ·rw [if_neg c5] at H;have c5b0:decide (x11_1<(l0_0.length:Int))=false:=decide_eq_false c5;clear c5;obtain rfl:=Option.some.inj H
    go_wp2
    go_ret
    exact ⟨ze,zv1 HB GE39⟩
def solve_choices_fails_1_v1.f (a0:Int) (a1_0:Int) (a2_0:Int):Option (Bool):=some ((Go.bits .and .i64 a0 a1_0) == a2_0)
set_option maxHeartbeats 8000000 in
set_option maxRecDepth 100000 in
theorem solve_choices_fails_1_v1.calls (a0:Int) (gp1_0:Nat) (a1_0:Int) (gp2_0:Nat) (a2_0:Int) (r:Bool) (w:World) (hb_gp1_0:w.heap[gp1_0]?=some (.cells #[.int .i64 a1_0] 3 (0,0))) (hb_gp2_0:w.heap[gp2_0]?=some (.cells #[.int .i64 a2_0] 3 (0,0))) (h:solve_choices_fails_1_v1.f a0 a1_0 a2_0=some r) :
  Calls Try.prog 99 #[.int .i64 a0,.pointer (some ⟨gp1_0,0,none⟩),.pointer (some ⟨gp2_0,0,none⟩)] w fun e w'=>e=.returned (.bool r)∧Drawn0 w w':=by
 have hu3:=Try.underlying3;have BK71:=zA hb_gp1_0;clear hb_gp1_0;have BK72:=zA hb_gp2_0;clear hb_gp2_0;have H:(some ((Go.bits .and .i64 a0 a1_0) == a2_0))=some r:=h;clear h;obtain rfl:=Option.some.inj H;have hcz4_0:w.cell? ⟨gp1_0,0,none⟩=some (.int .i64 a1_0):=(blk_cell BK71.out 0).trans rfl;have hfz4_0:=blk_frozen BK71.out 0;have hcz5_0:w.cell? ⟨gp2_0,0,none⟩=some (.int .i64 a2_0):=(blk_cell BK72.out 0).trans rfl;have hfz5_0:=blk_frozen BK72.out 0
 go_enter Try.func99,Try.ntmps99
 go_wp2
 go_ret
 exact ⟨by first|rfl|(simp;done)|(simp [*];done),by repeat (first|exact Drawn0.refl _|apply Drawn0.step)⟩
def slices_IndexFunc_int_int_solve_choices_fails_1.l0:Nat→List Int→Int→Int→Int→Int→Option (Int)
 | 0,_,_,_,_,_=>none
 | k+1,x0,x7,x8,x62,x63=>if x8<x7 then (if 0≤x8 then (if x8<(x0.length:Int) then ((solve_choices_fails_1_v1.f (rd x0 x8) x62 x63).bind fun t65=>(if t65=true then (some x8) else (slices_IndexFunc_int_int_solve_choices_fails_1.l0 k x0 x7 (wrap64 (x8+1)) x62 x63))) else (none)) else (none)) else (some (-1))
def slices_IndexFunc_int_int_solve_choices_fails_1.f (k:Nat) (l0:List Int) (a1_0:Int) (a1_1:Int):Option (Int):=slices_IndexFunc_int_int_solve_choices_fails_1.l0 k l0 (l0.length:Int) 0 a1_0 a1_1
theorem slices_IndexFunc_int_int_solve_choices_fails_1.mono_l:∀ k,(∀ y0 y1 y2 y3 y4,LeO (slices_IndexFunc_int_int_solve_choices_fails_1.l0 k y0 y1 y2 y3 y4) (slices_IndexFunc_int_int_solve_choices_fails_1.l0 (k+1) y0 y1 y2 y3 y4))
 | 0=>fun _ _ _ _ _ r h=>by simp [slices_IndexFunc_int_int_solve_choices_fails_1.l0] at h
 | k+1=>by
  have ih0:=slices_IndexFunc_int_int_solve_choices_fails_1.mono_l k
  ·intro y0 y1 y2 y3 y4
   unfold slices_IndexFunc_int_int_solve_choices_fails_1.l0
   repeat' first
   | (with_reducible exact ih0 _ _ _ _ _)
   | (with_reducible exact LeO.refl _)
   | (with_reducible exact LeO.none _)
   | (with_reducible refine LeO.ite ?_ ?_)
   | (with_reducible refine LeO.bind ?_ (fun _=>?_))
   | exact LeO.none _
   | refine LeO.ite ?_ ?_
   | refine LeO.bind ?_ (fun _=>?_)
theorem slices_IndexFunc_int_int_solve_choices_fails_1.mono:∀ a0 a1 a2 k,LeO (slices_IndexFunc_int_int_solve_choices_fails_1.f k a0 a1 a2) (slices_IndexFunc_int_int_solve_choices_fails_1.f (k+1) a0 a1 a2):=by
 intro a0 a1 a2 k;have ih0:=slices_IndexFunc_int_int_solve_choices_fails_1.mono_l k
 unfold slices_IndexFunc_int_int_solve_choices_fails_1.f
 repeat' first
   | (with_reducible exact ih0 _ _ _ _ _)
   | (with_reducible exact LeO.refl _)
   | (with_reducible exact LeO.none _)
   | (with_reducible refine LeO.ite ?_ ?_)
   | (with_reducible refine LeO.bind ?_ (fun _=>?_))
   | exact LeO.none _
   | refine LeO.ite ?_ ?_
   | refine LeO.bind ?_ (fun _=>?_)
set_option maxHeartbeats 8000000 in
set_option maxRecDepth 100000 in
theorem slices_IndexFunc_int_int_solve_choices_fails_1.calls (k:Nat) (A0:Option Addr) (c0:Nat) (l0:List Int) (gp1_0:Nat) (gp1_1:Nat) (a1_0:Int) (a1_1:Int) (r:Int) (w:World) (hr0:Kd.C (Kd.int .i64) w A0 l0.length l0) (hc0:l0.length≤c0) (hb_gp1_0:w.heap[gp1_0]?=some (.cells #[.int .i64 a1_0] 3 (0,0))) (hb_gp1_1:w.heap[gp1_1]?=some (.cells #[.int .i64 a1_1] 3 (0,0))) (h:slices_IndexFunc_int_int_solve_choices_fails_1.f k l0 a1_0 a1_1=some r) :
  Calls Try.prog 60 #[.slice A0 l0.length c0,.func (.func 99) #[] #[.pointer (some ⟨gp1_0,0,none⟩),.pointer (some ⟨gp1_1,0,none⟩)]] w fun e w'=>e=.returned (.int .i64 r)∧Below w.heap.size w w':=by
 have hu3:=Try.underlying3;have HR0:=zA hr0;have HC0:=zA hc0;clear hr0 hc0;have BK53:=zA hb_gp1_0;clear hb_gp1_0;have BK54:=zA hb_gp1_1;clear hb_gp1_1;have HB:=zA (Below.refl w.heap.size w);have H:(slices_IndexFunc_int_int_solve_choices_fails_1.l0 k l0 (l0.length:Int) 0 a1_0 a1_1)=some r:=h;clear h;have H':=zA H;clear H
 go_enter Try.func60,Try.ntmps60
 go_wp2
 go_loopg [8] k (fun kq v8 w'=>∃ (x8_1:Int),v8=.int .i64 x8_1∧Aside0 (slices_IndexFunc_int_int_solve_choices_fails_1.l0 kq l0 (l0.length:Int) x8_1 a1_0 a1_1=some r)∧Aside0 (kq≤k)∧Aside0 (w'.heap[gp1_0]?=some (.cells #[.int .i64 a1_0] 3 (0,0)))∧Aside0 (w'.heap[gp1_1]?=some (.cells #[.int .i64 a1_1] 3 (0,0)))∧Aside0 (Below w.heap.size w w'))
 case atStart=>exact ⟨(0),zT,H',⟨Nat.le_refl _⟩,⟨by refine zj ?_;exact BK53.out⟩,⟨by refine zj ?_;exact BK54.out⟩,⟨zv0 HB⟩⟩
 case round=>
  clear H';obtain ⟨x8_1,rfl,HA,HK1,BK53,BK54,HB⟩:=hrel
  cases gk with
  | zero=>exact absurd HA.out (by simp [slices_IndexFunc_int_int_solve_choices_fails_1.l0])
  | succ k1=>
   have H:=HA.out;clear HA;simp only [slices_IndexFunc_int_int_solve_choices_fails_1.l0] at H
   by_cases c3:x8_1<(l0.length:Int)
   ·rw [if_pos c3] at H;have c3b0:decide (x8_1<(l0.length:Int))=true:=decide_eq_true c3;clear c3
    by_cases c4:0≤x8_1
    ·rw [if_pos c4] at H;have c4b0:decide (0≤x8_1)=true:=decide_eq_true c4;clear c4
     by_cases c5:x8_1<(l0.length:Int)
     ·rw [if_pos c5] at H;have c5b0:decide (x8_1<(l0.length:Int))=true:=decide_eq_true c5;clear c5;replace H:=Option.bind_eq_some_iff.mp H;obtain ⟨t65,A60,H⟩:=H;replace H:(if t65=true then (some x8_1) else (slices_IndexFunc_int_int_solve_choices_fails_1.l0 k1 l0 (l0.length:Int) (wrap64 (x8_1+1)) a1_0 a1_1))=some r:=H;have A6:=zA A60;clear A60;have HC7:=zA H;clear H;have p45:0≤(x8_1:Int):=of_decide_eq_true zh;have q45:x8_1<(l0.length:Int):=of_decide_eq_true zh;obtain ⟨ad45,e45,hx45_0⟩:=Kd.at_int HR0.out x8_1 p45 q45
      cases e45
      replace hx45_0:=(HB.out.cell (World.block_lt_of_cell? w _ hx45_0)).trans hx45_0;replace p45:=eq_true p45;replace q45:=eq_true q45
      go_upto_if 16 with (first|(go_at_call 99;(with_reducible refine (solve_choices_fails_1_v1.calls (rd l0 x8_1) gp1_0 a1_0 gp1_1 a1_1 t65 _ ?side1 ?side2 A6.out).mono ?_);(case side1=>refine zj ?_;exact BK53.out);(case side2=>refine zj ?_;exact BK54.out);rintro e w' ⟨rfl,⟨nd,rfl⟩⟩))
      (try simp only [Act.put,zi,zs,zt]);have H:=HC7.out;clear HC7
      by_cases c8:t65=true
      ·subst c8
       have H1:(some x8_1)=some r:=by rw [if_pos rfl] at H;exact H
       clear H;have H:=H1;clear H1;obtain rfl:=Option.some.inj H
       go_wp2
       go_ret
       exact ⟨ze,zv0 HB⟩
      ·replace c8:=Bool.eq_false_iff.mpr c8;subst c8
       have H1:(slices_IndexFunc_int_int_solve_choices_fails_1.l0 k1 l0 (l0.length:Int) (wrap64 (x8_1+1)) a1_0 a1_1)=some r:=by rw [if_neg (show ¬ (false=true) by decide)] at H;exact H
       clear H;have H:=H1;clear H1;have H':=zA H;clear H
       go_wp2
       go_roundg k1
       case measure=>have:=HK1.out;omega
       case rel=>exact ⟨(wrap64 (x8_1+1)),zT,H',⟨by have:=HK1.out;omega⟩,⟨by refine zj ?_;exact BK53.out⟩,⟨by refine zj ?_;exact BK54.out⟩,⟨zv0 HB⟩⟩
     ·rw [if_neg c5] at H;exact absurd H (by simp)
    ·rw [if_neg c4] at H;exact absurd H (by simp)
   ·rw [if_neg c3] at H;have c3b0:decide (x8_1<(l0.length:Int))=false:=decide_eq_false c3;clear c3;obtain rfl:=Option.some.inj H
    go_wp2
    go_ret
    exact ⟨ze,zv0 HB⟩
def slices_ContainsFunc_int_int_solve_choices_fails_1.f (k:Nat) (l0:List Int) (a1_0:Int) (a1_1:Int):Option (Bool):=(slices_IndexFunc_int_int_solve_choices_fails_1.f k l0 a1_0 a1_1).bind fun t59=>(some (decide (t59≥0)))
theorem slices_ContainsFunc_int_int_solve_choices_fails_1.mono:∀ a0 a1 a2 k,LeO (slices_ContainsFunc_int_int_solve_choices_fails_1.f k a0 a1 a2) (slices_ContainsFunc_int_int_solve_choices_fails_1.f (k+1) a0 a1 a2):=by
 intro a0 a1 a2 k
 unfold slices_ContainsFunc_int_int_solve_choices_fails_1.f
 repeat' first
   | (with_reducible exact slices_IndexFunc_int_int_solve_choices_fails_1.mono _ _ _ _)
   | (with_reducible exact LeO.refl _)
   | (with_reducible exact LeO.none _)
   | (with_reducible refine LeO.ite ?_ ?_)
   | (with_reducible refine LeO.bind ?_ (fun _=>?_))
   | exact LeO.none _
   | refine LeO.ite ?_ ?_
   | refine LeO.bind ?_ (fun _=>?_)
set_option maxHeartbeats 8000000 in
set_option maxRecDepth 100000 in
theorem slices_ContainsFunc_int_int_solve_choices_fails_1.calls (k:Nat) (A0:Option Addr) (c0:Nat) (l0:List Int) (gp1_0:Nat) (gp1_1:Nat) (a1_0:Int) (a1_1:Int) (r:Bool) (w:World) (hr0:Kd.C (Kd.int .i64) w A0 l0.length l0) (hc0:l0.length≤c0) (hb_gp1_0:w.heap[gp1_0]?=some (.cells #[.int .i64 a1_0] 3 (0,0))) (hb_gp1_1:w.heap[gp1_1]?=some (.cells #[.int .i64 a1_1] 3 (0,0))) (h:slices_ContainsFunc_int_int_solve_choices_fails_1.f k l0 a1_0 a1_1=some r) :
  Calls Try.prog 98 #[.slice A0 l0.length c0,.func (.func 99) #[] #[.pointer (some ⟨gp1_0,0,none⟩),.pointer (some ⟨gp1_1,0,none⟩)]] w fun e w'=>e=.returned (.bool r)∧Below w.heap.size w w':=by
 have HR0:=zA hr0;have HC0:=zA hc0;clear hr0 hc0;have BK66:=zA hb_gp1_0;clear hb_gp1_0;have BK69:=zA hb_gp1_1;clear hb_gp1_1;have HB:=zA (Below.refl w.heap.size w);have H:((slices_IndexFunc_int_int_solve_choices_fails_1.f k l0 a1_0 a1_1).bind fun t59=>(some (decide (t59≥0))))=some r:=h;clear h;replace H:=Option.bind_eq_some_iff.mp H;obtain ⟨t59,A30,H⟩:=H;replace H:(some (decide (t59≥0)))=some r:=H;have A3:=zA A30;clear A30;obtain rfl:=Option.some.inj H
 go_enter Try.func98,Try.ntmps98
 go_wp2_with (first|((with_reducible refine gate_callee (f:=60) rfl ?_);refine goesL_ (some 7) rfl rfl Try.func60 zK rfl #[.slice A0 l0.length c0,.func (.func 99) #[] #[.pointer (some ⟨gp1_0,0,none⟩),.pointer (some ⟨gp1_1,0,none⟩)]] rfl zM ?_;(with_reducible refine (slices_IndexFunc_int_int_solve_choices_fails_1.calls k _ _ l0 gp1_0 gp1_1 a1_0 a1_1 t59 _ ?side1 ?side2 ?side3 ?side4 A3.out).mono ?_);(case side1=>repeat (first|exact HR0.out|(with_reducible refine Kd.C_alloc ?_ _)|(with_reducible refine Kd.C_drewN ?_ _)|(with_reducible refine Kd.C_drew ?_)));(case side2=>exact HC0.out);(case side3=>refine zj ?_;exact BK66.out);(case side4=>refine zj ?_;exact BK69.out);rintro e w4 ⟨rfl,hb⟩;refine ⟨_,rfl,?_⟩;replace BK66:=zA (zb BK66 hb);replace BK69:=zA (zb BK69 hb);replace HB:=zA (below_step zB hb);(try clear hb);(try clear hb2);(try clear hk);(try clear hi)))
 go_ret
 exact ⟨ze,zv0 HB⟩
end Go.Proofs.Ytngpkbbljnbojaa.I
