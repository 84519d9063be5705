import Derived.Test.YtkjghablbeaioaaGreatB0
namespace Go.Proofs.YtkjghablbeaioaaGreat.B
open Go.RowKit Go.Proofs.YtkjghablbeaioaaGreatW.PrintWords Go.Proofs.YtkjghablbeaioaaGreatW.PrintLast Go.Proofs.YtkjghablbeaioaaGreatW.PrintMore
attribute [local go_sem] max2_int min2_int max_two min_two max_three min_three max_four min_four Tryz.underlying23 Tryz.underlying24 Tryz.underlying28 Tryz.underlying3
set_option linter.unusedVariables false
set_option linter.unusedSimpArgs false
def ancepsref42_FewCore.f (l0_0:List Int) (l0_1:List (S96)) (l0_2:List Int):Option (Bool):=if (l0_0.length:Int)≤20 then (if (l0_1.length:Int)≤200 then (some (decide ((l0_2.length:Int)≤20))) else (some false)) else (some false)
set_option maxHeartbeats 8000000 in
set_option maxRecDepth 100000 in
theorem ancepsref42_FewCore.calls (A0_0:Option Addr) (c0_0:Nat) (l0_0:List Int) (A0_1:Option Addr) (c0_1:Nat) (l0_1:List (S96)) (A0_2:Option Addr) (c0_2:Nat) (l0_2:List Int) (r:Bool) (w:World) (hr0_0:Kd.C (Kd.int .i64) w A0_0 l0_0.length l0_0) (hc0_0:l0_0.length≤c0_0) (hr0_1:Kd.C k96 w A0_1 l0_1.length l0_1) (hc0_1:l0_1.length≤c0_1) (hr0_2:Kd.C (Kd.int .i64) w A0_2 l0_2.length l0_2) (hc0_2:l0_2.length≤c0_2) (h:ancepsref42_FewCore.f l0_0 l0_1 l0_2=some r) :
  Calls Tryz.prog 7 #[.agg #[.slice A0_0 l0_0.length c0_0,.slice A0_1 l0_1.length c0_1,.slice A0_2 l0_2.length c0_2]] w fun e w'=>e=.returned (.bool r)∧Below w.heap.size w w':=by
 have HR0_0:=zA hr0_0;have HC0_0:=zA hc0_0;clear hr0_0 hc0_0;have HR0_1:=zA hr0_1;have HC0_1:=zA hc0_1;clear hr0_1 hc0_1;have HR0_2:=zA hr0_2;have HC0_2:=zA hc0_2;clear hr0_2 hc0_2;have HB:=zA (Below.refl w.heap.size w);have H:(if (l0_0.length:Int)≤20 then (if (l0_1.length:Int)≤200 then (some (decide ((l0_2.length:Int)≤20))) else (some false)) else (some false))=some r:=h;clear h;have HC2:=zA H;clear H
 go_enter Tryz.func7,Tryz.ntmps7
 go_upto_region 1 with (first|((with_reducible refine gd 1 rfl ?_);(try (refine gate_guard (by rfl) ?_;dsimp only));refine zx #[.slice A0_0 l0_0.length c0_0,.slice A0_1 l0_1.length c0_1,.slice A0_2 l0_2.length c0_2] 28 ?_;intro gb14 hg w3 BK14 hb GW14 HB1;have GE14:=GW14;clear HB hb hg;have HB:=HB1;clear HB1))
 (try simp only [Act.put,zi,zs,zt]);have H:=HC2.out;clear HC2
 rcases if0 H with ⟨c4,H⟩|⟨c4,H⟩
 ·have c4b0:decide ((l0_0.length:Int)≤20)=true:=decide_eq_true c4;have c4b1:decide (l0_0.length≤20)=true:=decide_eq_true (by omega);clear c4
  (first|rw [c4b0]|(simp only [i64_w,i32_w];rw [c4b0])|skip)
  (try rw [c4b1])
  rcases if0 H with ⟨c5,H⟩|⟨c5,H⟩
  ·have c5b0:decide ((l0_1.length:Int)≤200)=true:=decide_eq_true c5;have c5b1:decide (l0_1.length≤200)=true:=decide_eq_true (by omega);clear c5;obtain rfl:=Option.some.inj H;have hcz6_0:=zc0 BK14;have hcz6_1:=zc1 BK14;have hcz6_2:=zc2 BK14;have hfz6_0:=zf BK14
   go_wp2
   go_ret
   exact ⟨ze,zv1 HB GE14⟩
  ·have c5b0:decide ((l0_1.length:Int)≤200)=false:=decide_eq_false c5;have c5b1:decide (l0_1.length≤200)=false:=decide_eq_false (by omega);clear c5;obtain rfl:=Option.some.inj H;have hcz7_0:=zc0 BK14;have hcz7_1:=zc1 BK14;have hcz7_2:=zc2 BK14;have hfz7_0:=zf BK14
   go_wp2
   go_ret
   exact ⟨ze,zv1 HB GE14⟩
 ·have c4b0:decide ((l0_0.length:Int)≤20)=false:=decide_eq_false c4;have c4b1:decide (l0_0.length≤20)=false:=decide_eq_false (by omega);clear c4
  (first|rw [c4b0]|(simp only [i64_w,i32_w];rw [c4b0])|skip)
  (try rw [c4b1]);obtain rfl:=Option.some.inj H;have hcz8_0:=zc0 BK14;have hcz8_1:=zc1 BK14;have hcz8_2:=zc2 BK14;have hfz8_0:=zf BK14
  go_wp2
  go_ret
  exact ⟨ze,zv1 HB GE14⟩
def ancepsref42_Is.l0:Nat→List (S49)→List Int→Int→Option (Bool)
 | 0,_,_,_=>none
 | k+1,x0,x1,x5=>if x5<(x1.length:Int) then (if 0≤x5 then (if (rd x1 x5)<0 then (some false) else (if (rd x1 x5)≥(x0.length:Int) then (some false) else (if x5>0 then (if 0≤(wrap64 (x5 - 1)) then (if (wrap64 (x5 - 1))<(x1.length:Int) then (if (rd x1 x5)≤(rd x1 (wrap64 (x5 - 1))) then (some false) else (ancepsref42_Is.l0 k x0 x1 (wrap64 (x5+1)))) else (none)) else (none)) else (ancepsref42_Is.l0 k x0 x1 (wrap64 (x5+1)))))) else (none)) else (some true)
def ancepsref42_Is.f (k:Nat) (l0:List (S49)) (l1:List Int):Option (Bool):=ancepsref42_Is.l0 k l0 l1 0
set_option maxHeartbeats 8000000 in
set_option maxRecDepth 100000 in
theorem ancepsref42_Is.calls (k:Nat) (A0:Option Addr) (c0:Nat) (l0:List (S49)) (A1:Option Addr) (c1:Nat) (l1:List Int) (r:Bool) (w:World) (hr0:Kd.C k49 w A0 l0.length l0) (hc0:l0.length≤c0) (hr1:Kd.C (Kd.int .i64) w A1 l1.length l1) (hc1:l1.length≤c1) (h:ancepsref42_Is.f k l0 l1=some r) :
  Calls Tryz.prog 38 #[.slice A0 l0.length c0,.slice A1 l1.length c1] w fun e w'=>e=.returned (.bool r)∧Drawn0 w w':=by
 have HR0:=zA hr0;have HC0:=zA hc0;clear hr0 hc0;have HR1:=zA hr1;have HC1:=zA hc1;clear hr1 hc1;have H:(ancepsref42_Is.l0 k l0 l1 0)=some r:=h;clear h;have H':=zA H;clear H
 go_enter Tryz.func38,Tryz.ntmps38
 go_wp2
 repeat (go_quiet (fail);try go_wp2)
 go_loopg [5] k (fun kq v5 w'=>∃ (x5_1:Int),v5=.int .i64 x5_1∧Aside0 (ancepsref42_Is.l0 kq l0 l1 x5_1=some r)∧Aside0 (kq≤k)∧Drawn0 w w')
 case atStart=>exact ⟨(0),zT,H',⟨Nat.le_refl _⟩,by repeat (first|exact Drawn0.refl _|apply Drawn0.step)⟩
 case round=>
  clear H';obtain ⟨x5_1,rfl,HA,HK1,⟨m1,rfl⟩⟩:=hrel
  cases gk with
  | zero=>exact absurd HA.out (by simp [ancepsref42_Is.l0])
  | succ k1=>
   have H:=HA.out;clear HA;simp only [ancepsref42_Is.l0] at H
   rcases ifd H with ⟨c3b0,H⟩|⟨c3b0,H⟩
   ·obtain ⟨c4b0,H⟩:=ifd1 H
    rcases ifd H with ⟨c5b0,H⟩|⟨c5b0,H⟩
    ·obtain rfl:=Option.some.inj H;obtain ⟨p12,q12,ad12,e12,hx12_0⟩:=zp (Kd.at_int HR1.out x5_1)
     cases e12
     replace p12:=eq_true p12;replace q12:=eq_true q12
     go_wp2
     repeat (go_quiet (fail);try go_wp2)
     go_ret
     exact ⟨by first|rfl|(simp;done)|(simp [*];done),by repeat (first|exact Drawn0.refl _|apply Drawn0.step)⟩
    ·rcases if0 H with ⟨c6,H⟩|⟨c6,H⟩
     ·have c6b0:decide ((l0.length:Int)≤(rd l1 x5_1))=true:=decide_eq_true c6;clear c6;obtain rfl:=Option.some.inj H;obtain ⟨p12,q12,ad12,e12,hx12_0⟩:=zp (Kd.at_int HR1.out x5_1)
      cases e12
      replace p12:=eq_true p12;replace q12:=eq_true q12;obtain ⟨p13,q13,ad13,e13,hx13_0⟩:=zp (Kd.at_int HR1.out x5_1)
      obtain rfl:ad12=ad13:=(by injection e13)
      replace p13:=eq_true p13;replace q13:=eq_true q13
      go_wp2
      repeat (go_quiet (fail);try go_wp2)
      go_ret
      exact ⟨by first|rfl|(simp;done)|(simp [*];done),by repeat (first|exact Drawn0.refl _|apply Drawn0.step)⟩
     ·have c6b0:decide ((l0.length:Int)≤(rd l1 x5_1))=false:=decide_eq_false c6;clear c6
      rcases if0 H with ⟨c7,H⟩|⟨c7,H⟩
      ·have c7b0:decide (0<x5_1)=true:=decide_eq_true c7;clear c7;obtain ⟨ji8,hji8⟩:=zZ (wrap64 (x5_1 - 1))
       first|rw [hji8] at H|simp only [hji8] at H
       have hji8w:(IntKind.i64.wrap (x5_1 - 1))=ji8:=(i64_w _).trans hji8;obtain ⟨c9b0,H⟩:=ifd1 H;obtain ⟨c10b0,H⟩:=ifd1 H
       rcases ifd H with ⟨c11b0,H⟩|⟨c11b0,H⟩
       ·obtain rfl:=Option.some.inj H;obtain ⟨p12,q12,ad12,e12,hx12_0⟩:=zp (Kd.at_int HR1.out x5_1)
        cases e12
        replace p12:=eq_true p12;replace q12:=eq_true q12;obtain ⟨p13,q13,ad13,e13,hx13_0⟩:=zp (Kd.at_int HR1.out x5_1)
        obtain rfl:ad12=ad13:=(by injection e13)
        replace p13:=eq_true p13;replace q13:=eq_true q13;obtain ⟨p15,q15,ad15,e15,hx15_0⟩:=zp (Kd.at_int HR1.out x5_1)
        obtain rfl:ad12=ad15:=(by injection e15)
        replace p15:=eq_true p15;replace q15:=eq_true q15;obtain ⟨p16,q16,ad16,e16,hx16_0⟩:=zp (Kd.at_int HR1.out (ji8))
        obtain rfl:ad12=ad16:=(by injection e16)
        replace p16:=eq_true p16;replace q16:=eq_true q16
        go_wp2
        repeat (go_quiet (fail);try go_wp2)
        go_ret
        exact ⟨by first|rfl|(simp;done)|(simp only [← hji8] <;> (first|rfl|simp))|(simp [*];done),by repeat (first|exact Drawn0.refl _|apply Drawn0.step)⟩
       ·have H':=zA H;clear H;obtain ⟨p12,q12,ad12,e12,hx12_0⟩:=zp (Kd.at_int HR1.out x5_1)
        cases e12
        replace p12:=eq_true p12;replace q12:=eq_true q12;obtain ⟨p13,q13,ad13,e13,hx13_0⟩:=zp (Kd.at_int HR1.out x5_1)
        obtain rfl:ad12=ad13:=(by injection e13)
        replace p13:=eq_true p13;replace q13:=eq_true q13;obtain ⟨p15,q15,ad15,e15,hx15_0⟩:=zp (Kd.at_int HR1.out x5_1)
        obtain rfl:ad12=ad15:=(by injection e15)
        replace p15:=eq_true p15;replace q15:=eq_true q15;obtain ⟨p16,q16,ad16,e16,hx16_0⟩:=zp (Kd.at_int HR1.out (ji8))
        obtain rfl:ad12=ad16:=(by injection e16)
        replace p16:=eq_true p16;replace q16:=eq_true q16
        go_wp2
        repeat (go_quiet (fail);try go_wp2)
        go_roundg k1
        case measure=>have:=HK1.out;omega
        case rel=>exact ⟨(wrap64 (x5_1+1)),zT,H',⟨by have:=HK1.out;omega⟩,by repeat (first|exact Drawn0.refl _|apply Drawn0.step)⟩
      ·have c7b0:decide (0<x5_1)=false:=decide_eq_false c7;clear c7;have H':=zA H;clear H;obtain ⟨p12,q12,ad12,e12,hx12_0⟩:=zp (Kd.at_int HR1.out x5_1)
       cases e12
       replace p12:=eq_true p12;replace q12:=eq_true q12;obtain ⟨p13,q13,ad13,e13,hx13_0⟩:=zp (Kd.at_int HR1.out x5_1)
       obtain rfl:ad12=ad13:=(by injection e13)
       replace p13:=eq_true p13;replace q13:=eq_true q13
       go_wp2
       repeat (go_quiet (fail);try go_wp2)
       go_roundg k1
       case measure=>have:=HK1.out;omega
       case rel=>exact ⟨(wrap64 (x5_1+1)),zT,H',⟨by have:=HK1.out;omega⟩,by repeat (first|exact Drawn0.refl _|apply Drawn0.step)⟩
   ·obtain rfl:=Option.some.inj H
    go_wp2
    repeat (go_quiet (fail);try go_wp2)
    go_ret
    exact ⟨by first|rfl|(simp;done)|(simp [*];done),by repeat (first|exact Drawn0.refl _|apply Drawn0.step)⟩
end Go.Proofs.YtkjghablbeaioaaGreat.B
