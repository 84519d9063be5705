import Derived.Test.YtkjghablbeaioaaG0
namespace Go.Proofs.Ytkjghablbeaioaa.G
open Go.RowKit Go.Proofs.YtkjghablbeaioaaW.PrintWords Go.Proofs.YtkjghablbeaioaaW.PrintLast Go.Proofs.YtkjghablbeaioaaW.PrintMore
attribute [local go_sem] max2_int min2_int max_two min_two max_three min_three max_four min_four
set_option linter.unusedVariables false
set_option linter.unusedSimpArgs false
def ancepsref38_Variables.l0:Nat→List Int→Int→Option (Int)
 | 0,_,_=>none
 | k+1,x0,x3=>if x3<(x0.length:Int) then (if 0≤x3 then (if (rd x0 x3)<0 then (some 6) else (if (rd x0 x3)>23 then (some 6) else (if x3>0 then (if 0≤(wrap64 (x3 - 1)) then (if (wrap64 (x3 - 1))<(x0.length:Int) then (if (rd x0 x3)≤(rd x0 (wrap64 (x3 - 1))) then (some 18) else (ancepsref38_Variables.l0 k x0 (wrap64 (x3+1)))) else (none)) else (none)) else (ancepsref38_Variables.l0 k x0 (wrap64 (x3+1)))))) else (none)) else (some 0)
def ancepsref38_Variables.f (k:Nat) (l0:List Int):Option (Int):=if (l0.length:Int)>10 then (some 3) else (ancepsref38_Variables.l0 k l0 0)
theorem ancepsref38_Variables.mono_l:∀ k,(∀ y0 y1,LeO (ancepsref38_Variables.l0 k y0 y1) (ancepsref38_Variables.l0 (k+1) y0 y1))
 | 0=>fun _ _ r h=>by simp [ancepsref38_Variables.l0] at h
 | k+1=>by
  have ih0:=ancepsref38_Variables.mono_l k
  ·intro y0 y1
   unfold ancepsref38_Variables.l0
   repeat' first
   | (with_reducible exact ih0 _ _)
   | (with_reducible exact LeO.refl _)
   | (with_reducible exact LeO.none _)
   | (with_reducible refine LeO.ite ?_ ?_)
   | (with_reducible refine LeO.bind ?_ (fun _=>?_))
   | exact LeO.none _
   | refine LeO.ite ?_ ?_
   | refine LeO.bind ?_ (fun _=>?_)
theorem ancepsref38_Variables.mono:∀ a0 k,LeO (ancepsref38_Variables.f k a0) (ancepsref38_Variables.f (k+1) a0):=by
 intro a0 k
 have ih0:=ancepsref38_Variables.mono_l k
 unfold ancepsref38_Variables.f
 repeat' first
   | (with_reducible exact ih0 _ _)
   | (with_reducible exact LeO.refl _)
   | (with_reducible exact LeO.none _)
   | (with_reducible refine LeO.ite ?_ ?_)
   | (with_reducible refine LeO.bind ?_ (fun _=>?_))
   | exact LeO.none _
   | refine LeO.ite ?_ ?_
   | refine LeO.bind ?_ (fun _=>?_)
set_option maxHeartbeats 8000000 in
set_option maxRecDepth 100000 in
theorem ancepsref38_Variables.calls (k:Nat) (A0:Option Addr) (c0:Nat) (l0:List Int) (r:Int) (w:World) (hr0:Kd.C (Kd.int .i64) w A0 l0.length l0) (hc0:l0.length≤c0) (h:ancepsref38_Variables.f k l0=some r) :
  Calls Try.prog 82 #[.slice A0 l0.length c0] w fun e w'=>e=.returned (.int .i64 r)∧Drawn0 w w':=by
 have hu3:=Try.underlying3
 have HR0:=zA hr0
 have HC0:=zA hc0
 clear hr0 hc0
 have H:(if (l0.length:Int)>10 then (some 3) else (ancepsref38_Variables.l0 k l0 0))=some r:=h
 clear h
 rcases if0 H with ⟨c2,H⟩|⟨c2,H⟩
 ·have c2b0:decide (10<(l0.length:Int))=true:=decide_eq_true c2
  have c2b1:decide (10<l0.length)=true:=decide_eq_true (by omega)
  clear c2
  obtain rfl:=Option.some.inj H
  go_enter Try.func82,Try.ntmps82
  go_wp2
  repeat (go_quiet (fail);try go_wp2)
  go_ret
  exact ⟨by first|rfl|(simp;done)|(simp [*];done),by repeat (first|exact Drawn0.refl _|apply Drawn0.step)⟩
 ·have c2b0:decide (10<(l0.length:Int))=false:=decide_eq_false c2
  have c2b1:decide (10<l0.length)=false:=decide_eq_false (by omega)
  clear c2
  have H':=zA H
  clear H
  go_enter Try.func82,Try.ntmps82
  go_wp2
  repeat (go_quiet (fail);try go_wp2)
  go_loopg [3] k (fun kq v3 w'=>∃ (x3_1:Int),v3=.int .i64 x3_1∧Aside0 (ancepsref38_Variables.l0 kq l0 x3_1=some r)∧Aside0 (kq≤k)∧Drawn0 w w')
  case atStart=>exact ⟨(0),zT,H',⟨Nat.le_refl _⟩,by repeat (first|exact Drawn0.refl _|apply Drawn0.step)⟩
  case round=>
   clear H'
   try clear c2
   try clear c2b0
   try clear c2b1
   obtain ⟨x3_1,rfl,HA,HK1,⟨m1,rfl⟩⟩:=hrel
   cases gk with
   | zero=>exact absurd HA.out (by simp [ancepsref38_Variables.l0])
   | succ k1=>
    have H:=HA.out
    clear HA
    simp only [ancepsref38_Variables.l0] at H
    rcases ifd H with ⟨c3b0,H⟩|⟨c3b0,H⟩
    ·obtain ⟨c4b0,H⟩:=ifd1 H
     rcases ifd H with ⟨c5b0,H⟩|⟨c5b0,H⟩
     ·obtain rfl:=Option.some.inj H
      obtain ⟨p513,q513,ad513,e513,hx513_0⟩:=zp (Kd.at_int HR0.out x3_1)
      cases e513
      replace p513:=eq_true p513
      replace q513:=eq_true q513
      go_wp2
      repeat (go_quiet (fail);try go_wp2)
      go_ret
      exact ⟨by first|rfl|(simp;done)|(simp [*];done),by repeat (first|exact Drawn0.refl _|apply Drawn0.step)⟩
     ·rcases if0 H with ⟨c6,H⟩|⟨c6,H⟩
      ·have c6b0:decide (23<(rd l0 x3_1))=true:=decide_eq_true c6
       clear c6
       obtain rfl:=Option.some.inj H
       obtain ⟨p513,q513,ad513,e513,hx513_0⟩:=zp (Kd.at_int HR0.out x3_1)
       cases e513
       replace p513:=eq_true p513
       replace q513:=eq_true q513
       obtain ⟨p514,q514,ad514,e514,hx514_0⟩:=zp (Kd.at_int HR0.out x3_1)
       obtain rfl:ad513=ad514:=(by injection e514)
       replace p514:=eq_true p514
       replace q514:=eq_true q514
       go_wp2
       repeat (go_quiet (fail);try go_wp2)
       go_ret
       exact ⟨by first|rfl|(simp;done)|(simp [*];done),by repeat (first|exact Drawn0.refl _|apply Drawn0.step)⟩
      ·have c6b0:decide (23<(rd l0 x3_1))=false:=decide_eq_false c6
       clear c6
       rcases if0 H with ⟨c7,H⟩|⟨c7,H⟩
       ·have c7b0:decide (0<x3_1)=true:=decide_eq_true c7
        clear c7
        obtain ⟨ji8,hji8⟩:=zZ (wrap64 (x3_1 - 1))
        first|rw [hji8] at H|simp only [hji8] at H
        have hji8w:(IntKind.i64.wrap (x3_1 - 1))=ji8:=(i64_w _).trans hji8
        obtain ⟨c9b0,H⟩:=ifd1 H
        obtain ⟨c10b0,H⟩:=ifd1 H
        rcases ifd H with ⟨c11b0,H⟩|⟨c11b0,H⟩
        ·obtain rfl:=Option.some.inj H
         obtain ⟨p513,q513,ad513,e513,hx513_0⟩:=zp (Kd.at_int HR0.out x3_1)
         cases e513
         replace p513:=eq_true p513
         replace q513:=eq_true q513
         obtain ⟨p514,q514,ad514,e514,hx514_0⟩:=zp (Kd.at_int HR0.out x3_1)
         obtain rfl:ad513=ad514:=(by injection e514)
         replace p514:=eq_true p514
         replace q514:=eq_true q514
         obtain ⟨p515,q515,ad515,e515,hx515_0⟩:=zp (Kd.at_int HR0.out x3_1)
         obtain rfl:ad513=ad515:=(by injection e515)
         replace p515:=eq_true p515
         replace q515:=eq_true q515
         obtain ⟨p516,q516,ad516,e516,hx516_0⟩:=zp (Kd.at_int HR0.out (ji8))
         obtain rfl:ad513=ad516:=(by injection e516)
         replace p516:=eq_true p516
         replace q516:=eq_true q516
         go_wp2
         repeat (go_quiet (fail);try go_wp2)
         go_ret
         exact ⟨by first|rfl|(simp;done)|(simp only [← hji8] <;> (first|rfl|simp))|(simp [*];done),by repeat (first|exact Drawn0.refl _|apply Drawn0.step)⟩
        ·have H':=zA H
         clear H
         obtain ⟨p513,q513,ad513,e513,hx513_0⟩:=zp (Kd.at_int HR0.out x3_1)
         cases e513
         replace p513:=eq_true p513
         replace q513:=eq_true q513
         obtain ⟨p514,q514,ad514,e514,hx514_0⟩:=zp (Kd.at_int HR0.out x3_1)
         obtain rfl:ad513=ad514:=(by injection e514)
         replace p514:=eq_true p514
         replace q514:=eq_true q514
         obtain ⟨p515,q515,ad515,e515,hx515_0⟩:=zp (Kd.at_int HR0.out x3_1)
         obtain rfl:ad513=ad515:=(by injection e515)
         replace p515:=eq_true p515
         replace q515:=eq_true q515
         obtain ⟨p516,q516,ad516,e516,hx516_0⟩:=zp (Kd.at_int HR0.out (ji8))
         obtain rfl:ad513=ad516:=(by injection e516)
         replace p516:=eq_true p516
         replace q516:=eq_true q516
         go_wp2
         repeat (go_quiet (fail);try go_wp2)
         go_roundg k1
         case measure=>have:=HK1.out;omega
         case rel=>exact ⟨(wrap64 (x3_1+1)),zT,H',⟨by have:=HK1.out;omega⟩,by repeat (first|exact Drawn0.refl _|apply Drawn0.step)⟩
       ·have c7b0:decide (0<x3_1)=false:=decide_eq_false c7
        clear c7
        have H':=zA H
        clear H
        obtain ⟨p513,q513,ad513,e513,hx513_0⟩:=zp (Kd.at_int HR0.out x3_1)
        cases e513
        replace p513:=eq_true p513
        replace q513:=eq_true q513
        obtain ⟨p514,q514,ad514,e514,hx514_0⟩:=zp (Kd.at_int HR0.out x3_1)
        obtain rfl:ad513=ad514:=(by injection e514)
        replace p514:=eq_true p514
        replace q514:=eq_true q514
        go_wp2
        repeat (go_quiet (fail);try go_wp2)
        go_roundg k1
        case measure=>have:=HK1.out;omega
        case rel=>exact ⟨(wrap64 (x3_1+1)),zT,H',⟨by have:=HK1.out;omega⟩,by repeat (first|exact Drawn0.refl _|apply Drawn0.step)⟩
    ·obtain rfl:=Option.some.inj H
     go_wp2
     repeat (go_quiet (fail);try go_wp2)
     go_ret
     exact ⟨by first|rfl|(simp;done)|(simp [*];done),by repeat (first|exact Drawn0.refl _|apply Drawn0.step)⟩
def ancepsref38_Valid.l0:Nat→Int→List Int→List Int→Option (Int)
 | 0,_,_,_=>none
 | k+1,x4,x518000,x518001=>if x4<(x518001.length:Int) then (if 0≤x4 then (if (rd x518001 x4)<0 then (some 6) else (if (rd x518001 x4)≥(shl .i64 1 (x518000.length:Int)) then (some 6) else (if x4>0 then (if 0≤(wrap64 (x4 - 1)) then (if (wrap64 (x4 - 1))<(x518001.length:Int) then (if (rd x518001 x4)≤(rd x518001 (wrap64 (x4 - 1))) then (some 18) else (ancepsref38_Valid.l0 k (wrap64 (x4+1)) x518000 x518001)) else (none)) else (none)) else (ancepsref38_Valid.l0 k (wrap64 (x4+1)) x518000 x518001)))) else (none)) else (some 0)
def ancepsref38_Valid.f (k:Nat) (l0_0:List Int) (l0_1:List Int):Option (Int):=(ancepsref38_Variables.f k l0_0).bind fun t518=>(if t518=0 then (ancepsref38_Valid.l0 k 0 l0_0 l0_1) else (some t518))
theorem ancepsref38_Valid.mono_l:∀ k,(∀ y0 y1 y2,LeO (ancepsref38_Valid.l0 k y0 y1 y2) (ancepsref38_Valid.l0 (k+1) y0 y1 y2))
 | 0=>fun _ _ _ r h=>by simp [ancepsref38_Valid.l0] at h
 | k+1=>by
  have ih0:=ancepsref38_Valid.mono_l k
  ·intro y0 y1 y2
   unfold ancepsref38_Valid.l0
   repeat' first
   | (with_reducible exact ih0 _ _ _)
   | (with_reducible exact ancepsref38_Variables.mono _ _)
   | (with_reducible exact LeO.refl _)
   | (with_reducible exact LeO.none _)
   | (with_reducible refine LeO.ite ?_ ?_)
   | (with_reducible refine LeO.bind ?_ (fun _=>?_))
   | exact LeO.none _
   | refine LeO.ite ?_ ?_
   | refine LeO.bind ?_ (fun _=>?_)
theorem ancepsref38_Valid.mono:∀ a0 a1 k,LeO (ancepsref38_Valid.f k a0 a1) (ancepsref38_Valid.f (k+1) a0 a1):=by
 intro a0 a1 k
 have ih0:=ancepsref38_Valid.mono_l k
 unfold ancepsref38_Valid.f
 repeat' first
   | (with_reducible exact ih0 _ _ _)
   | (with_reducible exact ancepsref38_Variables.mono _ _)
   | (with_reducible exact LeO.refl _)
   | (with_reducible exact LeO.none _)
   | (with_reducible refine LeO.ite ?_ ?_)
   | (with_reducible refine LeO.bind ?_ (fun _=>?_))
   | exact LeO.none _
   | refine LeO.ite ?_ ?_
   | refine LeO.bind ?_ (fun _=>?_)
set_option maxHeartbeats 8000000 in
set_option maxRecDepth 100000 in
theorem ancepsref38_Valid.calls (k:Nat) (A0_0:Option Addr) (c0_0:Nat) (l0_0:List Int) (A0_1:Option Addr) (c0_1:Nat) (l0_1:List Int) (r:Int) (w:World) (hr0_0:Kd.C (Kd.int .i64) w A0_0 l0_0.length l0_0) (hc0_0:l0_0.length≤c0_0) (hr0_1:Kd.C (Kd.int .i64) w A0_1 l0_1.length l0_1) (hc0_1:l0_1.length≤c0_1) (h:ancepsref38_Valid.f k l0_0 l0_1=some r) :
  Calls Try.prog 60 #[.agg #[.slice A0_0 l0_0.length c0_0,.slice A0_1 l0_1.length c0_1]] w fun e w'=>e=.returned (.int .i64 r)∧Below w.heap.size w w':=by
 have hu50:=Try.underlying50
 have hu30:=Try.underlying30
 have hu3:=Try.underlying3
 have HR0_0:=zA hr0_0
 have HC0_0:=zA hc0_0
 clear hr0_0 hc0_0
 have HR0_1:=zA hr0_1
 have HC0_1:=zA hc0_1
 clear hr0_1 hc0_1
 have HB:=zA (Below.refl w.heap.size w)
 have H:((ancepsref38_Variables.f k l0_0).bind fun t518=>(if t518=0 then (ancepsref38_Valid.l0 k 0 l0_0 l0_1) else (some t518)))=some r:=h
 clear h
 obtain ⟨t518,A2,H⟩:=zo H
 have HC3:=zA H
 clear H
 go_enter Try.func60,Try.ntmps60
 go_upto_if 9 with (first|((with_reducible refine gd 1 rfl ?_);(try (refine gate_guard (by rfl) ?_;dsimp only));refine zx #[.slice A0_0 l0_0.length c0_0,.slice A0_1 l0_1.length c0_1] 50 (h:=?_);intro gb517 hg w4 BK517 hb GW517 HB1;have GE517:=GW517;clear HB hb hg;have HB:=HB1;clear HB1;have hcz5_0:=zc0 BK517;have hcz5_1:=zc1 BK517;have hfz5_0:=zf BK517 0;have hfz5_1:=zf BK517 1)|(go_at_call 82;(with_reducible refine (ancepsref38_Variables.calls k _ _ l0_0 t518 _ (zD HR0_0 HB) HC0_0.out A2.out).mono ?_);rintro e w' ⟨rfl,⟨nd,rfl⟩⟩;(try first|exact ⟨rfl,_,World.drewN_drewN _ _ _⟩|exact ⟨rfl,_,Eq.trans (World.drewN_drewN _ _ _) (congrArg (World.drewN _) (Nat.add_assoc _ _ _))⟩)))
 repeat (go_quiet (first|((with_reducible refine gd 1 rfl ?_);(try (refine gate_guard (by rfl) ?_;dsimp only));refine zx #[.slice A0_0 l0_0.length c0_0,.slice A0_1 l0_1.length c0_1] 50 (h:=?_);intro gb517 hg w4 BK517 hb GW517 HB1;have GE517:=GW517;clear HB hb hg;have HB:=HB1;clear HB1;have hcz5_0:=zc0 BK517;have hcz5_1:=zc1 BK517;have hfz5_0:=zf BK517 0;have hfz5_1:=zf BK517 1)|(go_at_call 82;(with_reducible refine (ancepsref38_Variables.calls k _ _ l0_0 t518 _ (zD HR0_0 HB) HC0_0.out A2.out).mono ?_);rintro e w' ⟨rfl,⟨nd,rfl⟩⟩;(try first|exact ⟨rfl,_,World.drewN_drewN _ _ _⟩|exact ⟨rfl,_,Eq.trans (World.drewN_drewN _ _ _) (congrArg (World.drewN _) (Nat.add_assoc _ _ _))⟩)));go_upto_if 9 with (first|((with_reducible refine gd 1 rfl ?_);(try (refine gate_guard (by rfl) ?_;dsimp only));refine zx #[.slice A0_0 l0_0.length c0_0,.slice A0_1 l0_1.length c0_1] 50 (h:=?_);intro gb517 hg w4 BK517 hb GW517 HB1;have GE517:=GW517;clear HB hb hg;have HB:=HB1;clear HB1;have hcz5_0:=zc0 BK517;have hcz5_1:=zc1 BK517;have hfz5_0:=zf BK517 0;have hfz5_1:=zf BK517 1)|(go_at_call 82;(with_reducible refine (ancepsref38_Variables.calls k _ _ l0_0 t518 _ (zD HR0_0 HB) HC0_0.out A2.out).mono ?_);rintro e w' ⟨rfl,⟨nd,rfl⟩⟩;(try first|exact ⟨rfl,_,World.drewN_drewN _ _ _⟩|exact ⟨rfl,_,Eq.trans (World.drewN_drewN _ _ _) (congrArg (World.drewN _) (Nat.add_assoc _ _ _))⟩))))
 (try simp only [Act.put,zi,zs,zt])
 have H:=HC3.out
 clear HC3
 rcases ife H with ⟨c6b0,c6b1,H⟩|⟨c6,c6b0,c6b1,H⟩
 ·(first|rw [c6b0]|(simp only [i64_w,i32_w];rw [c6b0])|skip)
  (try rw [c6b1])
  have H':=zA H
  clear H
  go_wp2
  repeat (go_quiet (fail);try go_wp2)
  go_loopg [4] k (fun kq v4 w'=>∃ (x4_1:Int),v4=.int .i64 x4_1∧Aside0 (ancepsref38_Valid.l0 kq x4_1 l0_0 l0_1=some r)∧Aside0 (kq≤k)∧Aside0 (w'.heap[gb517]?=some (.cells #[(.slice A0_0 l0_0.length c0_0),(.slice A0_1 l0_1.length c0_1)] 50 (0,0)))∧Aside0 (Below w.heap.size w w'))
  case atStart=>exact ⟨(0),zT,H',⟨Nat.le_refl _⟩,⟨by refine zj ?_;exact BK517.out⟩,⟨by repeat (first|(with_reducible first|exact HB.out|apply below_alloc|apply pw_below_drewN|apply below_drew1|refine below_set ?_ GE517.out)|exact HB.out)⟩⟩
  case round=>
   clear H'
   try clear c6
   try clear c6b0
   try clear c6b1
   try clear hcz5_0
   try clear hcz5_1
   try clear hfz5_0
   try clear hfz5_1
   obtain ⟨x4_1,rfl,HA,HK1,BK517,HB⟩:=hrel
   cases gk with
   | zero=>exact absurd HA.out (by simp [ancepsref38_Valid.l0])
   | succ k1=>
    have H:=HA.out
    clear HA
    simp only [ancepsref38_Valid.l0] at H
    rcases ifd H with ⟨c7b0,H⟩|⟨c7b0,H⟩
    ·obtain ⟨c8b0,H⟩:=ifd1 H
     rcases ifd H with ⟨c9b0,H⟩|⟨c9b0,H⟩
     ·obtain rfl:=Option.some.inj H
      have hcz10_0:=zc0 BK517
      have hcz10_1:=zc1 BK517
      have hfz10_0:=zf BK517 0
      have hfz10_1:=zf BK517 1
      obtain ⟨p519,q519,ad519,e519,hx519_0⟩:=zp (Kd.at_int HR0_1.out x4_1)
      cases e519
      replace hx519_0:=zd HB hx519_0
      replace p519:=eq_true p519
      replace q519:=eq_true q519
      go_wp2
      repeat (go_quiet (fail);try go_wp2)
      go_ret
      exact ⟨ze,by repeat (first|(with_reducible first|exact HB.out|apply below_alloc|apply pw_below_drewN|apply below_drew1|refine below_set ?_ GE517.out)|exact HB.out)⟩
     ·obtain ⟨ji11,hji11⟩:=zZ (shl .i64 1 (l0_0.length:Int))
      first|rw [hji11] at H|simp only [hji11] at H
      have hji11_:(IntKind.i64.wrap (1 * 2 ^ min (l0_0.length:Int).toNat 64))=ji11:=hji11
      have hji11z:(l0_0.length:Int)≤64→(IntKind.i64.wrap (1 * 2 ^ (l0_0.length:Int).toNat))=ji11:=shl_small hji11
      have hji11p:(IntKind.i64.wrap (1 * 2 ^ min l0_0.length 64))=ji11:=hji11_
      have hji11q:(l0_0.length:Int)≤64→(IntKind.i64.wrap (1 * 2 ^ l0_0.length))=ji11:=hji11z
      have hji11r:(IntKind.i64.wrap (2 ^ min l0_0.length 64))=ji11:=by have h_:=hji11p;rw [Int.one_mul] at h_;exact h_
      have hji11s:(l0_0.length:Int)≤64→(IntKind.i64.wrap (2 ^ l0_0.length))=ji11:=fun hle_=>by have h_:=hji11q hle_;rw [Int.one_mul] at h_;exact h_
      have hji11u:(IntKind.i64.wrap (2 ^ min (l0_0.length:Int).toNat 64))=ji11:=by have h_:=hji11_;rw [Int.one_mul] at h_;exact h_
      have hji11v:(l0_0.length:Int)≤64→(IntKind.i64.wrap (2 ^ (l0_0.length:Int).toNat))=ji11:=fun hle_=>by have h_:=hji11z hle_;rw [Int.one_mul] at h_;exact h_
      have hji11y:(wrap64 (1 * 2 ^ min (l0_0.length:Int).toNat 64))=ji11:=(i64_w _).symm.trans hji11_
      have hji11x:(l0_0.length:Int)≤64→(wrap64 (1 * 2 ^ (l0_0.length:Int).toNat))=ji11:=fun h_=>(i64_w _).symm.trans (hji11z h_)
      rcases if0 H with ⟨c12,H⟩|⟨c12,H⟩
      ·have c12b0:decide ((ji11)≤(rd l0_1 x4_1))=true:=decide_eq_true c12
       clear c12
       obtain rfl:=Option.some.inj H
       have hcz13_0:=zc0 BK517
       have hcz13_1:=zc1 BK517
       have hfz13_0:=zf BK517 0
       have hfz13_1:=zf BK517 1
       obtain ⟨p519,q519,ad519,e519,hx519_0⟩:=zp (Kd.at_int HR0_1.out x4_1)
       cases e519
       replace hx519_0:=zd HB hx519_0
       replace p519:=eq_true p519
       replace q519:=eq_true q519
       obtain ⟨p520,q520,ad520,e520,hx520_0⟩:=zp (Kd.at_int HR0_1.out x4_1)
       obtain rfl:ad519=ad520:=(by injection e520)
       replace hx520_0:=zd HB hx520_0
       replace p520:=eq_true p520
       replace q520:=eq_true q520
       go_wp2
       repeat (go_quiet (fail);try go_wp2)
       go_ret
       exact ⟨by first|rfl|(simp [errW_none,errW_some] <;> rfl)|(simp only [← hji11];first|rfl|(simp [errW_none,errW_some] <;> rfl))|(simp [*,errW_none,errW_some] <;> rfl),by repeat (first|(with_reducible first|exact HB.out|apply below_alloc|apply pw_below_drewN|apply below_drew1|refine below_set ?_ GE517.out)|exact HB.out)⟩
      ·have c12b0:decide ((ji11)≤(rd l0_1 x4_1))=false:=decide_eq_false c12
       clear c12
       rcases if0 H with ⟨c14,H⟩|⟨c14,H⟩
       ·have c14b0:decide (0<x4_1)=true:=decide_eq_true c14
        clear c14
        obtain ⟨ji15,hji15⟩:=zZ (wrap64 (x4_1 - 1))
        first|rw [hji15] at H|simp only [hji15] at H
        have hji15w:(IntKind.i64.wrap (x4_1 - 1))=ji15:=(i64_w _).trans hji15
        obtain ⟨c16b0,H⟩:=ifd1 H
        obtain ⟨c17b0,H⟩:=ifd1 H
        rcases ifd H with ⟨c18b0,H⟩|⟨c18b0,H⟩
        ·obtain rfl:=Option.some.inj H
         have hcz19_0:=zc0 BK517
         have hcz19_1:=zc1 BK517
         have hfz19_0:=zf BK517 0
         have hfz19_1:=zf BK517 1
         obtain ⟨p519,q519,ad519,e519,hx519_0⟩:=zp (Kd.at_int HR0_1.out x4_1)
         cases e519
         replace hx519_0:=zd HB hx519_0
         replace p519:=eq_true p519
         replace q519:=eq_true q519
         obtain ⟨p520,q520,ad520,e520,hx520_0⟩:=zp (Kd.at_int HR0_1.out x4_1)
         obtain rfl:ad519=ad520:=(by injection e520)
         replace hx520_0:=zd HB hx520_0
         replace p520:=eq_true p520
         replace q520:=eq_true q520
         obtain ⟨p521,q521,ad521,e521,hx521_0⟩:=zp (Kd.at_int HR0_1.out x4_1)
         obtain rfl:ad519=ad521:=(by injection e521)
         replace hx521_0:=zd HB hx521_0
         replace p521:=eq_true p521
         replace q521:=eq_true q521
         obtain ⟨p522,q522,ad522,e522,hx522_0⟩:=zp (Kd.at_int HR0_1.out (ji15))
         obtain rfl:ad519=ad522:=(by injection e522)
         replace hx522_0:=zd HB hx522_0
         replace p522:=eq_true p522
         replace q522:=eq_true q522
         go_wp2
         repeat (go_quiet (fail);try go_wp2)
         go_ret
         exact ⟨by first|rfl|(simp [errW_none,errW_some] <;> rfl)|(simp only [← hji11,← hji15];first|rfl|(simp [errW_none,errW_some] <;> rfl))|(simp [*,errW_none,errW_some] <;> rfl),by repeat (first|(with_reducible first|exact HB.out|apply below_alloc|apply pw_below_drewN|apply below_drew1|refine below_set ?_ GE517.out)|exact HB.out)⟩
        ·have H':=zA H
         clear H
         have hcz20_0:=zc0 BK517
         have hcz20_1:=zc1 BK517
         have hfz20_0:=zf BK517 0
         have hfz20_1:=zf BK517 1
         obtain ⟨p519,q519,ad519,e519,hx519_0⟩:=zp (Kd.at_int HR0_1.out x4_1)
         cases e519
         replace hx519_0:=zd HB hx519_0
         replace p519:=eq_true p519
         replace q519:=eq_true q519
         obtain ⟨p520,q520,ad520,e520,hx520_0⟩:=zp (Kd.at_int HR0_1.out x4_1)
         obtain rfl:ad519=ad520:=(by injection e520)
         replace hx520_0:=zd HB hx520_0
         replace p520:=eq_true p520
         replace q520:=eq_true q520
         obtain ⟨p521,q521,ad521,e521,hx521_0⟩:=zp (Kd.at_int HR0_1.out x4_1)
         obtain rfl:ad519=ad521:=(by injection e521)
         replace hx521_0:=zd HB hx521_0
         replace p521:=eq_true p521
         replace q521:=eq_true q521
         obtain ⟨p522,q522,ad522,e522,hx522_0⟩:=zp (Kd.at_int HR0_1.out (ji15))
         obtain rfl:ad519=ad522:=(by injection e522)
         replace hx522_0:=zd HB hx522_0
         replace p522:=eq_true p522
         replace q522:=eq_true q522
         go_wp2
         repeat (go_quiet (fail);try go_wp2)
         go_roundg k1
         case measure=>have:=HK1.out;omega
         case rel=>exact ⟨(wrap64 (x4_1+1)),zT,H',⟨by have:=HK1.out;omega⟩,⟨by refine zj ?_;exact BK517.out⟩,⟨by repeat (first|(with_reducible first|exact HB.out|apply below_alloc|apply pw_below_drewN|apply below_drew1|refine below_set ?_ GE517.out)|exact HB.out)⟩⟩
       ·have c14b0:decide (0<x4_1)=false:=decide_eq_false c14
        clear c14
        have H':=zA H
        clear H
        have hcz21_0:=zc0 BK517
        have hcz21_1:=zc1 BK517
        have hfz21_0:=zf BK517 0
        have hfz21_1:=zf BK517 1
        obtain ⟨p519,q519,ad519,e519,hx519_0⟩:=zp (Kd.at_int HR0_1.out x4_1)
        cases e519
        replace hx519_0:=zd HB hx519_0
        replace p519:=eq_true p519
        replace q519:=eq_true q519
        obtain ⟨p520,q520,ad520,e520,hx520_0⟩:=zp (Kd.at_int HR0_1.out x4_1)
        obtain rfl:ad519=ad520:=(by injection e520)
        replace hx520_0:=zd HB hx520_0
        replace p520:=eq_true p520
        replace q520:=eq_true q520
        go_wp2
        repeat (go_quiet (fail);try go_wp2)
        go_roundg k1
        case measure=>have:=HK1.out;omega
        case rel=>exact ⟨(wrap64 (x4_1+1)),zT,H',⟨by have:=HK1.out;omega⟩,⟨by refine zj ?_;exact BK517.out⟩,⟨by repeat (first|(with_reducible first|exact HB.out|apply below_alloc|apply pw_below_drewN|apply below_drew1|refine below_set ?_ GE517.out)|exact HB.out)⟩⟩
    ·obtain rfl:=Option.some.inj H
     have hcz22_0:=zc0 BK517
     have hcz22_1:=zc1 BK517
     have hfz22_0:=zf BK517 0
     have hfz22_1:=zf BK517 1
     go_wp2
     repeat (go_quiet (fail);try go_wp2)
     go_ret
     exact ⟨ze,by repeat (first|(with_reducible first|exact HB.out|apply below_alloc|apply pw_below_drewN|apply below_drew1|refine below_set ?_ GE517.out)|exact HB.out)⟩
 ·(first|rw [c6b0]|(simp only [i64_w,i32_w];rw [c6b0])|skip)
  (try rw [c6b1])
  obtain rfl:=Option.some.inj H
  go_wp2
  repeat (go_quiet (fail);try go_wp2)
  go_ret
  exact ⟨ze,by repeat (first|(with_reducible first|exact HB.out|apply below_alloc|apply pw_below_drewN|apply below_drew1|refine below_set ?_ GE517.out)|exact HB.out)⟩
def ancepsref42_Valid.l0:Nat→List (S50)→Int→Option (Int)
 | 0,_,_=>none
 | k+1,x0,x3=>if x3<(x0.length:Int) then (if 0≤x3 then ((ancepsref38_Valid.f k ((rd_T50 x0 x3).f0) ((rd_T50 x0 x3).f1)).bind fun t524=>(if t524=0 then (ancepsref42_Valid.l0 k x0 (wrap64 (x3+1))) else (some t524))) else (none)) else (some 0)
def ancepsref42_Valid.f (k:Nat) (l0:List (S50)):Option (Int):=if (l0.length:Int)>12 then (some 3) else (ancepsref42_Valid.l0 k l0 0)
theorem ancepsref42_Valid.mono_l:∀ k,(∀ y0 y1,LeO (ancepsref42_Valid.l0 k y0 y1) (ancepsref42_Valid.l0 (k+1) y0 y1))
 | 0=>fun _ _ r h=>by simp [ancepsref42_Valid.l0] at h
 | k+1=>by
  have ih0:=ancepsref42_Valid.mono_l k
  ·intro y0 y1
   unfold ancepsref42_Valid.l0
   repeat' first
   | (with_reducible exact ih0 _ _)
   | (with_reducible exact ancepsref38_Valid.mono _ _ _)
   | (with_reducible exact LeO.refl _)
   | (with_reducible exact LeO.none _)
   | (with_reducible refine LeO.ite ?_ ?_)
   | (with_reducible refine LeO.bind ?_ (fun _=>?_))
   | exact LeO.none _
   | refine LeO.ite ?_ ?_
   | refine LeO.bind ?_ (fun _=>?_)
theorem ancepsref42_Valid.mono:∀ a0 k,LeO (ancepsref42_Valid.f k a0) (ancepsref42_Valid.f (k+1) a0):=by
 intro a0 k
 have ih0:=ancepsref42_Valid.mono_l k
 unfold ancepsref42_Valid.f
 repeat' first
   | (with_reducible exact ih0 _ _)
   | (with_reducible exact ancepsref38_Valid.mono _ _ _)
   | (with_reducible exact LeO.refl _)
   | (with_reducible exact LeO.none _)
   | (with_reducible refine LeO.ite ?_ ?_)
   | (with_reducible refine LeO.bind ?_ (fun _=>?_))
   | exact LeO.none _
   | refine LeO.ite ?_ ?_
   | refine LeO.bind ?_ (fun _=>?_)
set_option maxHeartbeats 8000000 in
set_option maxRecDepth 100000 in
theorem ancepsref42_Valid.calls (k:Nat) (A0:Option Addr) (c0:Nat) (l0:List (S50)) (r:Int) (w:World) (hr0:Kd.C k50 w A0 l0.length l0) (hc0:l0.length≤c0) (h:ancepsref42_Valid.f k l0=some r) :
  Calls Try.prog 26 #[.slice A0 l0.length c0] w fun e w'=>e=.returned (.int .i64 r)∧Below w.heap.size w w':=by
 have hu50:=Try.underlying50
 have HR0:=zA hr0
 have HC0:=zA hc0
 clear hr0 hc0
 have HB:=zA (Below.refl w.heap.size w)
 have H:(if (l0.length:Int)>12 then (some 3) else (ancepsref42_Valid.l0 k l0 0))=some r:=h
 clear h
 rcases if0 H with ⟨c2,H⟩|⟨c2,H⟩
 ·have c2b0:decide (12<(l0.length:Int))=true:=decide_eq_true c2
  have c2b1:decide (12<l0.length)=true:=decide_eq_true (by omega)
  clear c2
  obtain rfl:=Option.some.inj H
  go_enter Try.func26,Try.ntmps26
  go_wp2
  go_ret
  exact ⟨ze,by repeat (first|(with_reducible first|exact HB.out|apply below_alloc|apply pw_below_drewN|apply below_drew1)|exact HB.out)⟩
 ·have c2b0:decide (12<(l0.length:Int))=false:=decide_eq_false c2
  have c2b1:decide (12<l0.length)=false:=decide_eq_false (by omega)
  clear c2
  have H':=zA H
  clear H
  go_enter Try.func26,Try.ntmps26
  go_wp2
  go_loopg [3] k (fun kq v3 w'=>∃ (x3_1:Int),v3=.int .i64 x3_1∧Aside0 (ancepsref42_Valid.l0 kq l0 x3_1=some r)∧Aside0 (kq≤k)∧Aside0 (Below w.heap.size w w'))
  case atStart=>exact ⟨(0),zT,H',⟨Nat.le_refl _⟩,⟨by repeat (first|(with_reducible first|exact HB.out|apply below_alloc|apply pw_below_drewN|apply below_drew1)|exact HB.out)⟩⟩
  case round=>
   clear H'
   try clear c2
   try clear c2b0
   try clear c2b1
   obtain ⟨x3_1,rfl,HA,HK1,HB⟩:=hrel
   cases gk with
   | zero=>exact absurd HA.out (by simp [ancepsref42_Valid.l0])
   | succ k1=>
    have H:=HA.out
    clear HA
    simp only [ancepsref42_Valid.l0] at H
    rcases ifd H with ⟨c3b0,H⟩|⟨c3b0,H⟩
    ·obtain ⟨c4b0,H⟩:=ifd1 H
     obtain ⟨t524,A5,H⟩:=zo H
     have HC6:=zA H
     clear H
     obtain ⟨p523,q523,ad523,A523_0,c523_0,A523_1,c523_1,e523,hx523_0,hx523_1,hl523_0,hi523_0,hl523_1,hi523_1⟩:=zp (at_T50 HR0.out x3_1)
     cases e523
     replace hx523_0:=zd HB hx523_0
     replace hx523_1:=zd HB hx523_1
     have HR523_0:=zA hi523_0
     have HC523_0:=zA hl523_0
     clear hi523_0 hl523_0
     have HR523_1:=zA hi523_1
     have HC523_1:=zA hl523_1
     clear hi523_1 hl523_1
     replace p523:=eq_true p523
     replace q523:=eq_true q523
     go_upto_if 20 with (first|((with_reducible refine gate_callee (f:=60) rfl ?_);refine goesL_ (some 18) rfl rfl Try.func60 zK rfl #[.agg #[.slice A523_0 ((rd_T50 l0 x3_1).f0).length c523_0,.slice A523_1 ((rd_T50 l0 x3_1).f1).length c523_1]] rfl zM ?_;(with_reducible refine (ancepsref38_Valid.calls k1 _ _ ((rd_T50 l0 x3_1).f0) _ _ ((rd_T50 l0 x3_1).f1) t524 _ (zD HR523_0 HB) HC523_0.out (zD HR523_1 HB) HC523_1.out A5.out).mono ?_);rintro e w7 ⟨rfl,hb⟩;refine ⟨_,rfl,?_⟩;replace HB:=zu hb;clear hb))
     (try simp only [Act.put,zi,zs,zt])
     have H:=HC6.out
     clear HC6
     rcases ife H with ⟨c8b0,c8b1,H⟩|⟨c8,c8b0,c8b1,H⟩
     ·(first|rw [c8b0]|(simp only [i64_w,i32_w];rw [c8b0])|skip)
      (try rw [c8b1])
      have H':=zA H
      clear H
      go_wp2
      go_roundg k1
      case measure=>have:=HK1.out;omega
      case rel=>exact ⟨(wrap64 (x3_1+1)),zT,H',⟨by have:=HK1.out;omega⟩,⟨by repeat (first|(with_reducible first|exact HB.out|apply below_alloc|apply pw_below_drewN|apply below_drew1)|exact HB.out)⟩⟩
     ·(first|rw [c8b0]|(simp only [i64_w,i32_w];rw [c8b0])|skip)
      (try rw [c8b1])
      obtain rfl:=Option.some.inj H
      go_wp2
      go_ret
      exact ⟨ze,by repeat (first|(with_reducible first|exact HB.out|apply below_alloc|apply pw_below_drewN|apply below_drew1)|exact HB.out)⟩
    ·obtain rfl:=Option.some.inj H
     go_wp2
     go_ret
     exact ⟨ze,by repeat (first|(with_reducible first|exact HB.out|apply below_alloc|apply pw_below_drewN|apply below_drew1)|exact HB.out)⟩
def ancepsref38_Few.f (l0_0:List Int) (l0_1:List Int):Option (Bool):=if (l0_0.length:Int)≤12 then (some (decide ((l0_1.length:Int)≤1030))) else (some false)
set_option maxHeartbeats 8000000 in
set_option maxRecDepth 100000 in
theorem ancepsref38_Few.calls (A0_0:Option Addr) (c0_0:Nat) (l0_0:List Int) (A0_1:Option Addr) (c0_1:Nat) (l0_1:List Int) (r:Bool) (w:World) (hr0_0:Kd.C (Kd.int .i64) w A0_0 l0_0.length l0_0) (hc0_0:l0_0.length≤c0_0) (hr0_1:Kd.C (Kd.int .i64) w A0_1 l0_1.length l0_1) (hc0_1:l0_1.length≤c0_1) (h:ancepsref38_Few.f l0_0 l0_1=some r) :
  Calls Try.prog 73 #[.agg #[.slice A0_0 l0_0.length c0_0,.slice A0_1 l0_1.length c0_1]] w fun e w'=>e=.returned (.bool r)∧Below w.heap.size w w':=by
 have hu50:=Try.underlying50
 have hu30:=Try.underlying30
 have HR0_0:=zA hr0_0
 have HC0_0:=zA hc0_0
 clear hr0_0 hc0_0
 have HR0_1:=zA hr0_1
 have HC0_1:=zA hc0_1
 clear hr0_1 hc0_1
 have HB:=zA (Below.refl w.heap.size w)
 have H:(if (l0_0.length:Int)≤12 then (some (decide ((l0_1.length:Int)≤1030))) else (some false))=some r:=h
 clear h
 have HC2:=zA H
 clear H
 go_enter Try.func73,Try.ntmps73
 go_upto_region 1 with (first|((with_reducible refine gd 1 rfl ?_);(try (refine gate_guard (by rfl) ?_;dsimp only));refine zx #[.slice A0_0 l0_0.length c0_0,.slice A0_1 l0_1.length c0_1] 50 (h:=?_);intro gb525 hg w3 BK525 hb GW525 HB1;have GE525:=GW525;clear HB hb hg;have HB:=HB1;clear HB1))
 (try simp only [Act.put,zi,zs,zt])
 have H:=HC2.out
 clear HC2
 rcases if0 H with ⟨c4,H⟩|⟨c4,H⟩
 ·have c4b0:decide ((l0_0.length:Int)≤12)=true:=decide_eq_true c4
  have c4b1:decide (l0_0.length≤12)=true:=decide_eq_true (by omega)
  clear c4
  (first|rw [c4b0]|(simp only [i64_w,i32_w];rw [c4b0])|skip)
  (try rw [c4b1])
  obtain rfl:=Option.some.inj H
  have hcz5_0:=zc0 BK525
  have hcz5_1:=zc1 BK525
  have hfz5_0:=zf BK525 0
  have hfz5_1:=zf BK525 1
  go_wp2
  go_ret
  exact ⟨ze,by repeat (first|(with_reducible first|exact HB.out|apply below_alloc|apply pw_below_drewN|apply below_drew1|refine below_set ?_ GE525.out)|exact HB.out)⟩
 ·have c4b0:decide ((l0_0.length:Int)≤12)=false:=decide_eq_false c4
  have c4b1:decide (l0_0.length≤12)=false:=decide_eq_false (by omega)
  clear c4
  (first|rw [c4b0]|(simp only [i64_w,i32_w];rw [c4b0])|skip)
  (try rw [c4b1])
  obtain rfl:=Option.some.inj H
  have hcz6_0:=zc0 BK525
  have hcz6_1:=zc1 BK525
  have hfz6_0:=zf BK525 0
  have hfz6_1:=zf BK525 1
  go_wp2
  go_ret
  exact ⟨ze,by repeat (first|(with_reducible first|exact HB.out|apply below_alloc|apply pw_below_drewN|apply below_drew1|refine below_set ?_ GE525.out)|exact HB.out)⟩
theorem arr_box {w:World} {g b:Nat} (h:w.heap[g]?=some (.cells #[.bool false,.bool false,.bool false,.bool false,.bool false,.bool false,.bool false,.bool false,.bool false,.bool false,.bool false,.bool false,.bool false,.bool false,.bool false,.bool false,.bool false,.bool false,.bool false,.bool false,.bool false,.bool false,.bool false,.bool false] 88 (0,0))) (hb:b≤g) :
  Kd.R Kd.bool 88 w b (fun _=>True) (.slice (some ⟨g,0,none⟩) 24 24) (List.replicate 24 false):=
 Kd.R_of_own (enc:=Value.bool) (h1:=fun _=>rfl) ⟨by simp [encs],.inr ⟨g,24,_,rfl,hb,h,by simp,by simp [maxLen],rfl,by simp [encs,List.replicate]⟩⟩ (fun _ _=>trivial)
theorem arr_len {w:World} {g b:Nat} {ok:Nat→Prop} {x:List Bool} (h:Kd.R Kd.bool 88 w b ok (.slice (some ⟨g,0,none⟩) 24 24) x):x.length=24:=by
 obtain ⟨A,c,e⟩:=Kd.R_slice h
 injection e with _ e2 _
 exact e2.symm
mutual
def ancepsref40_Few.l0:Nat→List (S50)→List Bool→Int→Int→Int→Option (Bool)
 | 0,_,_,_,_,_=>none
 | k+1,x0,x3,x4,x5,x6=>if x6<(x0.length:Int) then (if 0≤x6 then ((ancepsref38_Few.f ((rd_T50 x0 x6).f0) ((rd_T50 x0 x6).f1)).bind fun t106=>(if t106=true then (ancepsref40_Few.l1 k x0 x3 x4 (wrap64 (x5+(((rd_T50 x0 x6).f1).length:Int))) x6 0) else (some false))) else (none)) else (if x4≤10 then (some (decide (x5≤2000))) else (some false))
def ancepsref40_Few.l1:Nat→List (S50)→List Bool→Int→Int→Int→Int→Option (Bool)
 | 0,_,_,_,_,_,_=>none
 | k+1,x0,x3,x4,x5,x6,x7=>if 0≤x6 then (if x6<(x0.length:Int) then (if x7<(((rd_T50 x0 x6).f0).length:Int) then (if 0≤x7 then (if (rd ((rd_T50 x0 x6).f0) x7)≥0 then (if (rd ((rd_T50 x0 x6).f0) x7)<24 then (if 0≤(rd ((rd_T50 x0 x6).f0) x7) then (if (rd ((rd_T50 x0 x6).f0) x7)<(x3.length:Int) then (if (rdOf false x3 (rd ((rd_T50 x0 x6).f0) x7)=true) then (ancepsref40_Few.l1 k x0 x3 x4 x5 x6 (wrap64 (x7+1))) else (ancepsref40_Few.l1 k x0 (x3.set ((rd ((rd_T50 x0 x6).f0) x7):Int).toNat true) (wrap64 (x4+1)) x5 x6 (wrap64 (x7+1)))) else (none)) else (none)) else (ancepsref40_Few.l1 k x0 x3 x4 x5 x6 (wrap64 (x7+1)))) else (ancepsref40_Few.l1 k x0 x3 x4 x5 x6 (wrap64 (x7+1)))) else (none)) else (ancepsref40_Few.l0 k x0 x3 x4 x5 (wrap64 (x6+1)))) else (none)) else (none)
end
def ancepsref40_Few.f (k:Nat) (l0:List (S50)):Option (Bool):=if (l0.length:Int)>18 then (some false) else (if 24≤281474976710656 then (ancepsref40_Few.l0 k l0 (List.replicate 24 false) 0 0 0) else (none))
theorem ancepsref40_Few.mono_l:∀ k,(∀ y0 y1 y2 y3 y4,LeO (ancepsref40_Few.l0 k y0 y1 y2 y3 y4) (ancepsref40_Few.l0 (k+1) y0 y1 y2 y3 y4))∧(∀ y0 y1 y2 y3 y4 y5,LeO (ancepsref40_Few.l1 k y0 y1 y2 y3 y4 y5) (ancepsref40_Few.l1 (k+1) y0 y1 y2 y3 y4 y5))
 | 0=>⟨fun _ _ _ _ _ r h=>by simp [ancepsref40_Few.l0] at h,fun _ _ _ _ _ _ r h=>by simp [ancepsref40_Few.l1] at h⟩
 | k+1=>by
  obtain ⟨ih0,ih1⟩:=ancepsref40_Few.mono_l k
  refine ⟨?_,?_⟩
  ·intro y0 y1 y2 y3 y4
   unfold ancepsref40_Few.l0
   repeat' first
   | (with_reducible exact ih0 _ _ _ _ _)
   | (with_reducible exact ih1 _ _ _ _ _ _)
   | (with_reducible exact LeO.refl _)
   | (with_reducible exact LeO.none _)
   | (with_reducible refine LeO.ite ?_ ?_)
   | (with_reducible refine LeO.bind ?_ (fun _=>?_))
   | exact LeO.none _
   | refine LeO.ite ?_ ?_
   | refine LeO.bind ?_ (fun _=>?_)
  ·intro y0 y1 y2 y3 y4 y5
   unfold ancepsref40_Few.l1
   repeat' first
   | (with_reducible exact ih0 _ _ _ _ _)
   | (with_reducible exact ih1 _ _ _ _ _ _)
   | (with_reducible exact LeO.refl _)
   | (with_reducible exact LeO.none _)
   | (with_reducible refine LeO.ite ?_ ?_)
   | (with_reducible refine LeO.bind ?_ (fun _=>?_))
   | exact LeO.none _
   | refine LeO.ite ?_ ?_
   | refine LeO.bind ?_ (fun _=>?_)
theorem ancepsref40_Few.mono:∀ a0 k,LeO (ancepsref40_Few.f k a0) (ancepsref40_Few.f (k+1) a0):=by
 intro a0 k
 obtain ⟨ih0,ih1⟩:=ancepsref40_Few.mono_l k
 unfold ancepsref40_Few.f
 repeat' first
   | (with_reducible exact ih0 _ _ _ _ _)
   | (with_reducible exact ih1 _ _ _ _ _ _)
   | (with_reducible exact LeO.refl _)
   | (with_reducible exact LeO.none _)
   | (with_reducible refine LeO.ite ?_ ?_)
   | (with_reducible refine LeO.bind ?_ (fun _=>?_))
   | exact LeO.none _
   | refine LeO.ite ?_ ?_
   | refine LeO.bind ?_ (fun _=>?_)
set_option maxHeartbeats 8000000 in
set_option maxRecDepth 100000 in
theorem ancepsref40_Few.calls (k:Nat) (A0:Option Addr) (c0:Nat) (l0:List (S50)) (r:Bool) (w:World) (hr0:Kd.C k50 w A0 l0.length l0) (hc0:l0.length≤c0) (h:ancepsref40_Few.f k l0=some r) :
  Calls Try.prog 38 #[.slice A0 l0.length c0] w fun e w'=>e=.returned (.bool r)∧Below w.heap.size w w':=by
 have hu50:=Try.underlying50
 have hu30:=Try.underlying30
 have hu3:=Try.underlying3
 have hu4:=Try.underlying4
 have HR0:=zA hr0
 have HC0:=zA hc0
 clear hr0 hc0
 have HB:=zA (Below.refl w.heap.size w)
 have H:(if (l0.length:Int)>18 then (some false) else (if 24≤281474976710656 then (ancepsref40_Few.l0 k l0 (List.replicate 24 false) 0 0 0) else (none)))=some r:=h
 clear h
 rcases if0 H with ⟨c2,H⟩|⟨c2,H⟩
 ·have c2b0:decide (18<(l0.length:Int))=true:=decide_eq_true c2
  have c2b1:decide (18<l0.length)=true:=decide_eq_true (by omega)
  clear c2
  obtain rfl:=Option.some.inj H
  go_enter Try.func38,Try.ntmps38
  go_wp2
  go_ret
  exact ⟨ze,by repeat (first|(with_reducible first|exact HB.out|apply below_alloc|apply pw_below_drewN|apply below_drew1)|exact HB.out)⟩
 ·have c2b0:decide (18<(l0.length:Int))=false:=decide_eq_false c2
  have c2b1:decide (18<l0.length)=false:=decide_eq_false (by omega)
  clear c2
  obtain ⟨c3,H⟩:=if1 H
  have c3b0:=eq_true c3
  have c3b1:decide (24≤281474976710656)=true:=decide_eq_true c3
  clear c3
  first|(replace H:=zyb (List.replicate 24 false) H;obtain ⟨y102,Ny102,H⟩:=H)|(obtain ⟨y102,hy102⟩:=zY (List.replicate 24 false);(try rw (occs:=.pos [1]) [← hy102] at H);have Ny102:=zA hy102;clear hy102)
  have H':=zA H
  clear H
  go_enter Try.func38,Try.ntmps38
  go_wp2_with (first|((with_reducible refine gate_dst (N:=3) rfl ?_);refine box_event ?hg (N:=3) ?hd (cs:=#[.bool false,.bool false,.bool false,.bool false,.bool false,.bool false,.bool false,.bool false,.bool false,.bool false,.bool false,.bool false,.bool false,.bool false,.bool false,.bool false,.bool false,.bool false,.bool false,.bool false,.bool false,.bool false,.bool false,.bool false]) (t:=88) ?hr ?_;(case hd=>rfl);(case hg=>rfl);(case hr=>first|(go_simp;done)|(go_simp;rfl));intro ga hgA w4 hbox hb;have ho5:=arr_box hbox (Nat.le_of_eq hgA.symm);clear hbox hgA;rw [← Ny102.out] at ho5;have HO104:=zA (Kd.R_lower ho5 (below_size zB));replace HB:=zu hb;clear hb ho5))
  go_loopg [4,5,6] k (fun kq v4 v5 v6 w'=>∃ (x3_1:List Bool) (x4_1:Int) (x5_1:Int) (x6_1:Int),v4=.int .i64 x4_1∧v5=.int .i64 x5_1∧v6=.int .i64 x6_1∧Aside0 (ancepsref40_Few.l0 kq l0 x3_1 x4_1 x5_1 x6_1=some r)∧Aside0 (kq≤k)∧Aside0 (Kd.R Kd.bool 88 w' w.heap.size (fun _=>True) (.slice (some ⟨ga,0,none⟩) 24 24) x3_1)∧Aside0 (Below w.heap.size w w'))
  case atStart=>exact ⟨(y102),(0),(0),(0),zT,zT,zT,H',⟨Nat.le_refl _⟩,⟨by refine zr ?_;exact HO104.out⟩,⟨by repeat (first|(with_reducible first|exact HB.out|apply below_alloc|apply pw_below_drewN|apply below_drew1)|exact HB.out)⟩⟩
  case round=>
   clear H'
   try clear c2
   try clear c2b0
   try clear c2b1
   try clear c3
   try clear c3b0
   try clear c3b1
   obtain ⟨x3_1,x4_1,x5_1,x6_1,rfl,rfl,rfl,HA,HK1,HO_3,HB⟩:=hrel
   cases gk with
   | zero=>exact absurd HA.out (by simp [ancepsref40_Few.l0])
   | succ k1=>
    have H:=HA.out
    clear HA
    simp only [ancepsref40_Few.l0] at H
    rcases ifd H with ⟨c6b0,H⟩|⟨c6b0,H⟩
    ·obtain ⟨c7b0,H⟩:=ifd1 H
     obtain ⟨t106,A8,H⟩:=zo H
     have HC9:=zA H
     clear H
     obtain ⟨p105,q105,ad105,A105_0,c105_0,A105_1,c105_1,e105,hx105_0,hx105_1,hl105_0,hi105_0,hl105_1,hi105_1⟩:=zp (at_T50 HR0.out x6_1)
     cases e105
     replace hx105_0:=zd HB hx105_0
     replace hx105_1:=zd HB hx105_1
     have HR105_0:=zA hi105_0
     have HC105_0:=zA hl105_0
     clear hi105_0 hl105_0
     have HR105_1:=zA hi105_1
     have HC105_1:=zA hl105_1
     clear hi105_1 hl105_1
     replace p105:=eq_true p105
     replace q105:=eq_true q105
     go_upto_if 23 with (first|((with_reducible refine gate_callee (f:=73) rfl ?_);refine goesL_ (some 22) rfl rfl Try.func73 zK rfl #[.agg #[.slice A105_0 ((rd_T50 l0 x6_1).f0).length c105_0,.slice A105_1 ((rd_T50 l0 x6_1).f1).length c105_1]] rfl zM ?_;(with_reducible refine (ancepsref38_Few.calls _ _ ((rd_T50 l0 x6_1).f0) _ _ ((rd_T50 l0 x6_1).f1) t106 _ (zD HR105_0 HB) HC105_0.out (zD HR105_1 HB) HC105_1.out A8.out).mono ?_);rintro e w10 ⟨rfl,hb⟩;refine ⟨_,rfl,?_⟩;replace HO_3:=zA (Kd.R_below (zR HO_3) hb);replace HB:=zu hb;clear hb))
     (try simp only [Act.put,zi,zs,zt])
     have H:=HC9.out
     clear HC9
     by_cases c11:t106=true
     ·subst c11
      have H1:(ancepsref40_Few.l1 k1 l0 x3_1 x4_1 (wrap64 (x5_1+(((rd_T50 l0 x6_1).f1).length:Int))) x6_1 0)=some r:=by rw [if_pos rfl] at H;exact H
      clear H
      have H:=H1
      clear H1
      have H':=zA H
      clear H
      obtain ⟨p107,q107,ad107,A107_0,c107_0,A107_1,c107_1,e107,hx107_0,hx107_1,hl107_0,hi107_0,hl107_1,hi107_1⟩:=zp (at_T50 HR0.out x6_1)
      obtain rfl:ad105=ad107:=(by injection e107)
      replace hx107_0:=zd HB hx107_0
      replace hx107_1:=zd HB hx107_1
      have HR107_0:=zA hi107_0
      have HC107_0:=zA hl107_0
      clear hi107_0 hl107_0
      have HR107_1:=zA hi107_1
      have HC107_1:=zA hl107_1
      clear hi107_1 hl107_1
      replace p107:=eq_true p107
      replace q107:=eq_true q107
      go_wp2
      go_loopg [4,7] k1 (fun kq v4 v7 w'=>∃ (x3_2:List Bool) (x4_2:Int) (x7_2:Int),v4=.int .i64 x4_2∧v7=.int .i64 x7_2∧Aside0 (ancepsref40_Few.l1 kq l0 x3_2 x4_2 (wrap64 (x5_1+(((rd_T50 l0 x6_1).f1).length:Int))) x6_1 x7_2=some r)∧Aside0 (kq≤k1)∧Aside0 (Kd.R Kd.bool 88 w' w.heap.size (fun _=>True) (.slice (some ⟨ga,0,none⟩) 24 24) x3_2)∧Aside0 (Below w.heap.size w w'))
      case atStart=>exact ⟨(x3_1),(x4_1),(0),zT,zT,H',⟨Nat.le_refl _⟩,⟨by refine zr ?_;exact HO_3.out⟩,⟨by repeat (first|(with_reducible first|exact HB.out|apply below_alloc|apply pw_below_drewN|apply below_drew1)|exact HB.out)⟩⟩
      case round=>
       clear H'
       try clear c2
       try clear c2b0
       try clear c2b1
       try clear c3
       try clear c3b0
       try clear c3b1
       try clear c6
       try clear c6b0
       try clear c7
       try clear c7b0
       try clear c11
       try clear hx105_0
       try clear hx105_1
       try clear hx107_0
       try clear hx107_1
       try clear p105
       try clear p107
       try clear q105
       try clear q107
       obtain ⟨x3_2,x4_2,x7_2,rfl,rfl,HA,HK2,HO_3,HB⟩:=hrel
       cases gk with
       | zero=>exact absurd HA.out (by simp [ancepsref40_Few.l1])
       | succ k2=>
        have H:=HA.out
        clear HA
        simp only [ancepsref40_Few.l1] at H
        obtain ⟨c12b0,H⟩:=ifd1 H
        (first|rw [c12b0]|(simp only [i64_w,i32_w];rw [c12b0])|skip)
        obtain ⟨c13b0,H⟩:=ifd1 H
        rcases ifd H with ⟨c14b0,H⟩|⟨c14b0,H⟩
        ·obtain ⟨c15b0,H⟩:=ifd1 H
         rcases if0 H with ⟨c16,H⟩|⟨c16,H⟩
         ·have c16b0:decide (0≤(rd ((rd_T50 l0 x6_1).f0) x7_2))=true:=decide_eq_true c16
          clear c16
          rcases ifd H with ⟨c17b0,H⟩|⟨c17b0,H⟩
          ·obtain ⟨c18b0,H⟩:=ifd1 H
           obtain ⟨c19b0,H⟩:=ifd1 H
           obtain ⟨bq20,hbq20⟩:∃ b_:Bool,b_=(rdOf false x3_2 (rd ((rd_T50 l0 x6_1).f0) x7_2)):=⟨_,rfl⟩
           replace H:(if (bq20=true) then (ancepsref40_Few.l1 k2 l0 x3_2 x4_2 (wrap64 (x5_1+(((rd_T50 l0 x6_1).f1).length:Int))) x6_1 (wrap64 (x7_2+1))) else (ancepsref40_Few.l1 k2 l0 (x3_2.set ((rd ((rd_T50 l0 x6_1).f0) x7_2):Int).toNat true) (wrap64 (x4_2+1)) (wrap64 (x5_1+(((rd_T50 l0 x6_1).f1).length:Int))) x6_1 (wrap64 (x7_2+1))))=some r:=by rw [← hbq20] at H;exact H
           have Nbq20:=zA hbq20
           clear hbq20
           by_cases c21:(bq20=true)
           ·subst c21
            have H1:(ancepsref40_Few.l1 k2 l0 x3_2 x4_2 (wrap64 (x5_1+(((rd_T50 l0 x6_1).f1).length:Int))) x6_1 (wrap64 (x7_2+1)))=some r:=by rw [if_pos rfl] at H;exact H
            clear H
            have H:=H1
            clear H1
            have H':=zA H
            clear H
            obtain ⟨p108,q108,ad108,A108_0,c108_0,A108_1,c108_1,e108,hx108_0,hx108_1,hl108_0,hi108_0,hl108_1,hi108_1⟩:=zp (at_T50 HR0.out x6_1)
            obtain rfl:ad105=ad108:=(by injection e108)
            replace hx108_0:=zd HB hx108_0
            replace hx108_1:=zd HB hx108_1
            have HR108_0:=zA hi108_0
            have HC108_0:=zA hl108_0
            clear hi108_0 hl108_0
            have HR108_1:=zA hi108_1
            have HC108_1:=zA hl108_1
            clear hi108_1 hl108_1
            replace p108:=eq_true p108
            replace q108:=eq_true q108
            obtain ⟨p109,q109,ad109,A109_0,c109_0,A109_1,c109_1,e109,hx109_0,hx109_1,hl109_0,hi109_0,hl109_1,hi109_1⟩:=zp (at_T50 HR0.out x6_1)
            obtain rfl:ad105=ad109:=(by injection e109)
            replace hx109_0:=zd HB hx109_0
            replace hx109_1:=zd HB hx109_1
            have HR109_0:=zA hi109_0
            have HC109_0:=zA hl109_0
            clear hi109_0 hl109_0
            have HR109_1:=zA hi109_1
            have HC109_1:=zA hl109_1
            clear hi109_1 hl109_1
            replace p109:=eq_true p109
            replace q109:=eq_true q109
            have ea_:=Option.some.inj (hx108_0.symm.trans hx109_0)
            injection ea_ with ea_ en_ ec_
            subst ea_
            subst ec_
            clear en_
            have ea_:=Option.some.inj (hx108_1.symm.trans hx109_1)
            injection ea_ with ea_ en_ ec_
            subst ea_
            subst ec_
            clear en_
            obtain ⟨p110,q110,ad110,e110,hx110_0⟩:=zp (Kd.at_int HR109_0.out x7_2)
            cases e110
            replace hx110_0:=zd HB hx110_0
            replace p110:=eq_true p110
            replace q110:=eq_true q110
            have p111:0≤((rd ((rd_T50 l0 x6_1).f0) x7_2):Int):=of_decide_eq_true zh
            have q111:(rd ((rd_T50 l0 x6_1).f0) x7_2)<(x3_2.length:Int):=of_decide_eq_true zh
            have hl24_:=arr_len HO_3.out
            have ha24_:((rd ((rd_T50 l0 x6_1).f0) x7_2)<24)=True:=eq_true (by omega)
            have hx111_0:=(Kd.R_celln false HO_3.out (rd ((rd_T50 l0 x6_1).f0) x7_2) p111 (by omega)).1
            (try rw [← Nbq20.out] at hx111_0)
            replace p111:=eq_true p111
            replace q111:=eq_true q111
            go_wp2
            go_roundg k2
            case measure=>have:=HK1.out;have:=HK2.out;omega
            case rel=>exact ⟨(x3_2),(x4_2),(wrap64 (x7_2+1)),zT,zT,H',⟨by have:=HK1.out;have:=HK2.out;omega⟩,⟨by refine zr ?_;exact HO_3.out⟩,⟨by repeat (first|(with_reducible first|exact HB.out|apply below_alloc|apply pw_below_drewN|apply below_drew1)|exact HB.out)⟩⟩
           ·replace c21:=Bool.eq_false_iff.mpr c21
            subst c21
            have H1:(ancepsref40_Few.l1 k2 l0 (x3_2.set ((rd ((rd_T50 l0 x6_1).f0) x7_2):Int).toNat true) (wrap64 (x4_2+1)) (wrap64 (x5_1+(((rd_T50 l0 x6_1).f1).length:Int))) x6_1 (wrap64 (x7_2+1)))=some r:=by rw [if_neg (show ¬ (false=true) by decide)] at H;exact H
            clear H
            have H:=H1
            clear H1
            first|(replace H:=zyb (x3_2.set ((rd ((rd_T50 l0 x6_1).f0) x7_2):Int).toNat true) H;obtain ⟨y112,Ny112,H⟩:=H)|(obtain ⟨y112,hy112⟩:=zY (x3_2.set ((rd ((rd_T50 l0 x6_1).f0) x7_2):Int).toNat true);(try rw (occs:=.pos [1]) [← hy112] at H);have Ny112:=zA hy112;clear hy112)
            have H':=zA H
            clear H
            obtain ⟨p108,q108,ad108,A108_0,c108_0,A108_1,c108_1,e108,hx108_0,hx108_1,hl108_0,hi108_0,hl108_1,hi108_1⟩:=zp (at_T50 HR0.out x6_1)
            obtain rfl:ad105=ad108:=(by injection e108)
            replace hx108_0:=zd HB hx108_0
            replace hx108_1:=zd HB hx108_1
            have HR108_0:=zA hi108_0
            have HC108_0:=zA hl108_0
            clear hi108_0 hl108_0
            have HR108_1:=zA hi108_1
            have HC108_1:=zA hl108_1
            clear hi108_1 hl108_1
            replace p108:=eq_true p108
            replace q108:=eq_true q108
            obtain ⟨p109,q109,ad109,A109_0,c109_0,A109_1,c109_1,e109,hx109_0,hx109_1,hl109_0,hi109_0,hl109_1,hi109_1⟩:=zp (at_T50 HR0.out x6_1)
            obtain rfl:ad105=ad109:=(by injection e109)
            replace hx109_0:=zd HB hx109_0
            replace hx109_1:=zd HB hx109_1
            have HR109_0:=zA hi109_0
            have HC109_0:=zA hl109_0
            clear hi109_0 hl109_0
            have HR109_1:=zA hi109_1
            have HC109_1:=zA hl109_1
            clear hi109_1 hl109_1
            replace p109:=eq_true p109
            replace q109:=eq_true q109
            have ea_:=Option.some.inj (hx108_0.symm.trans hx109_0)
            injection ea_ with ea_ en_ ec_
            subst ea_
            subst ec_
            clear en_
            have ea_:=Option.some.inj (hx108_1.symm.trans hx109_1)
            injection ea_ with ea_ en_ ec_
            subst ea_
            subst ec_
            clear en_
            obtain ⟨p110,q110,ad110,e110,hx110_0⟩:=zp (Kd.at_int HR109_0.out x7_2)
            cases e110
            replace hx110_0:=zd HB hx110_0
            replace p110:=eq_true p110
            replace q110:=eq_true q110
            have p111:0≤((rd ((rd_T50 l0 x6_1).f0) x7_2):Int):=of_decide_eq_true zh
            have q111:(rd ((rd_T50 l0 x6_1).f0) x7_2)<(x3_2.length:Int):=of_decide_eq_true zh
            have hl24_:=arr_len HO_3.out
            have ha24_:((rd ((rd_T50 l0 x6_1).f0) x7_2)<24)=True:=eq_true (by omega)
            have hx111_0:=(Kd.R_celln false HO_3.out (rd ((rd_T50 l0 x6_1).f0) x7_2) p111 (by omega)).1
            (try rw [← Nbq20.out] at hx111_0)
            replace p111:=eq_true p111
            replace q111:=eq_true q111
            have p23:0≤((rd ((rd_T50 l0 x6_1).f0) x7_2):Int):=of_decide_eq_true zh
            have q23:((rd ((rd_T50 l0 x6_1).f0) x7_2):Int)<24:=by first|omega|exact of_decide_eq_true zh|(have h2_:(rd ((rd_T50 l0 x6_1).f0) x7_2)<(x3_2.length:Int):=of_decide_eq_true zh;have h3_:=arr_len HO_3.out;omega)
            have hl24b_:=arr_len HO_3.out
            have gb23:=Kd.R_base HO_3.out ga rfl
            have GB23:=zA gb23
            clear gb23
            (first|simp only [add_plain] at hx111_0|skip)
            obtain ⟨hx23_0,hf23_0⟩:=Kd.R_celln false HO_3.out ((rd ((rd_T50 l0 x6_1).f0) x7_2):Int) p23 q23
            replace p23:=eq_true p23
            replace q23:=eq_true q23
            have HP25:=Kd.R_putg HO_3.out ((rd ((rd_T50 l0 x6_1).f0) x7_2):Int) true
            go_wp2_with (first|((with_reducible refine gate_store (t:=4) (p:=63) rfl ?_);refine store_event (t:=4) (p:=63) (v:=?vo_w26) (w1:=(wr.setCell ⟨ga,((rd ((rd_T50 l0 x6_1).f0) x7_2):Int).toNat,none⟩ (.bool true))) ?hg ?ho ?hn ?hr ?_;(case ho=>rfl);(case hg=>rfl);(case hn=>rfl);(case hr=>first|(go_simp;done)|(go_simp;rfl));intro w26 hw;have hg:wr.grownBy w26 (some ga):=(by rw [hw];exact HP25.2);have hp_:Kd.R Kd.bool 88 w26 w.heap.size (fun _=>True) (.slice (some ⟨ga,0,none⟩) 24 24) y112:=(by rw [hw,Ny112.out];exact HP25.1);clear HP25;replace HO_3:=zA (hp_);replace HB:=zA ((by rw [hw];exact below_set (HB.out) GB23.out:Below w.heap.size w w26));clear hg hw hp_))
            go_roundg k2
            case measure=>have:=HK1.out;have:=HK2.out;omega
            case rel=>exact ⟨(y112),(wrap64 (x4_2+1)),(wrap64 (x7_2+1)),zT,zT,H',⟨by have:=HK1.out;have:=HK2.out;omega⟩,⟨by refine zr ?_;exact HO_3.out⟩,⟨by repeat (first|(with_reducible first|exact HB.out|apply below_alloc|apply pw_below_drewN|apply below_drew1)|exact HB.out)⟩⟩
          ·have H':=zA H
           clear H
           obtain ⟨p108,q108,ad108,A108_0,c108_0,A108_1,c108_1,e108,hx108_0,hx108_1,hl108_0,hi108_0,hl108_1,hi108_1⟩:=zp (at_T50 HR0.out x6_1)
           obtain rfl:ad105=ad108:=(by injection e108)
           replace hx108_0:=zd HB hx108_0
           replace hx108_1:=zd HB hx108_1
           have HR108_0:=zA hi108_0
           have HC108_0:=zA hl108_0
           clear hi108_0 hl108_0
           have HR108_1:=zA hi108_1
           have HC108_1:=zA hl108_1
           clear hi108_1 hl108_1
           replace p108:=eq_true p108
           replace q108:=eq_true q108
           obtain ⟨p109,q109,ad109,A109_0,c109_0,A109_1,c109_1,e109,hx109_0,hx109_1,hl109_0,hi109_0,hl109_1,hi109_1⟩:=zp (at_T50 HR0.out x6_1)
           obtain rfl:ad105=ad109:=(by injection e109)
           replace hx109_0:=zd HB hx109_0
           replace hx109_1:=zd HB hx109_1
           have HR109_0:=zA hi109_0
           have HC109_0:=zA hl109_0
           clear hi109_0 hl109_0
           have HR109_1:=zA hi109_1
           have HC109_1:=zA hl109_1
           clear hi109_1 hl109_1
           replace p109:=eq_true p109
           replace q109:=eq_true q109
           have ea_:=Option.some.inj (hx108_0.symm.trans hx109_0)
           injection ea_ with ea_ en_ ec_
           subst ea_
           subst ec_
           clear en_
           have ea_:=Option.some.inj (hx108_1.symm.trans hx109_1)
           injection ea_ with ea_ en_ ec_
           subst ea_
           subst ec_
           clear en_
           obtain ⟨p110,q110,ad110,e110,hx110_0⟩:=zp (Kd.at_int HR109_0.out x7_2)
           cases e110
           replace hx110_0:=zd HB hx110_0
           replace p110:=eq_true p110
           replace q110:=eq_true q110
           go_wp2
           go_roundg k2
           case measure=>have:=HK1.out;have:=HK2.out;omega
           case rel=>exact ⟨(x3_2),(x4_2),(wrap64 (x7_2+1)),zT,zT,H',⟨by have:=HK1.out;have:=HK2.out;omega⟩,⟨by refine zr ?_;exact HO_3.out⟩,⟨by repeat (first|(with_reducible first|exact HB.out|apply below_alloc|apply pw_below_drewN|apply below_drew1)|exact HB.out)⟩⟩
         ·have c16b0:decide (0≤(rd ((rd_T50 l0 x6_1).f0) x7_2))=false:=decide_eq_false c16
          clear c16
          have H':=zA H
          clear H
          obtain ⟨p108,q108,ad108,A108_0,c108_0,A108_1,c108_1,e108,hx108_0,hx108_1,hl108_0,hi108_0,hl108_1,hi108_1⟩:=zp (at_T50 HR0.out x6_1)
          obtain rfl:ad105=ad108:=(by injection e108)
          replace hx108_0:=zd HB hx108_0
          replace hx108_1:=zd HB hx108_1
          have HR108_0:=zA hi108_0
          have HC108_0:=zA hl108_0
          clear hi108_0 hl108_0
          have HR108_1:=zA hi108_1
          have HC108_1:=zA hl108_1
          clear hi108_1 hl108_1
          replace p108:=eq_true p108
          replace q108:=eq_true q108
          obtain ⟨p109,q109,ad109,A109_0,c109_0,A109_1,c109_1,e109,hx109_0,hx109_1,hl109_0,hi109_0,hl109_1,hi109_1⟩:=zp (at_T50 HR0.out x6_1)
          obtain rfl:ad105=ad109:=(by injection e109)
          replace hx109_0:=zd HB hx109_0
          replace hx109_1:=zd HB hx109_1
          have HR109_0:=zA hi109_0
          have HC109_0:=zA hl109_0
          clear hi109_0 hl109_0
          have HR109_1:=zA hi109_1
          have HC109_1:=zA hl109_1
          clear hi109_1 hl109_1
          replace p109:=eq_true p109
          replace q109:=eq_true q109
          have ea_:=Option.some.inj (hx108_0.symm.trans hx109_0)
          injection ea_ with ea_ en_ ec_
          subst ea_
          subst ec_
          clear en_
          have ea_:=Option.some.inj (hx108_1.symm.trans hx109_1)
          injection ea_ with ea_ en_ ec_
          subst ea_
          subst ec_
          clear en_
          obtain ⟨p110,q110,ad110,e110,hx110_0⟩:=zp (Kd.at_int HR109_0.out x7_2)
          cases e110
          replace hx110_0:=zd HB hx110_0
          replace p110:=eq_true p110
          replace q110:=eq_true q110
          go_wp2
          go_roundg k2
          case measure=>have:=HK1.out;have:=HK2.out;omega
          case rel=>exact ⟨(x3_2),(x4_2),(wrap64 (x7_2+1)),zT,zT,H',⟨by have:=HK1.out;have:=HK2.out;omega⟩,⟨by refine zr ?_;exact HO_3.out⟩,⟨by repeat (first|(with_reducible first|exact HB.out|apply below_alloc|apply pw_below_drewN|apply below_drew1)|exact HB.out)⟩⟩
        ·have H':=zA H
         clear H
         obtain ⟨p108,q108,ad108,A108_0,c108_0,A108_1,c108_1,e108,hx108_0,hx108_1,hl108_0,hi108_0,hl108_1,hi108_1⟩:=zp (at_T50 HR0.out x6_1)
         obtain rfl:ad105=ad108:=(by injection e108)
         replace hx108_0:=zd HB hx108_0
         replace hx108_1:=zd HB hx108_1
         have HR108_0:=zA hi108_0
         have HC108_0:=zA hl108_0
         clear hi108_0 hl108_0
         have HR108_1:=zA hi108_1
         have HC108_1:=zA hl108_1
         clear hi108_1 hl108_1
         replace p108:=eq_true p108
         replace q108:=eq_true q108
         go_wp2
         go_roundg k2
         case measure=>have:=HK1.out;have:=HK2.out;omega
         case rel=>exact ⟨(x3_2),(x4_2),((wrap64 (x5_1+(((rd_T50 l0 x6_1).f1).length:Int)))),(wrap64 (x6_1+1)),zT,zT,zT,H',⟨by have:=HK1.out;have:=HK2.out;omega⟩,⟨by refine zr ?_;exact HO_3.out⟩,⟨by repeat (first|(with_reducible first|exact HB.out|apply below_alloc|apply pw_below_drewN|apply below_drew1)|exact HB.out)⟩⟩
     ·replace c11:=Bool.eq_false_iff.mpr c11
      subst c11
      have H1:(some false)=some r:=by rw [if_neg (show ¬ (false=true) by decide)] at H;exact H
      clear H
      have H:=H1
      clear H1
      obtain rfl:=Option.some.inj H
      go_wp2
      go_ret
      exact ⟨ze,by repeat (first|(with_reducible first|exact HB.out|apply below_alloc|apply pw_below_drewN|apply below_drew1)|exact HB.out)⟩
    ·rcases ifd H with ⟨c27b0,H⟩|⟨c27b0,H⟩
     ·obtain rfl:=Option.some.inj H
      go_wp2
      go_ret
      exact ⟨ze,by repeat (first|(with_reducible first|exact HB.out|apply below_alloc|apply pw_below_drewN|apply below_drew1)|exact HB.out)⟩
     ·obtain rfl:=Option.some.inj H
      go_wp2
      go_ret
      exact ⟨ze,by repeat (first|(with_reducible first|exact HB.out|apply below_alloc|apply pw_below_drewN|apply below_drew1)|exact HB.out)⟩
def ancepsref40_Valid.l0:Nat→List (S50)→Int→Option (Int)
 | 0,_,_=>none
 | k+1,x0,x3=>if x3<(x0.length:Int) then (if 0≤x3 then ((ancepsref38_Valid.f k ((rd_T50 x0 x3).f0) ((rd_T50 x0 x3).f1)).bind fun t527=>(if t527=0 then (ancepsref40_Valid.l0 k x0 (wrap64 (x3+1))) else (some t527))) else (none)) else (some 0)
def ancepsref40_Valid.f (k:Nat) (l0:List (S50)):Option (Int):=if (l0.length:Int)>16 then (some 3) else (ancepsref40_Valid.l0 k l0 0)
theorem ancepsref40_Valid.mono_l:∀ k,(∀ y0 y1,LeO (ancepsref40_Valid.l0 k y0 y1) (ancepsref40_Valid.l0 (k+1) y0 y1))
 | 0=>fun _ _ r h=>by simp [ancepsref40_Valid.l0] at h
 | k+1=>by
  have ih0:=ancepsref40_Valid.mono_l k
  ·intro y0 y1
   unfold ancepsref40_Valid.l0
   repeat' first
   | (with_reducible exact ih0 _ _)
   | (with_reducible exact ancepsref38_Valid.mono _ _ _)
   | (with_reducible exact LeO.refl _)
   | (with_reducible exact LeO.none _)
   | (with_reducible refine LeO.ite ?_ ?_)
   | (with_reducible refine LeO.bind ?_ (fun _=>?_))
   | exact LeO.none _
   | refine LeO.ite ?_ ?_
   | refine LeO.bind ?_ (fun _=>?_)
theorem ancepsref40_Valid.mono:∀ a0 k,LeO (ancepsref40_Valid.f k a0) (ancepsref40_Valid.f (k+1) a0):=by
 intro a0 k
 have ih0:=ancepsref40_Valid.mono_l k
 unfold ancepsref40_Valid.f
 repeat' first
   | (with_reducible exact ih0 _ _)
   | (with_reducible exact ancepsref38_Valid.mono _ _ _)
   | (with_reducible exact LeO.refl _)
   | (with_reducible exact LeO.none _)
   | (with_reducible refine LeO.ite ?_ ?_)
   | (with_reducible refine LeO.bind ?_ (fun _=>?_))
   | exact LeO.none _
   | refine LeO.ite ?_ ?_
   | refine LeO.bind ?_ (fun _=>?_)
set_option maxHeartbeats 8000000 in
set_option maxRecDepth 100000 in
theorem ancepsref40_Valid.calls (k:Nat) (A0:Option Addr) (c0:Nat) (l0:List (S50)) (r:Int) (w:World) (hr0:Kd.C k50 w A0 l0.length l0) (hc0:l0.length≤c0) (h:ancepsref40_Valid.f k l0=some r) :
  Calls Try.prog 74 #[.slice A0 l0.length c0] w fun e w'=>e=.returned (.int .i64 r)∧Below w.heap.size w w':=by
 have hu50:=Try.underlying50
 have HR0:=zA hr0
 have HC0:=zA hc0
 clear hr0 hc0
 have HB:=zA (Below.refl w.heap.size w)
 have H:(if (l0.length:Int)>16 then (some 3) else (ancepsref40_Valid.l0 k l0 0))=some r:=h
 clear h
 rcases if0 H with ⟨c2,H⟩|⟨c2,H⟩
 ·have c2b0:decide (16<(l0.length:Int))=true:=decide_eq_true c2
  have c2b1:decide (16<l0.length)=true:=decide_eq_true (by omega)
  clear c2
  obtain rfl:=Option.some.inj H
  go_enter Try.func74,Try.ntmps74
  go_wp2
  go_ret
  exact ⟨ze,by repeat (first|(with_reducible first|exact HB.out|apply below_alloc|apply pw_below_drewN|apply below_drew1)|exact HB.out)⟩
 ·have c2b0:decide (16<(l0.length:Int))=false:=decide_eq_false c2
  have c2b1:decide (16<l0.length)=false:=decide_eq_false (by omega)
  clear c2
  have H':=zA H
  clear H
  go_enter Try.func74,Try.ntmps74
  go_wp2
  go_loopg [3] k (fun kq v3 w'=>∃ (x3_1:Int),v3=.int .i64 x3_1∧Aside0 (ancepsref40_Valid.l0 kq l0 x3_1=some r)∧Aside0 (kq≤k)∧Aside0 (Below w.heap.size w w'))
  case atStart=>exact ⟨(0),zT,H',⟨Nat.le_refl _⟩,⟨by repeat (first|(with_reducible first|exact HB.out|apply below_alloc|apply pw_below_drewN|apply below_drew1)|exact HB.out)⟩⟩
  case round=>
   clear H'
   try clear c2
   try clear c2b0
   try clear c2b1
   obtain ⟨x3_1,rfl,HA,HK1,HB⟩:=hrel
   cases gk with
   | zero=>exact absurd HA.out (by simp [ancepsref40_Valid.l0])
   | succ k1=>
    have H:=HA.out
    clear HA
    simp only [ancepsref40_Valid.l0] at H
    rcases ifd H with ⟨c3b0,H⟩|⟨c3b0,H⟩
    ·obtain ⟨c4b0,H⟩:=ifd1 H
     obtain ⟨t527,A5,H⟩:=zo H
     have HC6:=zA H
     clear H
     obtain ⟨p526,q526,ad526,A526_0,c526_0,A526_1,c526_1,e526,hx526_0,hx526_1,hl526_0,hi526_0,hl526_1,hi526_1⟩:=zp (at_T50 HR0.out x3_1)
     cases e526
     replace hx526_0:=zd HB hx526_0
     replace hx526_1:=zd HB hx526_1
     have HR526_0:=zA hi526_0
     have HC526_0:=zA hl526_0
     clear hi526_0 hl526_0
     have HR526_1:=zA hi526_1
     have HC526_1:=zA hl526_1
     clear hi526_1 hl526_1
     replace p526:=eq_true p526
     replace q526:=eq_true q526
     go_upto_if 20 with (first|((with_reducible refine gate_callee (f:=60) rfl ?_);refine goesL_ (some 18) rfl rfl Try.func60 zK rfl #[.agg #[.slice A526_0 ((rd_T50 l0 x3_1).f0).length c526_0,.slice A526_1 ((rd_T50 l0 x3_1).f1).length c526_1]] rfl zM ?_;(with_reducible refine (ancepsref38_Valid.calls k1 _ _ ((rd_T50 l0 x3_1).f0) _ _ ((rd_T50 l0 x3_1).f1) t527 _ (zD HR526_0 HB) HC526_0.out (zD HR526_1 HB) HC526_1.out A5.out).mono ?_);rintro e w7 ⟨rfl,hb⟩;refine ⟨_,rfl,?_⟩;replace HB:=zu hb;clear hb))
     (try simp only [Act.put,zi,zs,zt])
     have H:=HC6.out
     clear HC6
     rcases ife H with ⟨c8b0,c8b1,H⟩|⟨c8,c8b0,c8b1,H⟩
     ·(first|rw [c8b0]|(simp only [i64_w,i32_w];rw [c8b0])|skip)
      (try rw [c8b1])
      have H':=zA H
      clear H
      go_wp2
      go_roundg k1
      case measure=>have:=HK1.out;omega
      case rel=>exact ⟨(wrap64 (x3_1+1)),zT,H',⟨by have:=HK1.out;omega⟩,⟨by repeat (first|(with_reducible first|exact HB.out|apply below_alloc|apply pw_below_drewN|apply below_drew1)|exact HB.out)⟩⟩
     ·(first|rw [c8b0]|(simp only [i64_w,i32_w];rw [c8b0])|skip)
      (try rw [c8b1])
      obtain rfl:=Option.some.inj H
      go_wp2
      go_ret
      exact ⟨ze,by repeat (first|(with_reducible first|exact HB.out|apply below_alloc|apply pw_below_drewN|apply below_drew1)|exact HB.out)⟩
    ·obtain rfl:=Option.some.inj H
     go_wp2
     go_ret
     exact ⟨ze,by repeat (first|(with_reducible first|exact HB.out|apply below_alloc|apply pw_below_drewN|apply below_drew1)|exact HB.out)⟩
theorem arv_box {w:World} {g b:Nat} (h:w.heap[g]?=some (.cells #[.bool false,.bool false,.bool false,.bool false,.bool false,.bool false,.bool false,.bool false,.bool false,.bool false,.bool false,.bool false,.bool false,.bool false,.bool false,.bool false,.bool false,.bool false,.bool false,.bool false,.bool false,.bool false,.bool false,.bool false] 88 (0,0))) (hb:b≤g) :
  Kd.R Kd.bool 88 w b (fun _=>True) (.slice (some ⟨g,0,none⟩) 24 24) (List.replicate 24 false):=
 Kd.R_of_own (enc:=Value.bool) (h1:=fun _=>rfl) ⟨by simp [encs],.inr ⟨g,24,_,rfl,hb,h,by simp,by simp [maxLen],rfl,by simp [encs,List.replicate]⟩⟩ (fun _ _=>trivial)
theorem arv_len {w:World} {g b:Nat} {ok:Nat→Prop} {x:List Bool} (h:Kd.R Kd.bool 88 w b ok (.slice (some ⟨g,0,none⟩) 24 24) x):x.length=24:=by
 obtain ⟨A,c,e⟩:=Kd.R_slice h
 injection e with _ e2 _
 exact e2.symm
mutual
def ancepsref40_Vars.l0:Nat→List (S50)→List Bool→Int→Option (List Int)
 | 0,_,_,_=>none
 | k+1,x0,x3,x4=>if x4<(x0.length:Int) then (ancepsref40_Vars.l1 k x0 x3 x4 0) else (ancepsref40_Vars.l2 k x3 ([]:List Int) 0)
def ancepsref40_Vars.l1:Nat→List (S50)→List Bool→Int→Int→Option (List Int)
 | 0,_,_,_,_=>none
 | k+1,x0,x3,x4,x5=>if 0≤x4 then (if x4<(x0.length:Int) then (if x5<(((rd_T50 x0 x4).f0).length:Int) then (if 0≤x5 then (if 0≤(rd ((rd_T50 x0 x4).f0) x5) then (if (rd ((rd_T50 x0 x4).f0) x5)<(x3.length:Int) then (ancepsref40_Vars.l1 k x0 (x3.set ((rd ((rd_T50 x0 x4).f0) x5):Int).toNat true) x4 (wrap64 (x5+1))) else (none)) else (none)) else (none)) else (ancepsref40_Vars.l0 k x0 x3 (wrap64 (x4+1)))) else (none)) else (none)
def ancepsref40_Vars.l2:Nat→List Bool→List Int→Int→Option (List Int)
 | 0,_,_,_=>none
 | k+1,x3,x6,x7=>if x7<24 then (if 0≤x7 then (if x7<(x3.length:Int) then (if rdOf false x3 x7=true then (if x6.length<17592186044416 then (ancepsref40_Vars.l2 k x3 (x6++[x7]) (wrap64 (x7+1))) else (none)) else (ancepsref40_Vars.l2 k x3 x6 (wrap64 (x7+1)))) else (none)) else (none)) else (some x6)
end
def ancepsref40_Vars.f (k:Nat) (l0:List (S50)):Option (List Int):=(ancepsref40_Valid.f k l0).bind fun t125=>(if t125=0 then (if 24≤281474976710656 then (ancepsref40_Vars.l0 k l0 (List.replicate 24 false) 0) else (none)) else (some ([]:List Int)))
theorem ancepsref40_Vars.mono_l:∀ k,(∀ y0 y1 y2,LeO (ancepsref40_Vars.l0 k y0 y1 y2) (ancepsref40_Vars.l0 (k+1) y0 y1 y2))∧(∀ y0 y1 y2 y3,LeO (ancepsref40_Vars.l1 k y0 y1 y2 y3) (ancepsref40_Vars.l1 (k+1) y0 y1 y2 y3))∧(∀ y0 y1 y2,LeO (ancepsref40_Vars.l2 k y0 y1 y2) (ancepsref40_Vars.l2 (k+1) y0 y1 y2))
 | 0=>⟨fun _ _ _ r h=>by simp [ancepsref40_Vars.l0] at h,fun _ _ _ _ r h=>by simp [ancepsref40_Vars.l1] at h,fun _ _ _ r h=>by simp [ancepsref40_Vars.l2] at h⟩
 | k+1=>by
  obtain ⟨ih0,ih1,ih2⟩:=ancepsref40_Vars.mono_l k
  refine ⟨?_,?_,?_⟩
  ·intro y0 y1 y2
   unfold ancepsref40_Vars.l0
   repeat' first
   | (with_reducible exact ih0 _ _ _)
   | (with_reducible exact ih1 _ _ _ _)
   | (with_reducible exact ih2 _ _ _)
   | (with_reducible exact ancepsref40_Valid.mono _ _)
   | (with_reducible exact LeO.refl _)
   | (with_reducible exact LeO.none _)
   | (with_reducible refine LeO.ite ?_ ?_)
   | (with_reducible refine LeO.bind ?_ (fun _=>?_))
   | exact LeO.none _
   | refine LeO.ite ?_ ?_
   | refine LeO.bind ?_ (fun _=>?_)
  ·intro y0 y1 y2 y3
   unfold ancepsref40_Vars.l1
   repeat' first
   | (with_reducible exact ih0 _ _ _)
   | (with_reducible exact ih1 _ _ _ _)
   | (with_reducible exact ih2 _ _ _)
   | (with_reducible exact ancepsref40_Valid.mono _ _)
   | (with_reducible exact LeO.refl _)
   | (with_reducible exact LeO.none _)
   | (with_reducible refine LeO.ite ?_ ?_)
   | (with_reducible refine LeO.bind ?_ (fun _=>?_))
   | exact LeO.none _
   | refine LeO.ite ?_ ?_
   | refine LeO.bind ?_ (fun _=>?_)
  ·intro y0 y1 y2
   unfold ancepsref40_Vars.l2
   repeat' first
   | (with_reducible exact ih0 _ _ _)
   | (with_reducible exact ih1 _ _ _ _)
   | (with_reducible exact ih2 _ _ _)
   | (with_reducible exact ancepsref40_Valid.mono _ _)
   | (with_reducible exact LeO.refl _)
   | (with_reducible exact LeO.none _)
   | (with_reducible refine LeO.ite ?_ ?_)
   | (with_reducible refine LeO.bind ?_ (fun _=>?_))
   | exact LeO.none _
   | refine LeO.ite ?_ ?_
   | refine LeO.bind ?_ (fun _=>?_)
theorem ancepsref40_Vars.mono:∀ a0 k,LeO (ancepsref40_Vars.f k a0) (ancepsref40_Vars.f (k+1) a0):=by
 intro a0 k
 obtain ⟨ih0,ih1,ih2⟩:=ancepsref40_Vars.mono_l k
 unfold ancepsref40_Vars.f
 repeat' first
   | (with_reducible exact ih0 _ _ _)
   | (with_reducible exact ih1 _ _ _ _)
   | (with_reducible exact ih2 _ _ _)
   | (with_reducible exact ancepsref40_Valid.mono _ _)
   | (with_reducible exact LeO.refl _)
   | (with_reducible exact LeO.none _)
   | (with_reducible refine LeO.ite ?_ ?_)
   | (with_reducible refine LeO.bind ?_ (fun _=>?_))
   | exact LeO.none _
   | refine LeO.ite ?_ ?_
   | refine LeO.bind ?_ (fun _=>?_)
set_option maxHeartbeats 8000000 in
set_option maxRecDepth 100000 in
theorem ancepsref40_Vars.calls (k:Nat) (A0:Option Addr) (c0:Nat) (l0:List (S50)) (r:List Int) (w:World) (hr0:Kd.C k50 w A0 l0.length l0) (hc0:l0.length≤c0) (h:ancepsref40_Vars.f k l0=some r) :
  Calls Try.prog 39 #[.slice A0 l0.length c0] w fun e w'=>∃ v0_:Value,e=.returned (v0_)∧Kd.R (Kd.int .i64) 3 w' w.heap.size (fun _=>True) v0_ r∧Below w.heap.size w w':=by
 have hu30:=Try.underlying30
 have hu3:=Try.underlying3
 have hu4:=Try.underlying4
 have HR0:=zA hr0
 have HC0:=zA hc0
 clear hr0 hc0
 have HB:=zA (Below.refl w.heap.size w)
 have H:((ancepsref40_Valid.f k l0).bind fun t125=>(if t125=0 then (if 24≤281474976710656 then (ancepsref40_Vars.l0 k l0 (List.replicate 24 false) 0) else (none)) else (some ([]:List Int))))=some r:=h
 clear h
 obtain ⟨t125,A2,H⟩:=zo H
 have HC3:=zA H
 clear H
 go_enter Try.func39,Try.ntmps39
 go_upto_if 10 with (first|((with_reducible refine gate_callee (f:=74) rfl ?_);refine goesL_ (some 9) rfl rfl Try.func74 zK rfl #[.slice A0 l0.length c0] rfl zM ?_;(with_reducible refine (ancepsref40_Valid.calls k _ _ l0 t125 _ ?side1 HC0.out A2.out).mono ?_);(case side1=>repeat (first|exact HR0.out|(with_reducible refine Kd.C_alloc ?_ _)|(with_reducible refine Kd.C_drewN ?_ _)|(with_reducible refine Kd.C_drew ?_)));rintro e w4 ⟨rfl,hb⟩;refine ⟨_,rfl,?_⟩;replace HB:=zu hb;clear hb))
 (try simp only [Act.put,zi,zs,zt])
 have H:=HC3.out
 clear HC3
 rcases ife H with ⟨c5b0,c5b1,H⟩|⟨c5,c5b0,c5b1,H⟩
 ·(first|rw [c5b0]|(simp only [i64_w,i32_w];rw [c5b0])|skip)
  (try rw [c5b1])
  obtain ⟨c6,H⟩:=if1 H
  have c6b0:=eq_true c6
  have c6b1:decide (24≤281474976710656)=true:=decide_eq_true c6
  clear c6
  first|(replace H:=zyb (List.replicate 24 false) H;obtain ⟨y126,Ny126,H⟩:=H)|(obtain ⟨y126,hy126⟩:=zY (List.replicate 24 false);(try rw (occs:=.pos [1]) [← hy126] at H);have Ny126:=zA hy126;clear hy126)
  have H':=zA H
  clear H
  go_wp2_with (first|((with_reducible refine gate_dst (N:=3) rfl ?_);refine box_event ?hg (N:=3) ?hd (cs:=#[.bool false,.bool false,.bool false,.bool false,.bool false,.bool false,.bool false,.bool false,.bool false,.bool false,.bool false,.bool false,.bool false,.bool false,.bool false,.bool false,.bool false,.bool false,.bool false,.bool false,.bool false,.bool false,.bool false,.bool false]) (t:=88) ?hr ?_;(case hd=>rfl);(case hg=>rfl);(case hr=>first|(go_simp;done)|(go_simp;rfl));intro ga hgA w7 hbox hb;have ho8:=arv_box hbox (Nat.le_of_eq hgA.symm);clear hbox hgA;rw [← Ny126.out] at ho8;have HO128:=zA (Kd.R_lower ho8 (below_size zB));replace HB:=zu hb;clear hb ho8))
  go_loopg [4] k (fun kq v4 w'=>∃ (x3_1:List Bool) (x4_1:Int),v4=.int .i64 x4_1∧Aside0 (ancepsref40_Vars.l0 kq l0 x3_1 x4_1=some r)∧Aside0 (kq≤k)∧Aside0 (Kd.R Kd.bool 88 w' w.heap.size (fun _=>True) (.slice (some ⟨ga,0,none⟩) 24 24) x3_1)∧Aside0 (Below w.heap.size w w'))
  case atStart=>exact ⟨(y126),(0),zT,H',⟨Nat.le_refl _⟩,⟨by refine zr ?_;exact HO128.out⟩,⟨by repeat (first|(with_reducible first|exact HB.out|apply below_alloc|apply pw_below_drewN|apply below_drew1)|exact HB.out)⟩⟩
  case round=>
   clear H'
   try clear c5
   try clear c5b0
   try clear c5b1
   try clear c6
   try clear c6b0
   try clear c6b1
   obtain ⟨x3_1,x4_1,rfl,HA,HK1,HO_3,HB⟩:=hrel
   cases gk with
   | zero=>exact absurd HA.out (by simp [ancepsref40_Vars.l0])
   | succ k1=>
    have H:=HA.out
    clear HA
    simp only [ancepsref40_Vars.l0] at H
    rcases ifd H with ⟨c9b0,H⟩|⟨c9b0,H⟩
    ·have H':=zA H
     clear H
     go_wp2
     go_loopg [5] k1 (fun kq v5 w'=>∃ (x3_2:List Bool) (x5_2:Int),v5=.int .i64 x5_2∧Aside0 (ancepsref40_Vars.l1 kq l0 x3_2 x4_1 x5_2=some r)∧Aside0 (kq≤k1)∧Aside0 (Kd.R Kd.bool 88 w' w.heap.size (fun _=>True) (.slice (some ⟨ga,0,none⟩) 24 24) x3_2)∧Aside0 (Below w.heap.size w w'))
     case atStart=>exact ⟨(x3_1),(0),zT,H',⟨Nat.le_refl _⟩,⟨by refine zr ?_;exact HO_3.out⟩,⟨by repeat (first|(with_reducible first|exact HB.out|apply below_alloc|apply pw_below_drewN|apply below_drew1)|exact HB.out)⟩⟩
     case round=>
      clear H'
      try clear c5
      try clear c5b0
      try clear c5b1
      try clear c6
      try clear c6b0
      try clear c6b1
      try clear c9
      try clear c9b0
      obtain ⟨x3_2,x5_2,rfl,HA,HK2,HO_3,HB⟩:=hrel
      cases gk with
      | zero=>exact absurd HA.out (by simp [ancepsref40_Vars.l1])
      | succ k2=>
       have H:=HA.out
       clear HA
       simp only [ancepsref40_Vars.l1] at H
       obtain ⟨c10b0,H⟩:=ifd1 H
       obtain ⟨c11b0,H⟩:=ifd1 H
       rcases ifd H with ⟨c12b0,H⟩|⟨c12b0,H⟩
       ·obtain ⟨c13b0,H⟩:=ifd1 H
        obtain ⟨c14b0,H⟩:=ifd1 H
        obtain ⟨c15b0,H⟩:=ifd1 H
        first|(replace H:=zyb (x3_2.set ((rd ((rd_T50 l0 x4_1).f0) x5_2):Int).toNat true) H;obtain ⟨y132,Ny132,H⟩:=H)|(obtain ⟨y132,hy132⟩:=zY (x3_2.set ((rd ((rd_T50 l0 x4_1).f0) x5_2):Int).toNat true);(try rw (occs:=.pos [1]) [← hy132] at H);have Ny132:=zA hy132;clear hy132)
        have H':=zA H
        clear H
        obtain ⟨p129,q129,ad129,A129_0,c129_0,A129_1,c129_1,e129,hx129_0,hx129_1,hl129_0,hi129_0,hl129_1,hi129_1⟩:=zp (at_T50 HR0.out x4_1)
        cases e129
        replace hx129_0:=zd HB hx129_0
        replace hx129_1:=zd HB hx129_1
        have HR129_0:=zA hi129_0
        have HC129_0:=zA hl129_0
        clear hi129_0 hl129_0
        have HR129_1:=zA hi129_1
        have HC129_1:=zA hl129_1
        clear hi129_1 hl129_1
        replace p129:=eq_true p129
        replace q129:=eq_true q129
        obtain ⟨p130,q130,ad130,A130_0,c130_0,A130_1,c130_1,e130,hx130_0,hx130_1,hl130_0,hi130_0,hl130_1,hi130_1⟩:=zp (at_T50 HR0.out x4_1)
        obtain rfl:ad129=ad130:=(by injection e130)
        replace hx130_0:=zd HB hx130_0
        replace hx130_1:=zd HB hx130_1
        have HR130_0:=zA hi130_0
        have HC130_0:=zA hl130_0
        clear hi130_0 hl130_0
        have HR130_1:=zA hi130_1
        have HC130_1:=zA hl130_1
        clear hi130_1 hl130_1
        replace p130:=eq_true p130
        replace q130:=eq_true q130
        have ea_:=Option.some.inj (hx129_0.symm.trans hx130_0)
        injection ea_ with ea_ en_ ec_
        subst ea_
        subst ec_
        clear en_
        have ea_:=Option.some.inj (hx129_1.symm.trans hx130_1)
        injection ea_ with ea_ en_ ec_
        subst ea_
        subst ec_
        clear en_
        obtain ⟨p131,q131,ad131,e131,hx131_0⟩:=zp (Kd.at_int HR130_0.out x5_2)
        cases e131
        replace hx131_0:=zd HB hx131_0
        replace p131:=eq_true p131
        replace q131:=eq_true q131
        have p16:0≤((rd ((rd_T50 l0 x4_1).f0) x5_2):Int):=of_decide_eq_true zh
        have q16:((rd ((rd_T50 l0 x4_1).f0) x5_2):Int)<24:=by first|omega|exact of_decide_eq_true zh|(have h2_:(rd ((rd_T50 l0 x4_1).f0) x5_2)<(x3_2.length:Int):=of_decide_eq_true zh;have h3_:=arv_len HO_3.out;omega)
        have hl24b_:=arv_len HO_3.out
        have gb16:=Kd.R_base HO_3.out ga rfl
        have GB16:=zA gb16
        clear gb16
        obtain ⟨hx16_0,hf16_0⟩:=Kd.R_celln false HO_3.out ((rd ((rd_T50 l0 x4_1).f0) x5_2):Int) p16 q16
        replace p16:=eq_true p16
        replace q16:=eq_true q16
        have HP17:=Kd.R_putg HO_3.out ((rd ((rd_T50 l0 x4_1).f0) x5_2):Int) true
        go_wp2_with (first|((with_reducible refine gate_store (t:=4) (p:=35) rfl ?_);refine store_event (t:=4) (p:=35) (v:=?vo_w18) (w1:=(wr.setCell ⟨ga,((rd ((rd_T50 l0 x4_1).f0) x5_2):Int).toNat,none⟩ (.bool true))) ?hg ?ho ?hn ?hr ?_;(case ho=>rfl);(case hg=>rfl);(case hn=>rfl);(case hr=>first|(go_simp;done)|(go_simp;rfl));intro w18 hw;have hg:wr.grownBy w18 (some ga):=(by rw [hw];exact HP17.2);have hp_:Kd.R Kd.bool 88 w18 w.heap.size (fun _=>True) (.slice (some ⟨ga,0,none⟩) 24 24) y132:=(by rw [hw,Ny132.out];exact HP17.1);clear HP17;replace HO_3:=zA (hp_);replace HB:=zA ((by rw [hw];exact below_set (HB.out) GB16.out:Below w.heap.size w w18));clear hg hw hp_))
        go_roundg k2
        case measure=>have:=HK1.out;have:=HK2.out;omega
        case rel=>exact ⟨(y132),(wrap64 (x5_2+1)),zT,H',⟨by have:=HK1.out;have:=HK2.out;omega⟩,⟨by refine zr ?_;exact HO_3.out⟩,⟨by repeat (first|(with_reducible first|exact HB.out|apply below_alloc|apply pw_below_drewN|apply below_drew1)|exact HB.out)⟩⟩
       ·have H':=zA H
        clear H
        obtain ⟨p129,q129,ad129,A129_0,c129_0,A129_1,c129_1,e129,hx129_0,hx129_1,hl129_0,hi129_0,hl129_1,hi129_1⟩:=zp (at_T50 HR0.out x4_1)
        cases e129
        replace hx129_0:=zd HB hx129_0
        replace hx129_1:=zd HB hx129_1
        have HR129_0:=zA hi129_0
        have HC129_0:=zA hl129_0
        clear hi129_0 hl129_0
        have HR129_1:=zA hi129_1
        have HC129_1:=zA hl129_1
        clear hi129_1 hl129_1
        replace p129:=eq_true p129
        replace q129:=eq_true q129
        go_wp2
        go_roundg k2
        case measure=>have:=HK1.out;have:=HK2.out;omega
        case rel=>exact ⟨(x3_2),(wrap64 (x4_1+1)),zT,H',⟨by have:=HK1.out;have:=HK2.out;omega⟩,⟨by refine zr ?_;exact HO_3.out⟩,⟨by repeat (first|(with_reducible first|exact HB.out|apply below_alloc|apply pw_below_drewN|apply below_drew1)|exact HB.out)⟩⟩
    ·have H':=zA H
     clear H
     go_wp2
     go_loopg [6,7] k1 (fun kq v6 v7 w'=>∃ (x6_2:List Int) (x7_2:Int),v7=.int .i64 x7_2∧Aside0 (ancepsref40_Vars.l2 kq x3_1 x6_2 x7_2=some r)∧Aside0 (kq≤k1)∧Aside0 (Kd.R Kd.bool 88 w' w.heap.size (fun _=>True) (.slice (some ⟨ga,0,none⟩) 24 24) x3_1)∧Aside0 (Kd.R (Kd.int .i64) 3 w' w.heap.size (fun _=>True) v6 x6_2)∧Aside0 (Below w.heap.size w w'))
     case atStart=>exact ⟨(([]:List Int)),(0),zT,H',⟨Nat.le_refl _⟩,⟨by refine zr ?_;exact HO_3.out⟩,⟨by first|exact Kd.R_nil _ _ _ _ _|exact Kd.N_nil _ _ _ _ _|exact Kd.V_nil _ _ _ _ _|exact Kd.Q_nil _ _ _ _ _|exact Kd.S_nil _ _ _ _ _⟩,⟨by repeat (first|(with_reducible first|exact HB.out|apply below_alloc|apply pw_below_drewN|apply below_drew1)|exact HB.out)⟩⟩
     case round=>
      clear H'
      try clear c5
      try clear c5b0
      try clear c5b1
      try clear c6
      try clear c6b0
      try clear c6b1
      try clear c9
      try clear c9b0
      obtain ⟨x6_2,x7_2,rfl,HA,HK2,HO_3,HO_6,HB⟩:=hrel
      cases gk with
      | zero=>exact absurd HA.out (by simp [ancepsref40_Vars.l2])
      | succ k2=>
       have H:=HA.out
       clear HA
       simp only [ancepsref40_Vars.l2] at H
       rcases ifd H with ⟨c19b0,H⟩|⟨c19b0,H⟩
       ·obtain ⟨c20b0,H⟩:=ifd1 H
        obtain ⟨c21b0,H⟩:=ifd1 H
        obtain ⟨bq22,hbq22⟩:∃ b_:Bool,b_=(rdOf false x3_1 x7_2):=⟨_,rfl⟩
        replace H:(if bq22=true then (if x6_2.length<17592186044416 then (ancepsref40_Vars.l2 k2 x3_1 (x6_2++[x7_2]) (wrap64 (x7_2+1))) else (none)) else (ancepsref40_Vars.l2 k2 x3_1 x6_2 (wrap64 (x7_2+1))))=some r:=by rw [← hbq22] at H;exact H
        have Nbq22:=zA hbq22
        clear hbq22
        by_cases c23:bq22=true
        ·subst c23
         have H1:(if x6_2.length<17592186044416 then (ancepsref40_Vars.l2 k2 x3_1 (x6_2++[x7_2]) (wrap64 (x7_2+1))) else (none))=some r:=by rw [if_pos rfl] at H;exact H
         clear H
         have H:=H1
         clear H1
         obtain ⟨c24,H⟩:=if1 H
         have LMc24:=zA c24
         clear c24
         first|(replace H:=zyb (x6_2++[x7_2]) H;obtain ⟨y134,Ny134,H⟩:=H)|(obtain ⟨y134,hy134⟩:=zY (x6_2++[x7_2]);(try rw (occs:=.pos [1]) [← hy134] at H);have Ny134:=zA hy134;clear hy134)
         have H':=zA H
         clear H
         have p133:0≤(x7_2:Int):=of_decide_eq_true zh
         have q133:x7_2<(x3_1.length:Int):=of_decide_eq_true zh
         have hl24_:=arv_len HO_3.out
         have ha24_:(x7_2<24)=True:=eq_true (by omega)
         have hx133_0:=(Kd.R_celln false HO_3.out x7_2 p133 (by omega)).1
         (try rw [← Nbq22.out] at hx133_0)
         replace p133:=eq_true p133
         replace q133:=eq_true q133
         go_wp2_with (first|((with_reducible refine gate_builtin (b:=.append) (xs:=#[.tmp 43,.tmp 45]) rfl ?_);at_builtin;refine Kd.R_append (Kd.int .i64) (w0:=w) w.heap.size rfl (.tmp 43) (.tmp 45) 30 3 (.int .i64 0) 8 rfl Try.underlying30 info3 rfl (by decide) (by omega) u6 x6_2 x7_2 [.int .i64 x7_2] (fun _=>True) (fun _=>False) rfl rfl ?aP (fun _ hk=>hk.elim) ?aF ?aO ?aB ?aS ?aL ?_;(case aP=>exact rfl);(case aB=>exact zB);(case aF=>exact (fun _ _=>trivial));(case aO=>exact (zR HO_6));(case aS=>exact (below_size zB));(case aL=>have:=LMc24.out;omega);intro v135 w26 ho hb hg hat;rw [← Ny134.out] at ho;have HO136:=zA (ho);replace HO_3:=zA (Kd.R_over' (zR HO_3) (Kd.R_typed (zR HO_6)) (by decide) hg);replace HB:=zA (hb);clear HO_6;clear ho hb hg hat))
         go_roundg k2
         case measure=>have:=HK1.out;have:=HK2.out;omega
         case rel=>exact ⟨(y134),(wrap64 (x7_2+1)),zT,H',⟨by have:=HK1.out;have:=HK2.out;omega⟩,⟨by refine zr ?_;exact HO_3.out⟩,⟨by refine zr ?_;exact HO136.out⟩,⟨by repeat (first|(with_reducible first|exact HB.out|apply below_alloc|apply pw_below_drewN|apply below_drew1)|exact HB.out)⟩⟩
        ·replace c23:=Bool.eq_false_iff.mpr c23
         subst c23
         have H1:(ancepsref40_Vars.l2 k2 x3_1 x6_2 (wrap64 (x7_2+1)))=some r:=by rw [if_neg (show ¬ (false=true) by decide)] at H;exact H
         clear H
         have H:=H1
         clear H1
         have H':=zA H
         clear H
         have p133:0≤(x7_2:Int):=of_decide_eq_true zh
         have q133:x7_2<(x3_1.length:Int):=of_decide_eq_true zh
         have hl24_:=arv_len HO_3.out
         have ha24_:(x7_2<24)=True:=eq_true (by omega)
         have hx133_0:=(Kd.R_celln false HO_3.out x7_2 p133 (by omega)).1
         (try rw [← Nbq22.out] at hx133_0)
         replace p133:=eq_true p133
         replace q133:=eq_true q133
         go_wp2
         go_roundg k2
         case measure=>have:=HK1.out;have:=HK2.out;omega
         case rel=>exact ⟨(x6_2),(wrap64 (x7_2+1)),zT,H',⟨by have:=HK1.out;have:=HK2.out;omega⟩,⟨by refine zr ?_;exact HO_3.out⟩,⟨by refine zr ?_;exact HO_6.out⟩,⟨by repeat (first|(with_reducible first|exact HB.out|apply below_alloc|apply pw_below_drewN|apply below_drew1)|exact HB.out)⟩⟩
       ·obtain rfl:=Option.some.inj H
        go_wp2
        go_ret
        exact ⟨_,ze,by refine zr ?_;exact HO_6.out,by repeat (first|(with_reducible first|exact HB.out|apply below_alloc|apply pw_below_drewN|apply below_drew1)|exact HB.out)⟩
 ·(first|rw [c5b0]|(simp only [i64_w,i32_w];rw [c5b0])|skip)
  (try rw [c5b1])
  obtain rfl:=Option.some.inj H
  go_wp2
  go_ret
  exact ⟨_,ze,by first|exact Kd.R_nil _ _ _ _ _|exact Kd.N_nil _ _ _ _ _|exact Kd.V_nil _ _ _ _ _|exact Kd.Q_nil _ _ _ _ _|exact Kd.S_nil _ _ _ _ _,by repeat (first|(with_reducible first|exact HB.out|apply below_alloc|apply pw_below_drewN|apply below_drew1)|exact HB.out)⟩
end Go.Proofs.Ytkjghablbeaioaa.G
