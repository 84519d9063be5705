import Derived.Test.YtkjghablbeaioaaS0
namespace Go.Proofs.Ytkjghablbeaioaa.S
open Go.RowKit Go.Proofs.YtkjghablbeaioaaW.PrintWords Go.Proofs.YtkjghablbeaioaaW.PrintLast Go.Proofs.YtkjghablbeaioaaW.PrintMore
attribute [local go_sem] max2_int min2_int max_two min_two max_three min_three max_four min_four
set_option linter.unusedVariables false
set_option linter.unusedSimpArgs false
def ancepsref38_Variables.l0:Nat→List Int→Int→Option (Int)
 | 0,_,_=>none
 | k+1,x0,x3=>if x3<(x0.length:Int) then (if 0≤x3 then (if (rd x0 x3)<0 then (some 6) else (if (rd x0 x3)>23 then (some 6) else (if x3>0 then (if 0≤(wrap64 (x3 - 1)) then (if (wrap64 (x3 - 1))<(x0.length:Int) then (if (rd x0 x3)≤(rd x0 (wrap64 (x3 - 1))) then (some 18) else (ancepsref38_Variables.l0 k x0 (wrap64 (x3+1)))) else (none)) else (none)) else (ancepsref38_Variables.l0 k x0 (wrap64 (x3+1)))))) else (none)) else (some 0)
def ancepsref38_Variables.f (k:Nat) (l0:List Int):Option (Int):=if (l0.length:Int)>10 then (some 3) else (ancepsref38_Variables.l0 k l0 0)
theorem ancepsref38_Variables.mono_l:∀ k,(∀ y0 y1,LeO (ancepsref38_Variables.l0 k y0 y1) (ancepsref38_Variables.l0 (k+1) y0 y1))
 | 0=>fun _ _ r h=>by simp [ancepsref38_Variables.l0] at h
 | k+1=>by
  have ih0:=ancepsref38_Variables.mono_l k
  ·intro y0 y1
   unfold ancepsref38_Variables.l0
   repeat' first
   | (with_reducible exact ih0 _ _)
   | (with_reducible exact LeO.refl _)
   | (with_reducible exact LeO.none _)
   | (with_reducible refine LeO.ite ?_ ?_)
   | (with_reducible refine LeO.bind ?_ (fun _=>?_))
   | exact LeO.none _
   | refine LeO.ite ?_ ?_
   | refine LeO.bind ?_ (fun _=>?_)
theorem ancepsref38_Variables.mono:∀ a0 k,LeO (ancepsref38_Variables.f k a0) (ancepsref38_Variables.f (k+1) a0):=by
 intro a0 k
 have ih0:=ancepsref38_Variables.mono_l k
 unfold ancepsref38_Variables.f
 repeat' first
   | (with_reducible exact ih0 _ _)
   | (with_reducible exact LeO.refl _)
   | (with_reducible exact LeO.none _)
   | (with_reducible refine LeO.ite ?_ ?_)
   | (with_reducible refine LeO.bind ?_ (fun _=>?_))
   | exact LeO.none _
   | refine LeO.ite ?_ ?_
   | refine LeO.bind ?_ (fun _=>?_)
set_option maxHeartbeats 8000000 in
set_option maxRecDepth 100000 in
theorem ancepsref38_Variables.calls (k:Nat) (A0:Option Addr) (c0:Nat) (l0:List Int) (r:Int) (w:World) (hr0:Kd.C (Kd.int .i64) w A0 l0.length l0) (hc0:l0.length≤c0) (h:ancepsref38_Variables.f k l0=some r) :
  Calls Try.prog 82 #[.slice A0 l0.length c0] w fun e w'=>e=.returned (.int .i64 r)∧Drawn0 w w':=by
 have hu3:=Try.underlying3
 have HR0:=zA hr0
 have HC0:=zA hc0
 clear hr0 hc0
 have H:(if (l0.length:Int)>10 then (some 3) else (ancepsref38_Variables.l0 k l0 0))=some r:=h
 clear h
 by_cases c2:(l0.length:Int)>10
 ·rw [if_pos c2] at H
  have c2b0:decide (10<(l0.length:Int))=true:=decide_eq_true c2
  have c2b1:decide (10<l0.length)=true:=decide_eq_true (by omega)
  clear c2
  obtain rfl:=Option.some.inj H
  go_enter Try.func82,Try.ntmps82
  go_wp2
  repeat (go_quiet (fail);try go_wp2)
  go_ret
  exact ⟨by first|rfl|(simp;done)|(simp [*];done),by repeat (first|exact Drawn0.refl _|apply Drawn0.step)⟩
 ·rw [if_neg c2] at H
  have c2b0:decide (10<(l0.length:Int))=false:=decide_eq_false c2
  have c2b1:decide (10<l0.length)=false:=decide_eq_false (by omega)
  clear c2
  have H':=zA H
  clear H
  go_enter Try.func82,Try.ntmps82
  go_wp2
  repeat (go_quiet (fail);try go_wp2)
  go_loopg [3] k (fun kq v3 w'=>∃ (x3_1:Int),v3=.int .i64 x3_1∧Aside0 (ancepsref38_Variables.l0 kq l0 x3_1=some r)∧Aside0 (kq≤k)∧Drawn0 w w')
  case atStart=>exact ⟨(0),zT,H',⟨Nat.le_refl _⟩,by repeat (first|exact Drawn0.refl _|apply Drawn0.step)⟩
  case round=>
   clear H'
   try clear c2
   try clear c2b0
   try clear c2b1
   obtain ⟨x3_1,rfl,HA,HK1,⟨m1,rfl⟩⟩:=hrel
   cases gk with
   | zero=>exact absurd HA.out (by simp [ancepsref38_Variables.l0])
   | succ k1=>
    have H:=HA.out
    clear HA
    simp only [ancepsref38_Variables.l0] at H
    by_cases c3:x3_1<(l0.length:Int)
    ·rw [if_pos c3] at H
     have c3b0:decide (x3_1<(l0.length:Int))=true:=decide_eq_true c3
     clear c3
     by_cases c4:0≤x3_1
     ·rw [if_pos c4] at H
      have c4b0:decide (0≤x3_1)=true:=decide_eq_true c4
      clear c4
      by_cases c5:(rd l0 x3_1)<0
      ·rw [if_pos c5] at H
       have c5b0:decide ((rd l0 x3_1)<0)=true:=decide_eq_true c5
       clear c5
       obtain rfl:=Option.some.inj H
       have p513:0≤(x3_1:Int):=of_decide_eq_true zh
       have q513:x3_1<(l0.length:Int):=of_decide_eq_true zh
       obtain ⟨ad513,e513,hx513_0⟩:=Kd.at_int HR0.out x3_1 p513 q513
       cases e513
       replace p513:=eq_true p513
       replace q513:=eq_true q513
       go_wp2
       repeat (go_quiet (fail);try go_wp2)
       go_ret
       exact ⟨by first|rfl|(simp;done)|(simp [*];done),by repeat (first|exact Drawn0.refl _|apply Drawn0.step)⟩
      ·rw [if_neg c5] at H
       have c5b0:decide ((rd l0 x3_1)<0)=false:=decide_eq_false c5
       clear c5
       by_cases c6:(rd l0 x3_1)>23
       ·rw [if_pos c6] at H
        have c6b0:decide (23<(rd l0 x3_1))=true:=decide_eq_true c6
        clear c6
        obtain rfl:=Option.some.inj H
        have p513:0≤(x3_1:Int):=of_decide_eq_true zh
        have q513:x3_1<(l0.length:Int):=of_decide_eq_true zh
        obtain ⟨ad513,e513,hx513_0⟩:=Kd.at_int HR0.out x3_1 p513 q513
        cases e513
        replace p513:=eq_true p513
        replace q513:=eq_true q513
        have p514:0≤(x3_1:Int):=of_decide_eq_true zh
        have q514:x3_1<(l0.length:Int):=of_decide_eq_true zh
        obtain ⟨ad514,e514,hx514_0⟩:=Kd.at_int HR0.out x3_1 p514 q514
        obtain rfl:ad513=ad514:=(by injection e514)
        replace p514:=eq_true p514
        replace q514:=eq_true q514
        go_wp2
        repeat (go_quiet (fail);try go_wp2)
        go_ret
        exact ⟨by first|rfl|(simp;done)|(simp [*];done),by repeat (first|exact Drawn0.refl _|apply Drawn0.step)⟩
       ·rw [if_neg c6] at H
        have c6b0:decide (23<(rd l0 x3_1))=false:=decide_eq_false c6
        clear c6
        by_cases c7:x3_1>0
        ·rw [if_pos c7] at H
         have c7b0:decide (0<x3_1)=true:=decide_eq_true c7
         clear c7
         obtain ⟨ji8,hji8⟩:∃ j_:Int,(wrap64 (x3_1 - 1))=j_:=⟨_,rfl⟩
         replace H:(if 0≤(ji8) then (if (ji8)<(l0.length:Int) then (if (rd l0 x3_1)≤(rd l0 (ji8)) then (some 18) else (ancepsref38_Variables.l0 k1 l0 (wrap64 (x3_1+1)))) else (none)) else (none))=some r:=by first|(rw [hji8] at H;exact H)|(simp only [hji8] at H ⊢;exact H)
         have hji8w:(IntKind.i64.wrap (x3_1 - 1))=ji8:=(i64_w _).trans hji8
         by_cases c9:0≤(ji8)
         ·rw [if_pos c9] at H
          have c9b0:decide (0≤(ji8))=true:=decide_eq_true c9
          clear c9
          by_cases c10:(ji8)<(l0.length:Int)
          ·rw [if_pos c10] at H
           have c10b0:decide ((ji8)<(l0.length:Int))=true:=decide_eq_true c10
           clear c10
           by_cases c11:(rd l0 x3_1)≤(rd l0 (ji8))
           ·rw [if_pos c11] at H
            have c11b0:decide ((rd l0 x3_1)≤(rd l0 (ji8)))=true:=decide_eq_true c11
            clear c11
            obtain rfl:=Option.some.inj H
            have p513:0≤(x3_1:Int):=of_decide_eq_true zh
            have q513:x3_1<(l0.length:Int):=of_decide_eq_true zh
            obtain ⟨ad513,e513,hx513_0⟩:=Kd.at_int HR0.out x3_1 p513 q513
            cases e513
            replace p513:=eq_true p513
            replace q513:=eq_true q513
            have p514:0≤(x3_1:Int):=of_decide_eq_true zh
            have q514:x3_1<(l0.length:Int):=of_decide_eq_true zh
            obtain ⟨ad514,e514,hx514_0⟩:=Kd.at_int HR0.out x3_1 p514 q514
            obtain rfl:ad513=ad514:=(by injection e514)
            replace p514:=eq_true p514
            replace q514:=eq_true q514
            have p515:0≤(x3_1:Int):=of_decide_eq_true zh
            have q515:x3_1<(l0.length:Int):=of_decide_eq_true zh
            obtain ⟨ad515,e515,hx515_0⟩:=Kd.at_int HR0.out x3_1 p515 q515
            obtain rfl:ad513=ad515:=(by injection e515)
            replace p515:=eq_true p515
            replace q515:=eq_true q515
            have p516:0≤((ji8):Int):=of_decide_eq_true zh
            have q516:(ji8)<(l0.length:Int):=of_decide_eq_true zh
            obtain ⟨ad516,e516,hx516_0⟩:=Kd.at_int HR0.out (ji8) p516 q516
            obtain rfl:ad513=ad516:=(by injection e516)
            replace p516:=eq_true p516
            replace q516:=eq_true q516
            go_wp2
            repeat (go_quiet (fail);try go_wp2)
            go_ret
            exact ⟨by first|rfl|(simp;done)|(simp only [← hji8] <;> (first|rfl|simp))|(simp [*];done),by repeat (first|exact Drawn0.refl _|apply Drawn0.step)⟩
           ·rw [if_neg c11] at H
            have c11b0:decide ((rd l0 x3_1)≤(rd l0 (ji8)))=false:=decide_eq_false c11
            clear c11
            have H':=zA H
            clear H
            have p513:0≤(x3_1:Int):=of_decide_eq_true zh
            have q513:x3_1<(l0.length:Int):=of_decide_eq_true zh
            obtain ⟨ad513,e513,hx513_0⟩:=Kd.at_int HR0.out x3_1 p513 q513
            cases e513
            replace p513:=eq_true p513
            replace q513:=eq_true q513
            have p514:0≤(x3_1:Int):=of_decide_eq_true zh
            have q514:x3_1<(l0.length:Int):=of_decide_eq_true zh
            obtain ⟨ad514,e514,hx514_0⟩:=Kd.at_int HR0.out x3_1 p514 q514
            obtain rfl:ad513=ad514:=(by injection e514)
            replace p514:=eq_true p514
            replace q514:=eq_true q514
            have p515:0≤(x3_1:Int):=of_decide_eq_true zh
            have q515:x3_1<(l0.length:Int):=of_decide_eq_true zh
            obtain ⟨ad515,e515,hx515_0⟩:=Kd.at_int HR0.out x3_1 p515 q515
            obtain rfl:ad513=ad515:=(by injection e515)
            replace p515:=eq_true p515
            replace q515:=eq_true q515
            have p516:0≤((ji8):Int):=of_decide_eq_true zh
            have q516:(ji8)<(l0.length:Int):=of_decide_eq_true zh
            obtain ⟨ad516,e516,hx516_0⟩:=Kd.at_int HR0.out (ji8) p516 q516
            obtain rfl:ad513=ad516:=(by injection e516)
            replace p516:=eq_true p516
            replace q516:=eq_true q516
            go_wp2
            repeat (go_quiet (fail);try go_wp2)
            go_roundg k1
            case measure=>have:=HK1.out;omega
            case rel=>exact ⟨(wrap64 (x3_1+1)),zT,H',⟨by have:=HK1.out;omega⟩,by repeat (first|exact Drawn0.refl _|apply Drawn0.step)⟩
          ·rw [if_neg c10] at H
           exact absurd H (by simp)
         ·rw [if_neg c9] at H
          exact absurd H (by simp)
        ·rw [if_neg c7] at H
         have c7b0:decide (0<x3_1)=false:=decide_eq_false c7
         clear c7
         have H':=zA H
         clear H
         have p513:0≤(x3_1:Int):=of_decide_eq_true zh
         have q513:x3_1<(l0.length:Int):=of_decide_eq_true zh
         obtain ⟨ad513,e513,hx513_0⟩:=Kd.at_int HR0.out x3_1 p513 q513
         cases e513
         replace p513:=eq_true p513
         replace q513:=eq_true q513
         have p514:0≤(x3_1:Int):=of_decide_eq_true zh
         have q514:x3_1<(l0.length:Int):=of_decide_eq_true zh
         obtain ⟨ad514,e514,hx514_0⟩:=Kd.at_int HR0.out x3_1 p514 q514
         obtain rfl:ad513=ad514:=(by injection e514)
         replace p514:=eq_true p514
         replace q514:=eq_true q514
         go_wp2
         repeat (go_quiet (fail);try go_wp2)
         go_roundg k1
         case measure=>have:=HK1.out;omega
         case rel=>exact ⟨(wrap64 (x3_1+1)),zT,H',⟨by have:=HK1.out;omega⟩,by repeat (first|exact Drawn0.refl _|apply Drawn0.step)⟩
     ·rw [if_neg c4] at H
      exact absurd H (by simp)
    ·rw [if_neg c3] at H
     have c3b0:decide (x3_1<(l0.length:Int))=false:=decide_eq_false c3
     clear c3
     obtain rfl:=Option.some.inj H
     go_wp2
     repeat (go_quiet (fail);try go_wp2)
     go_ret
     exact ⟨by first|rfl|(simp;done)|(simp [*];done),by repeat (first|exact Drawn0.refl _|apply Drawn0.step)⟩
def ancepsref38_Valid.l0:Nat→Int→List Int→List Int→Option (Int)
 | 0,_,_,_=>none
 | k+1,x4,x518000,x518001=>if x4<(x518001.length:Int) then (if 0≤x4 then (if (rd x518001 x4)<0 then (some 6) else (if (rd x518001 x4)≥(shl .i64 1 (x518000.length:Int)) then (some 6) else (if x4>0 then (if 0≤(wrap64 (x4 - 1)) then (if (wrap64 (x4 - 1))<(x518001.length:Int) then (if (rd x518001 x4)≤(rd x518001 (wrap64 (x4 - 1))) then (some 18) else (ancepsref38_Valid.l0 k (wrap64 (x4+1)) x518000 x518001)) else (none)) else (none)) else (ancepsref38_Valid.l0 k (wrap64 (x4+1)) x518000 x518001)))) else (none)) else (some 0)
def ancepsref38_Valid.f (k:Nat) (l0_0:List Int) (l0_1:List Int):Option (Int):=(ancepsref38_Variables.f k l0_0).bind fun t518=>(if t518=0 then (ancepsref38_Valid.l0 k 0 l0_0 l0_1) else (some t518))
theorem ancepsref38_Valid.mono_l:∀ k,(∀ y0 y1 y2,LeO (ancepsref38_Valid.l0 k y0 y1 y2) (ancepsref38_Valid.l0 (k+1) y0 y1 y2))
 | 0=>fun _ _ _ r h=>by simp [ancepsref38_Valid.l0] at h
 | k+1=>by
  have ih0:=ancepsref38_Valid.mono_l k
  ·intro y0 y1 y2
   unfold ancepsref38_Valid.l0
   repeat' first
   | (with_reducible exact ih0 _ _ _)
   | (with_reducible exact ancepsref38_Variables.mono _ _)
   | (with_reducible exact LeO.refl _)
   | (with_reducible exact LeO.none _)
   | (with_reducible refine LeO.ite ?_ ?_)
   | (with_reducible refine LeO.bind ?_ (fun _=>?_))
   | exact LeO.none _
   | refine LeO.ite ?_ ?_
   | refine LeO.bind ?_ (fun _=>?_)
theorem ancepsref38_Valid.mono:∀ a0 a1 k,LeO (ancepsref38_Valid.f k a0 a1) (ancepsref38_Valid.f (k+1) a0 a1):=by
 intro a0 a1 k
 have ih0:=ancepsref38_Valid.mono_l k
 unfold ancepsref38_Valid.f
 repeat' first
   | (with_reducible exact ih0 _ _ _)
   | (with_reducible exact ancepsref38_Variables.mono _ _)
   | (with_reducible exact LeO.refl _)
   | (with_reducible exact LeO.none _)
   | (with_reducible refine LeO.ite ?_ ?_)
   | (with_reducible refine LeO.bind ?_ (fun _=>?_))
   | exact LeO.none _
   | refine LeO.ite ?_ ?_
   | refine LeO.bind ?_ (fun _=>?_)
set_option maxHeartbeats 8000000 in
set_option maxRecDepth 100000 in
theorem ancepsref38_Valid.calls (k:Nat) (A0_0:Option Addr) (c0_0:Nat) (l0_0:List Int) (A0_1:Option Addr) (c0_1:Nat) (l0_1:List Int) (r:Int) (w:World) (hr0_0:Kd.C (Kd.int .i64) w A0_0 l0_0.length l0_0) (hc0_0:l0_0.length≤c0_0) (hr0_1:Kd.C (Kd.int .i64) w A0_1 l0_1.length l0_1) (hc0_1:l0_1.length≤c0_1) (h:ancepsref38_Valid.f k l0_0 l0_1=some r) :
  Calls Try.prog 60 #[.agg #[.slice A0_0 l0_0.length c0_0,.slice A0_1 l0_1.length c0_1]] w fun e w'=>e=.returned (.int .i64 r)∧Below w.heap.size w w':=by
 have hu50:=Try.underlying50
 have hu30:=Try.underlying30
 have hu3:=Try.underlying3
 have HR0_0:=zA hr0_0
 have HC0_0:=zA hc0_0
 clear hr0_0 hc0_0
 have HR0_1:=zA hr0_1
 have HC0_1:=zA hc0_1
 clear hr0_1 hc0_1
 have HB:=zA (Below.refl w.heap.size w)
 have H:((ancepsref38_Variables.f k l0_0).bind fun t518=>(if t518=0 then (ancepsref38_Valid.l0 k 0 l0_0 l0_1) else (some t518)))=some r:=h
 clear h
 replace H:=Option.bind_eq_some_iff.mp H
 obtain ⟨t518,A20,H⟩:=H
 replace H:(if t518=0 then (ancepsref38_Valid.l0 k 0 l0_0 l0_1) else (some t518))=some r:=H
 have A2:=zA A20
 clear A20
 have HC3:=zA H
 clear H
 go_enter Try.func60,Try.ntmps60
 go_upto_if 9 with (first|((with_reducible refine gate_dst (N:=1) rfl ?_);(try (refine gate_guard (by rfl) ?_;dsimp only));refine box_event ?hg (N:=1) ?hd (cs:=#[.slice A0_0 l0_0.length c0_0,.slice A0_1 l0_1.length c0_1]) (t:=50) ?hr ?_;(case hd=>rfl);(case hg=>rfl);(case hr=>first|(go_simp;done)|(go_simp;rfl));intro gb517 hg w4 hbox hb;have BK517:=zA (hbox);have GW517:=zA (zG hg (below_size zB):w.heap.size≤gb517);have GE517:=GW517;replace HB:=zA (below_step zB hb);clear hb hbox hg;have hcz5_0:w4.cell? ⟨gb517,0,none⟩=some (.slice A0_0 l0_0.length c0_0):=(blk_cell BK517.out 0).trans rfl;have hcz5_1:w4.cell? ⟨gb517,1,none⟩=some (.slice A0_1 l0_1.length c0_1):=(blk_cell BK517.out 1).trans rfl;have hfz5_0:=blk_frozen BK517.out 0;have hfz5_1:=blk_frozen BK517.out 1)|(go_at_call 82;(with_reducible refine (ancepsref38_Variables.calls k _ _ l0_0 t518 _ ?side1 ?side2 A2.out).mono ?_);(case side1=>exact zC (Kd.C_below HR0_0.out HB.out));(case side2=>exact HC0_0.out);rintro e w' ⟨rfl,⟨nd,rfl⟩⟩;(try first|exact ⟨rfl,_,World.drewN_drewN _ _ _⟩|exact ⟨rfl,_,Eq.trans (World.drewN_drewN _ _ _) (congrArg (World.drewN _) (Nat.add_assoc _ _ _))⟩)))
 repeat (go_quiet (first|((with_reducible refine gate_dst (N:=1) rfl ?_);(try (refine gate_guard (by rfl) ?_;dsimp only));refine box_event ?hg (N:=1) ?hd (cs:=#[.slice A0_0 l0_0.length c0_0,.slice A0_1 l0_1.length c0_1]) (t:=50) ?hr ?_;(case hd=>rfl);(case hg=>rfl);(case hr=>first|(go_simp;done)|(go_simp;rfl));intro gb517 hg w4 hbox hb;have BK517:=zA (hbox);have GW517:=zA (zG hg (below_size zB):w.heap.size≤gb517);have GE517:=GW517;replace HB:=zA (below_step zB hb);clear hb hbox hg;have hcz5_0:w4.cell? ⟨gb517,0,none⟩=some (.slice A0_0 l0_0.length c0_0):=(blk_cell BK517.out 0).trans rfl;have hcz5_1:w4.cell? ⟨gb517,1,none⟩=some (.slice A0_1 l0_1.length c0_1):=(blk_cell BK517.out 1).trans rfl;have hfz5_0:=blk_frozen BK517.out 0;have hfz5_1:=blk_frozen BK517.out 1)|(go_at_call 82;(with_reducible refine (ancepsref38_Variables.calls k _ _ l0_0 t518 _ ?side1 ?side2 A2.out).mono ?_);(case side1=>exact zC (Kd.C_below HR0_0.out HB.out));(case side2=>exact HC0_0.out);rintro e w' ⟨rfl,⟨nd,rfl⟩⟩;(try first|exact ⟨rfl,_,World.drewN_drewN _ _ _⟩|exact ⟨rfl,_,Eq.trans (World.drewN_drewN _ _ _) (congrArg (World.drewN _) (Nat.add_assoc _ _ _))⟩)));go_upto_if 9 with (first|((with_reducible refine gate_dst (N:=1) rfl ?_);(try (refine gate_guard (by rfl) ?_;dsimp only));refine box_event ?hg (N:=1) ?hd (cs:=#[.slice A0_0 l0_0.length c0_0,.slice A0_1 l0_1.length c0_1]) (t:=50) ?hr ?_;(case hd=>rfl);(case hg=>rfl);(case hr=>first|(go_simp;done)|(go_simp;rfl));intro gb517 hg w4 hbox hb;have BK517:=zA (hbox);have GW517:=zA (zG hg (below_size zB):w.heap.size≤gb517);have GE517:=GW517;replace HB:=zA (below_step zB hb);clear hb hbox hg;have hcz5_0:w4.cell? ⟨gb517,0,none⟩=some (.slice A0_0 l0_0.length c0_0):=(blk_cell BK517.out 0).trans rfl;have hcz5_1:w4.cell? ⟨gb517,1,none⟩=some (.slice A0_1 l0_1.length c0_1):=(blk_cell BK517.out 1).trans rfl;have hfz5_0:=blk_frozen BK517.out 0;have hfz5_1:=blk_frozen BK517.out 1)|(go_at_call 82;(with_reducible refine (ancepsref38_Variables.calls k _ _ l0_0 t518 _ ?side1 ?side2 A2.out).mono ?_);(case side1=>exact zC (Kd.C_below HR0_0.out HB.out));(case side2=>exact HC0_0.out);rintro e w' ⟨rfl,⟨nd,rfl⟩⟩;(try first|exact ⟨rfl,_,World.drewN_drewN _ _ _⟩|exact ⟨rfl,_,Eq.trans (World.drewN_drewN _ _ _) (congrArg (World.drewN _) (Nat.add_assoc _ _ _))⟩))))
 (try simp only [Act.put,zi,zs,zt])
 have H:=HC3.out
 clear HC3
 by_cases c6:t518=0
 ·rw [if_pos c6] at H
  have c6b0:(t518 == 0)=true:=beq_iff_eq.mpr c6
  have c6b1:(t518 != 0)=false:=bne_eq_false_iff_eq.mpr c6
  clear c6
  (first|rw [c6b0]|(simp only [i64_w,i32_w];rw [c6b0])|skip)
  (try rw [c6b1])
  have H':=zA H
  clear H
  go_wp2
  repeat (go_quiet (fail);try go_wp2)
  go_loopg [4] k (fun kq v4 w'=>∃ (x4_1:Int),v4=.int .i64 x4_1∧Aside0 (ancepsref38_Valid.l0 kq x4_1 l0_0 l0_1=some r)∧Aside0 (kq≤k)∧Aside0 (w'.heap[gb517]?=some (.cells #[(.slice A0_0 l0_0.length c0_0),(.slice A0_1 l0_1.length c0_1)] 50 (0,0)))∧Aside0 (Below w.heap.size w w'))
  case atStart=>exact ⟨(0),zT,H',⟨Nat.le_refl _⟩,⟨by refine zj ?_;exact BK517.out⟩,⟨by repeat (first|(with_reducible first|exact HB.out|apply below_alloc|apply pw_below_drewN|apply below_drew1|refine below_set ?_ GE517.out)|exact HB.out)⟩⟩
  case round=>
   clear H'
   try clear c6
   try clear c6b0
   try clear c6b1
   try clear hcz5_0
   try clear hcz5_1
   try clear hfz5_0
   try clear hfz5_1
   obtain ⟨x4_1,rfl,HA,HK1,BK517,HB⟩:=hrel
   cases gk with
   | zero=>exact absurd HA.out (by simp [ancepsref38_Valid.l0])
   | succ k1=>
    have H:=HA.out
    clear HA
    simp only [ancepsref38_Valid.l0] at H
    by_cases c7:x4_1<(l0_1.length:Int)
    ·rw [if_pos c7] at H
     have c7b0:decide (x4_1<(l0_1.length:Int))=true:=decide_eq_true c7
     clear c7
     by_cases c8:0≤x4_1
     ·rw [if_pos c8] at H
      have c8b0:decide (0≤x4_1)=true:=decide_eq_true c8
      clear c8
      by_cases c9:(rd l0_1 x4_1)<0
      ·rw [if_pos c9] at H
       have c9b0:decide ((rd l0_1 x4_1)<0)=true:=decide_eq_true c9
       clear c9
       obtain rfl:=Option.some.inj H
       have hcz10_0:wr.cell? ⟨gb517,0,none⟩=some (.slice A0_0 l0_0.length c0_0):=(blk_cell BK517.out 0).trans rfl
       have hcz10_1:wr.cell? ⟨gb517,1,none⟩=some (.slice A0_1 l0_1.length c0_1):=(blk_cell BK517.out 1).trans rfl
       have hfz10_0:=blk_frozen BK517.out 0
       have hfz10_1:=blk_frozen BK517.out 1
       have p519:0≤(x4_1:Int):=of_decide_eq_true zh
       have q519:x4_1<(l0_1.length:Int):=of_decide_eq_true zh
       obtain ⟨ad519,e519,hx519_0⟩:=Kd.at_int HR0_1.out x4_1 p519 q519
       cases e519
       replace hx519_0:=(HB.out.cell (World.block_lt_of_cell? w _ hx519_0)).trans hx519_0
       replace p519:=eq_true p519
       replace q519:=eq_true q519
       go_wp2
       repeat (go_quiet (fail);try go_wp2)
       go_ret
       exact ⟨ze,by repeat (first|(with_reducible first|exact HB.out|apply below_alloc|apply pw_below_drewN|apply below_drew1|refine below_set ?_ GE517.out)|exact HB.out)⟩
      ·rw [if_neg c9] at H
       have c9b0:decide ((rd l0_1 x4_1)<0)=false:=decide_eq_false c9
       clear c9
       obtain ⟨ji11,hji11⟩:∃ j_:Int,(shl .i64 1 (l0_0.length:Int))=j_:=⟨_,rfl⟩
       replace H:(if (rd l0_1 x4_1)≥(ji11) then (some 6) else (if x4_1>0 then (if 0≤(wrap64 (x4_1 - 1)) then (if (wrap64 (x4_1 - 1))<(l0_1.length:Int) then (if (rd l0_1 x4_1)≤(rd l0_1 (wrap64 (x4_1 - 1))) then (some 18) else (ancepsref38_Valid.l0 k1 (wrap64 (x4_1+1)) l0_0 l0_1)) else (none)) else (none)) else (ancepsref38_Valid.l0 k1 (wrap64 (x4_1+1)) l0_0 l0_1)))=some r:=by first|(rw [hji11] at H;exact H)|(simp only [hji11] at H ⊢;exact H)
       have hji11_:(IntKind.i64.wrap (1 * 2 ^ min (l0_0.length:Int).toNat 64))=ji11:=hji11
       have hji11z:(l0_0.length:Int)≤64→(IntKind.i64.wrap (1 * 2 ^ (l0_0.length:Int).toNat))=ji11:=shl_small hji11
       have hji11p:(IntKind.i64.wrap (1 * 2 ^ min l0_0.length 64))=ji11:=hji11_
       have hji11q:(l0_0.length:Int)≤64→(IntKind.i64.wrap (1 * 2 ^ l0_0.length))=ji11:=hji11z
       have hji11r:(IntKind.i64.wrap (2 ^ min l0_0.length 64))=ji11:=by have h_:=hji11p;rw [Int.one_mul] at h_;exact h_
       have hji11s:(l0_0.length:Int)≤64→(IntKind.i64.wrap (2 ^ l0_0.length))=ji11:=fun hle_=>by have h_:=hji11q hle_;rw [Int.one_mul] at h_;exact h_
       have hji11u:(IntKind.i64.wrap (2 ^ min (l0_0.length:Int).toNat 64))=ji11:=by have h_:=hji11_;rw [Int.one_mul] at h_;exact h_
       have hji11v:(l0_0.length:Int)≤64→(IntKind.i64.wrap (2 ^ (l0_0.length:Int).toNat))=ji11:=fun hle_=>by have h_:=hji11z hle_;rw [Int.one_mul] at h_;exact h_
       have hji11y:(wrap64 (1 * 2 ^ min (l0_0.length:Int).toNat 64))=ji11:=(i64_w _).symm.trans hji11_
       have hji11x:(l0_0.length:Int)≤64→(wrap64 (1 * 2 ^ (l0_0.length:Int).toNat))=ji11:=fun h_=>(i64_w _).symm.trans (hji11z h_)
       by_cases c12:(rd l0_1 x4_1)≥(ji11)
       ·rw [if_pos c12] at H
        have c12b0:decide ((ji11)≤(rd l0_1 x4_1))=true:=decide_eq_true c12
        clear c12
        obtain rfl:=Option.some.inj H
        have hcz13_0:wr.cell? ⟨gb517,0,none⟩=some (.slice A0_0 l0_0.length c0_0):=(blk_cell BK517.out 0).trans rfl
        have hcz13_1:wr.cell? ⟨gb517,1,none⟩=some (.slice A0_1 l0_1.length c0_1):=(blk_cell BK517.out 1).trans rfl
        have hfz13_0:=blk_frozen BK517.out 0
        have hfz13_1:=blk_frozen BK517.out 1
        have p519:0≤(x4_1:Int):=of_decide_eq_true zh
        have q519:x4_1<(l0_1.length:Int):=of_decide_eq_true zh
        obtain ⟨ad519,e519,hx519_0⟩:=Kd.at_int HR0_1.out x4_1 p519 q519
        cases e519
        replace hx519_0:=(HB.out.cell (World.block_lt_of_cell? w _ hx519_0)).trans hx519_0
        replace p519:=eq_true p519
        replace q519:=eq_true q519
        have p520:0≤(x4_1:Int):=of_decide_eq_true zh
        have q520:x4_1<(l0_1.length:Int):=of_decide_eq_true zh
        obtain ⟨ad520,e520,hx520_0⟩:=Kd.at_int HR0_1.out x4_1 p520 q520
        obtain rfl:ad519=ad520:=(by injection e520)
        replace hx520_0:=(HB.out.cell (World.block_lt_of_cell? w _ hx520_0)).trans hx520_0
        replace p520:=eq_true p520
        replace q520:=eq_true q520
        go_wp2
        repeat (go_quiet (fail);try go_wp2)
        go_ret
        exact ⟨by first|rfl|(simp [errW_none,errW_some] <;> rfl)|(simp only [← hji11];first|rfl|(simp [errW_none,errW_some] <;> rfl))|(simp [*,errW_none,errW_some] <;> rfl),by repeat (first|(with_reducible first|exact HB.out|apply below_alloc|apply pw_below_drewN|apply below_drew1|refine below_set ?_ GE517.out)|exact HB.out)⟩
       ·rw [if_neg c12] at H
        have c12b0:decide ((ji11)≤(rd l0_1 x4_1))=false:=decide_eq_false c12
        clear c12
        by_cases c14:x4_1>0
        ·rw [if_pos c14] at H
         have c14b0:decide (0<x4_1)=true:=decide_eq_true c14
         clear c14
         obtain ⟨ji15,hji15⟩:∃ j_:Int,(wrap64 (x4_1 - 1))=j_:=⟨_,rfl⟩
         replace H:(if 0≤(ji15) then (if (ji15)<(l0_1.length:Int) then (if (rd l0_1 x4_1)≤(rd l0_1 (ji15)) then (some 18) else (ancepsref38_Valid.l0 k1 (wrap64 (x4_1+1)) l0_0 l0_1)) else (none)) else (none))=some r:=by first|(rw [hji15] at H;exact H)|(simp only [hji15] at H ⊢;exact H)
         have hji15w:(IntKind.i64.wrap (x4_1 - 1))=ji15:=(i64_w _).trans hji15
         by_cases c16:0≤(ji15)
         ·rw [if_pos c16] at H
          have c16b0:decide (0≤(ji15))=true:=decide_eq_true c16
          clear c16
          by_cases c17:(ji15)<(l0_1.length:Int)
          ·rw [if_pos c17] at H
           have c17b0:decide ((ji15)<(l0_1.length:Int))=true:=decide_eq_true c17
           clear c17
           by_cases c18:(rd l0_1 x4_1)≤(rd l0_1 (ji15))
           ·rw [if_pos c18] at H
            have c18b0:decide ((rd l0_1 x4_1)≤(rd l0_1 (ji15)))=true:=decide_eq_true c18
            clear c18
            obtain rfl:=Option.some.inj H
            have hcz19_0:wr.cell? ⟨gb517,0,none⟩=some (.slice A0_0 l0_0.length c0_0):=(blk_cell BK517.out 0).trans rfl
            have hcz19_1:wr.cell? ⟨gb517,1,none⟩=some (.slice A0_1 l0_1.length c0_1):=(blk_cell BK517.out 1).trans rfl
            have hfz19_0:=blk_frozen BK517.out 0
            have hfz19_1:=blk_frozen BK517.out 1
            have p519:0≤(x4_1:Int):=of_decide_eq_true zh
            have q519:x4_1<(l0_1.length:Int):=of_decide_eq_true zh
            obtain ⟨ad519,e519,hx519_0⟩:=Kd.at_int HR0_1.out x4_1 p519 q519
            cases e519
            replace hx519_0:=(HB.out.cell (World.block_lt_of_cell? w _ hx519_0)).trans hx519_0
            replace p519:=eq_true p519
            replace q519:=eq_true q519
            have p520:0≤(x4_1:Int):=of_decide_eq_true zh
            have q520:x4_1<(l0_1.length:Int):=of_decide_eq_true zh
            obtain ⟨ad520,e520,hx520_0⟩:=Kd.at_int HR0_1.out x4_1 p520 q520
            obtain rfl:ad519=ad520:=(by injection e520)
            replace hx520_0:=(HB.out.cell (World.block_lt_of_cell? w _ hx520_0)).trans hx520_0
            replace p520:=eq_true p520
            replace q520:=eq_true q520
            have p521:0≤(x4_1:Int):=of_decide_eq_true zh
            have q521:x4_1<(l0_1.length:Int):=of_decide_eq_true zh
            obtain ⟨ad521,e521,hx521_0⟩:=Kd.at_int HR0_1.out x4_1 p521 q521
            obtain rfl:ad519=ad521:=(by injection e521)
            replace hx521_0:=(HB.out.cell (World.block_lt_of_cell? w _ hx521_0)).trans hx521_0
            replace p521:=eq_true p521
            replace q521:=eq_true q521
            have p522:0≤((ji15):Int):=of_decide_eq_true zh
            have q522:(ji15)<(l0_1.length:Int):=of_decide_eq_true zh
            obtain ⟨ad522,e522,hx522_0⟩:=Kd.at_int HR0_1.out (ji15) p522 q522
            obtain rfl:ad519=ad522:=(by injection e522)
            replace hx522_0:=(HB.out.cell (World.block_lt_of_cell? w _ hx522_0)).trans hx522_0
            replace p522:=eq_true p522
            replace q522:=eq_true q522
            go_wp2
            repeat (go_quiet (fail);try go_wp2)
            go_ret
            exact ⟨by first|rfl|(simp [errW_none,errW_some] <;> rfl)|(simp only [← hji11,← hji15];first|rfl|(simp [errW_none,errW_some] <;> rfl))|(simp [*,errW_none,errW_some] <;> rfl),by repeat (first|(with_reducible first|exact HB.out|apply below_alloc|apply pw_below_drewN|apply below_drew1|refine below_set ?_ GE517.out)|exact HB.out)⟩
           ·rw [if_neg c18] at H
            have c18b0:decide ((rd l0_1 x4_1)≤(rd l0_1 (ji15)))=false:=decide_eq_false c18
            clear c18
            have H':=zA H
            clear H
            have hcz20_0:wr.cell? ⟨gb517,0,none⟩=some (.slice A0_0 l0_0.length c0_0):=(blk_cell BK517.out 0).trans rfl
            have hcz20_1:wr.cell? ⟨gb517,1,none⟩=some (.slice A0_1 l0_1.length c0_1):=(blk_cell BK517.out 1).trans rfl
            have hfz20_0:=blk_frozen BK517.out 0
            have hfz20_1:=blk_frozen BK517.out 1
            have p519:0≤(x4_1:Int):=of_decide_eq_true zh
            have q519:x4_1<(l0_1.length:Int):=of_decide_eq_true zh
            obtain ⟨ad519,e519,hx519_0⟩:=Kd.at_int HR0_1.out x4_1 p519 q519
            cases e519
            replace hx519_0:=(HB.out.cell (World.block_lt_of_cell? w _ hx519_0)).trans hx519_0
            replace p519:=eq_true p519
            replace q519:=eq_true q519
            have p520:0≤(x4_1:Int):=of_decide_eq_true zh
            have q520:x4_1<(l0_1.length:Int):=of_decide_eq_true zh
            obtain ⟨ad520,e520,hx520_0⟩:=Kd.at_int HR0_1.out x4_1 p520 q520
            obtain rfl:ad519=ad520:=(by injection e520)
            replace hx520_0:=(HB.out.cell (World.block_lt_of_cell? w _ hx520_0)).trans hx520_0
            replace p520:=eq_true p520
            replace q520:=eq_true q520
            have p521:0≤(x4_1:Int):=of_decide_eq_true zh
            have q521:x4_1<(l0_1.length:Int):=of_decide_eq_true zh
            obtain ⟨ad521,e521,hx521_0⟩:=Kd.at_int HR0_1.out x4_1 p521 q521
            obtain rfl:ad519=ad521:=(by injection e521)
            replace hx521_0:=(HB.out.cell (World.block_lt_of_cell? w _ hx521_0)).trans hx521_0
            replace p521:=eq_true p521
            replace q521:=eq_true q521
            have p522:0≤((ji15):Int):=of_decide_eq_true zh
            have q522:(ji15)<(l0_1.length:Int):=of_decide_eq_true zh
            obtain ⟨ad522,e522,hx522_0⟩:=Kd.at_int HR0_1.out (ji15) p522 q522
            obtain rfl:ad519=ad522:=(by injection e522)
            replace hx522_0:=(HB.out.cell (World.block_lt_of_cell? w _ hx522_0)).trans hx522_0
            replace p522:=eq_true p522
            replace q522:=eq_true q522
            go_wp2
            repeat (go_quiet (fail);try go_wp2)
            go_roundg k1
            case measure=>have:=HK1.out;omega
            case rel=>exact ⟨(wrap64 (x4_1+1)),zT,H',⟨by have:=HK1.out;omega⟩,⟨by refine zj ?_;exact BK517.out⟩,⟨by repeat (first|(with_reducible first|exact HB.out|apply below_alloc|apply pw_below_drewN|apply below_drew1|refine below_set ?_ GE517.out)|exact HB.out)⟩⟩
          ·rw [if_neg c17] at H
           exact absurd H (by simp)
         ·rw [if_neg c16] at H
          exact absurd H (by simp)
        ·rw [if_neg c14] at H
         have c14b0:decide (0<x4_1)=false:=decide_eq_false c14
         clear c14
         have H':=zA H
         clear H
         have hcz21_0:wr.cell? ⟨gb517,0,none⟩=some (.slice A0_0 l0_0.length c0_0):=(blk_cell BK517.out 0).trans rfl
         have hcz21_1:wr.cell? ⟨gb517,1,none⟩=some (.slice A0_1 l0_1.length c0_1):=(blk_cell BK517.out 1).trans rfl
         have hfz21_0:=blk_frozen BK517.out 0
         have hfz21_1:=blk_frozen BK517.out 1
         have p519:0≤(x4_1:Int):=of_decide_eq_true zh
         have q519:x4_1<(l0_1.length:Int):=of_decide_eq_true zh
         obtain ⟨ad519,e519,hx519_0⟩:=Kd.at_int HR0_1.out x4_1 p519 q519
         cases e519
         replace hx519_0:=(HB.out.cell (World.block_lt_of_cell? w _ hx519_0)).trans hx519_0
         replace p519:=eq_true p519
         replace q519:=eq_true q519
         have p520:0≤(x4_1:Int):=of_decide_eq_true zh
         have q520:x4_1<(l0_1.length:Int):=of_decide_eq_true zh
         obtain ⟨ad520,e520,hx520_0⟩:=Kd.at_int HR0_1.out x4_1 p520 q520
         obtain rfl:ad519=ad520:=(by injection e520)
         replace hx520_0:=(HB.out.cell (World.block_lt_of_cell? w _ hx520_0)).trans hx520_0
         replace p520:=eq_true p520
         replace q520:=eq_true q520
         go_wp2
         repeat (go_quiet (fail);try go_wp2)
         go_roundg k1
         case measure=>have:=HK1.out;omega
         case rel=>exact ⟨(wrap64 (x4_1+1)),zT,H',⟨by have:=HK1.out;omega⟩,⟨by refine zj ?_;exact BK517.out⟩,⟨by repeat (first|(with_reducible first|exact HB.out|apply below_alloc|apply pw_below_drewN|apply below_drew1|refine below_set ?_ GE517.out)|exact HB.out)⟩⟩
     ·rw [if_neg c8] at H
      exact absurd H (by simp)
    ·rw [if_neg c7] at H
     have c7b0:decide (x4_1<(l0_1.length:Int))=false:=decide_eq_false c7
     clear c7
     obtain rfl:=Option.some.inj H
     have hcz22_0:wr.cell? ⟨gb517,0,none⟩=some (.slice A0_0 l0_0.length c0_0):=(blk_cell BK517.out 0).trans rfl
     have hcz22_1:wr.cell? ⟨gb517,1,none⟩=some (.slice A0_1 l0_1.length c0_1):=(blk_cell BK517.out 1).trans rfl
     have hfz22_0:=blk_frozen BK517.out 0
     have hfz22_1:=blk_frozen BK517.out 1
     go_wp2
     repeat (go_quiet (fail);try go_wp2)
     go_ret
     exact ⟨ze,by repeat (first|(with_reducible first|exact HB.out|apply below_alloc|apply pw_below_drewN|apply below_drew1|refine below_set ?_ GE517.out)|exact HB.out)⟩
 ·rw [if_neg c6] at H
  have c6b0:(t518 == 0)=false:=beq_eq_false_iff_ne.mpr c6
  have c6b1:(t518 != 0)=true:=bne_iff_ne.mpr c6
  (first|rw [c6b0]|(simp only [i64_w,i32_w];rw [c6b0])|skip)
  (try rw [c6b1])
  obtain rfl:=Option.some.inj H
  go_wp2
  repeat (go_quiet (fail);try go_wp2)
  go_ret
  exact ⟨ze,by repeat (first|(with_reducible first|exact HB.out|apply below_alloc|apply pw_below_drewN|apply below_drew1|refine below_set ?_ GE517.out)|exact HB.out)⟩
def ancepsref42_Valid.l0:Nat→List (S50)→Int→Option (Int)
 | 0,_,_=>none
 | k+1,x0,x3=>if x3<(x0.length:Int) then (if 0≤x3 then ((ancepsref38_Valid.f k ((rd_T50 x0 x3).f0) ((rd_T50 x0 x3).f1)).bind fun t524=>(if t524=0 then (ancepsref42_Valid.l0 k x0 (wrap64 (x3+1))) else (some t524))) else (none)) else (some 0)
def ancepsref42_Valid.f (k:Nat) (l0:List (S50)):Option (Int):=if (l0.length:Int)>12 then (some 3) else (ancepsref42_Valid.l0 k l0 0)
theorem ancepsref42_Valid.mono_l:∀ k,(∀ y0 y1,LeO (ancepsref42_Valid.l0 k y0 y1) (ancepsref42_Valid.l0 (k+1) y0 y1))
 | 0=>fun _ _ r h=>by simp [ancepsref42_Valid.l0] at h
 | k+1=>by
  have ih0:=ancepsref42_Valid.mono_l k
  ·intro y0 y1
   unfold ancepsref42_Valid.l0
   repeat' first
   | (with_reducible exact ih0 _ _)
   | (with_reducible exact ancepsref38_Valid.mono _ _ _)
   | (with_reducible exact LeO.refl _)
   | (with_reducible exact LeO.none _)
   | (with_reducible refine LeO.ite ?_ ?_)
   | (with_reducible refine LeO.bind ?_ (fun _=>?_))
   | exact LeO.none _
   | refine LeO.ite ?_ ?_
   | refine LeO.bind ?_ (fun _=>?_)
theorem ancepsref42_Valid.mono:∀ a0 k,LeO (ancepsref42_Valid.f k a0) (ancepsref42_Valid.f (k+1) a0):=by
 intro a0 k
 have ih0:=ancepsref42_Valid.mono_l k
 unfold ancepsref42_Valid.f
 repeat' first
   | (with_reducible exact ih0 _ _)
   | (with_reducible exact ancepsref38_Valid.mono _ _ _)
   | (with_reducible exact LeO.refl _)
   | (with_reducible exact LeO.none _)
   | (with_reducible refine LeO.ite ?_ ?_)
   | (with_reducible refine LeO.bind ?_ (fun _=>?_))
   | exact LeO.none _
   | refine LeO.ite ?_ ?_
   | refine LeO.bind ?_ (fun _=>?_)
set_option maxHeartbeats 8000000 in
set_option maxRecDepth 100000 in
theorem ancepsref42_Valid.calls (k:Nat) (A0:Option Addr) (c0:Nat) (l0:List (S50)) (r:Int) (w:World) (hr0:Kd.C k50 w A0 l0.length l0) (hc0:l0.length≤c0) (h:ancepsref42_Valid.f k l0=some r) :
  Calls Try.prog 26 #[.slice A0 l0.length c0] w fun e w'=>e=.returned (.int .i64 r)∧Below w.heap.size w w':=by
 have hu50:=Try.underlying50
 have HR0:=zA hr0
 have HC0:=zA hc0
 clear hr0 hc0
 have HB:=zA (Below.refl w.heap.size w)
 have H:(if (l0.length:Int)>12 then (some 3) else (ancepsref42_Valid.l0 k l0 0))=some r:=h
 clear h
 by_cases c2:(l0.length:Int)>12
 ·rw [if_pos c2] at H
  have c2b0:decide (12<(l0.length:Int))=true:=decide_eq_true c2
  have c2b1:decide (12<l0.length)=true:=decide_eq_true (by omega)
  clear c2
  obtain rfl:=Option.some.inj H
  go_enter Try.func26,Try.ntmps26
  go_wp2
  go_ret
  exact ⟨ze,by repeat (first|(with_reducible first|exact HB.out|apply below_alloc|apply pw_below_drewN|apply below_drew1)|exact HB.out)⟩
 ·rw [if_neg c2] at H
  have c2b0:decide (12<(l0.length:Int))=false:=decide_eq_false c2
  have c2b1:decide (12<l0.length)=false:=decide_eq_false (by omega)
  clear c2
  have H':=zA H
  clear H
  go_enter Try.func26,Try.ntmps26
  go_wp2
  go_loopg [3] k (fun kq v3 w'=>∃ (x3_1:Int),v3=.int .i64 x3_1∧Aside0 (ancepsref42_Valid.l0 kq l0 x3_1=some r)∧Aside0 (kq≤k)∧Aside0 (Below w.heap.size w w'))
  case atStart=>exact ⟨(0),zT,H',⟨Nat.le_refl _⟩,⟨by repeat (first|(with_reducible first|exact HB.out|apply below_alloc|apply pw_below_drewN|apply below_drew1)|exact HB.out)⟩⟩
  case round=>
   clear H'
   try clear c2
   try clear c2b0
   try clear c2b1
   obtain ⟨x3_1,rfl,HA,HK1,HB⟩:=hrel
   cases gk with
   | zero=>exact absurd HA.out (by simp [ancepsref42_Valid.l0])
   | succ k1=>
    have H:=HA.out
    clear HA
    simp only [ancepsref42_Valid.l0] at H
    by_cases c3:x3_1<(l0.length:Int)
    ·rw [if_pos c3] at H
     have c3b0:decide (x3_1<(l0.length:Int))=true:=decide_eq_true c3
     clear c3
     by_cases c4:0≤x3_1
     ·rw [if_pos c4] at H
      have c4b0:decide (0≤x3_1)=true:=decide_eq_true c4
      clear c4
      replace H:=Option.bind_eq_some_iff.mp H
      obtain ⟨t524,A50,H⟩:=H
      replace H:(if t524=0 then (ancepsref42_Valid.l0 k1 l0 (wrap64 (x3_1+1))) else (some t524))=some r:=H
      have A5:=zA A50
      clear A50
      have HC6:=zA H
      clear H
      have p523:0≤(x3_1:Int):=of_decide_eq_true zh
      have q523:x3_1<(l0.length:Int):=of_decide_eq_true zh
      obtain ⟨ad523,A523_0,c523_0,A523_1,c523_1,e523,hx523_0,hx523_1,hl523_0,hi523_0,hl523_1,hi523_1⟩:=at_T50 HR0.out x3_1 p523 q523
      cases e523
      replace hx523_0:=(HB.out.cell (World.block_lt_of_cell? w _ hx523_0)).trans hx523_0
      replace hx523_1:=(HB.out.cell (World.block_lt_of_cell? w _ hx523_1)).trans hx523_1
      have HR523_0:=zA hi523_0
      have HC523_0:=zA hl523_0
      clear hi523_0 hl523_0
      have HR523_1:=zA hi523_1
      have HC523_1:=zA hl523_1
      clear hi523_1 hl523_1
      replace p523:=eq_true p523
      replace q523:=eq_true q523
      go_upto_if 20 with (first|((with_reducible refine gate_callee (f:=60) rfl ?_);refine goesL_ (some 18) rfl rfl Try.func60 zK rfl #[.agg #[.slice A523_0 ((rd_T50 l0 x3_1).f0).length c523_0,.slice A523_1 ((rd_T50 l0 x3_1).f1).length c523_1]] rfl zM ?_;(with_reducible refine (ancepsref38_Valid.calls k1 _ _ ((rd_T50 l0 x3_1).f0) _ _ ((rd_T50 l0 x3_1).f1) t524 _ ?side1 ?side2 ?side3 ?side4 A5.out).mono ?_);(case side1=>exact zC (Kd.C_below HR523_0.out HB.out));(case side2=>exact HC523_0.out);(case side3=>exact zC (Kd.C_below HR523_1.out HB.out));(case side4=>exact HC523_1.out);rintro e w7 ⟨rfl,hb⟩;refine ⟨_,rfl,?_⟩;replace HB:=zA (below_step zB hb);(try clear hb);(try clear hb2);(try clear hk);(try clear hi)))
      (try simp only [Act.put,zi,zs,zt])
      have H:=HC6.out
      clear HC6
      by_cases c8:t524=0
      ·rw [if_pos c8] at H
       have c8b0:(t524 == 0)=true:=beq_iff_eq.mpr c8
       have c8b1:(t524 != 0)=false:=bne_eq_false_iff_eq.mpr c8
       clear c8
       (first|rw [c8b0]|(simp only [i64_w,i32_w];rw [c8b0])|skip)
       (try rw [c8b1])
       have H':=zA H
       clear H
       go_wp2
       go_roundg k1
       case measure=>have:=HK1.out;omega
       case rel=>exact ⟨(wrap64 (x3_1+1)),zT,H',⟨by have:=HK1.out;omega⟩,⟨by repeat (first|(with_reducible first|exact HB.out|apply below_alloc|apply pw_below_drewN|apply below_drew1)|exact HB.out)⟩⟩
      ·rw [if_neg c8] at H
       have c8b0:(t524 == 0)=false:=beq_eq_false_iff_ne.mpr c8
       have c8b1:(t524 != 0)=true:=bne_iff_ne.mpr c8
       (first|rw [c8b0]|(simp only [i64_w,i32_w];rw [c8b0])|skip)
       (try rw [c8b1])
       obtain rfl:=Option.some.inj H
       go_wp2
       go_ret
       exact ⟨ze,by repeat (first|(with_reducible first|exact HB.out|apply below_alloc|apply pw_below_drewN|apply below_drew1)|exact HB.out)⟩
     ·rw [if_neg c4] at H
      exact absurd H (by simp)
    ·rw [if_neg c3] at H
     have c3b0:decide (x3_1<(l0.length:Int))=false:=decide_eq_false c3
     clear c3
     obtain rfl:=Option.some.inj H
     go_wp2
     go_ret
     exact ⟨ze,by repeat (first|(with_reducible first|exact HB.out|apply below_alloc|apply pw_below_drewN|apply below_drew1)|exact HB.out)⟩
def ancepsref38_Few.f (l0_0:List Int) (l0_1:List Int):Option (Bool):=if (l0_0.length:Int)≤12 then (some (decide ((l0_1.length:Int)≤1030))) else (some false)
set_option maxHeartbeats 8000000 in
set_option maxRecDepth 100000 in
theorem ancepsref38_Few.calls (A0_0:Option Addr) (c0_0:Nat) (l0_0:List Int) (A0_1:Option Addr) (c0_1:Nat) (l0_1:List Int) (r:Bool) (w:World) (hr0_0:Kd.C (Kd.int .i64) w A0_0 l0_0.length l0_0) (hc0_0:l0_0.length≤c0_0) (hr0_1:Kd.C (Kd.int .i64) w A0_1 l0_1.length l0_1) (hc0_1:l0_1.length≤c0_1) (h:ancepsref38_Few.f l0_0 l0_1=some r) :
  Calls Try.prog 73 #[.agg #[.slice A0_0 l0_0.length c0_0,.slice A0_1 l0_1.length c0_1]] w fun e w'=>e=.returned (.bool r)∧Below w.heap.size w w':=by
 have hu50:=Try.underlying50
 have hu30:=Try.underlying30
 have HR0_0:=zA hr0_0
 have HC0_0:=zA hc0_0
 clear hr0_0 hc0_0
 have HR0_1:=zA hr0_1
 have HC0_1:=zA hc0_1
 clear hr0_1 hc0_1
 have HB:=zA (Below.refl w.heap.size w)
 have H:(if (l0_0.length:Int)≤12 then (some (decide ((l0_1.length:Int)≤1030))) else (some false))=some r:=h
 clear h
 have HC2:=zA H
 clear H
 go_enter Try.func73,Try.ntmps73
 go_upto_region 1 with (first|((with_reducible refine gate_dst (N:=1) rfl ?_);(try (refine gate_guard (by rfl) ?_;dsimp only));refine box_event ?hg (N:=1) ?hd (cs:=#[.slice A0_0 l0_0.length c0_0,.slice A0_1 l0_1.length c0_1]) (t:=50) ?hr ?_;(case hd=>rfl);(case hg=>rfl);(case hr=>first|(go_simp;done)|(go_simp;rfl));intro gb525 hg w3 hbox hb;have BK525:=zA (hbox);have GW525:=zA (zG hg (below_size zB):w.heap.size≤gb525);have GE525:=GW525;replace HB:=zA (below_step zB hb);clear hb hbox hg))
 (try simp only [Act.put,zi,zs,zt])
 have H:=HC2.out
 clear HC2
 by_cases c4:(l0_0.length:Int)≤12
 ·rw [if_pos c4] at H
  have c4b0:decide ((l0_0.length:Int)≤12)=true:=decide_eq_true c4
  have c4b1:decide (l0_0.length≤12)=true:=decide_eq_true (by omega)
  clear c4
  (first|rw [c4b0]|(simp only [i64_w,i32_w];rw [c4b0])|skip)
  (try rw [c4b1])
  obtain rfl:=Option.some.inj H
  have hcz5_0:w3.cell? ⟨gb525,0,none⟩=some (.slice A0_0 l0_0.length c0_0):=(blk_cell BK525.out 0).trans rfl
  have hcz5_1:w3.cell? ⟨gb525,1,none⟩=some (.slice A0_1 l0_1.length c0_1):=(blk_cell BK525.out 1).trans rfl
  have hfz5_0:=blk_frozen BK525.out 0
  have hfz5_1:=blk_frozen BK525.out 1
  go_wp2
  go_ret
  exact ⟨ze,by repeat (first|(with_reducible first|exact HB.out|apply below_alloc|apply pw_below_drewN|apply below_drew1|refine below_set ?_ GE525.out)|exact HB.out)⟩
 ·rw [if_neg c4] at H
  have c4b0:decide ((l0_0.length:Int)≤12)=false:=decide_eq_false c4
  have c4b1:decide (l0_0.length≤12)=false:=decide_eq_false (by omega)
  clear c4
  (first|rw [c4b0]|(simp only [i64_w,i32_w];rw [c4b0])|skip)
  (try rw [c4b1])
  obtain rfl:=Option.some.inj H
  have hcz6_0:w3.cell? ⟨gb525,0,none⟩=some (.slice A0_0 l0_0.length c0_0):=(blk_cell BK525.out 0).trans rfl
  have hcz6_1:w3.cell? ⟨gb525,1,none⟩=some (.slice A0_1 l0_1.length c0_1):=(blk_cell BK525.out 1).trans rfl
  have hfz6_0:=blk_frozen BK525.out 0
  have hfz6_1:=blk_frozen BK525.out 1
  go_wp2
  go_ret
  exact ⟨ze,by repeat (first|(with_reducible first|exact HB.out|apply below_alloc|apply pw_below_drewN|apply below_drew1|refine below_set ?_ GE525.out)|exact HB.out)⟩
theorem arr_box {w:World} {g b:Nat} (h:w.heap[g]?=some (.cells #[.bool false,.bool false,.bool false,.bool false,.bool false,.bool false,.bool false,.bool false,.bool false,.bool false,.bool false,.bool false,.bool false,.bool false,.bool false,.bool false,.bool false,.bool false,.bool false,.bool false,.bool false,.bool false,.bool false,.bool false] 88 (0,0))) (hb:b≤g) :
  Kd.R Kd.bool 88 w b (fun _=>True) (.slice (some ⟨g,0,none⟩) 24 24) (List.replicate 24 false):=
 Kd.R_of_own (enc:=Value.bool) (h1:=fun _=>rfl) ⟨by simp [encs],.inr ⟨g,24,_,rfl,hb,h,by simp,by simp [maxLen],rfl,by simp [encs,List.replicate]⟩⟩ (fun _ _=>trivial)
theorem arr_len {w:World} {g b:Nat} {ok:Nat→Prop} {x:List Bool} (h:Kd.R Kd.bool 88 w b ok (.slice (some ⟨g,0,none⟩) 24 24) x):x.length=24:=by
 obtain ⟨A,c,e⟩:=Kd.R_slice h
 injection e with _ e2 _
 exact e2.symm
mutual
def ancepsref40_Few.l0:Nat→List (S50)→List Bool→Int→Int→Int→Option (Bool)
 | 0,_,_,_,_,_=>none
 | k+1,x0,x3,x4,x5,x6=>if x6<(x0.length:Int) then (if 0≤x6 then ((ancepsref38_Few.f ((rd_T50 x0 x6).f0) ((rd_T50 x0 x6).f1)).bind fun t106=>(if t106=true then (ancepsref40_Few.l1 k x0 x3 x4 (wrap64 (x5+(((rd_T50 x0 x6).f1).length:Int))) x6 0) else (some false))) else (none)) else (if x4≤10 then (some (decide (x5≤2000))) else (some false))
def ancepsref40_Few.l1:Nat→List (S50)→List Bool→Int→Int→Int→Int→Option (Bool)
 | 0,_,_,_,_,_,_=>none
 | k+1,x0,x3,x4,x5,x6,x7=>if 0≤x6 then (if x6<(x0.length:Int) then (if x7<(((rd_T50 x0 x6).f0).length:Int) then (if 0≤x7 then (if (rd ((rd_T50 x0 x6).f0) x7)≥0 then (if (rd ((rd_T50 x0 x6).f0) x7)<24 then (if 0≤(rd ((rd_T50 x0 x6).f0) x7) then (if (rd ((rd_T50 x0 x6).f0) x7)<(x3.length:Int) then (if (rdOf false x3 (rd ((rd_T50 x0 x6).f0) x7)=true) then (ancepsref40_Few.l1 k x0 x3 x4 x5 x6 (wrap64 (x7+1))) else (ancepsref40_Few.l1 k x0 (x3.set ((rd ((rd_T50 x0 x6).f0) x7):Int).toNat true) (wrap64 (x4+1)) x5 x6 (wrap64 (x7+1)))) else (none)) else (none)) else (ancepsref40_Few.l1 k x0 x3 x4 x5 x6 (wrap64 (x7+1)))) else (ancepsref40_Few.l1 k x0 x3 x4 x5 x6 (wrap64 (x7+1)))) else (none)) else (ancepsref40_Few.l0 k x0 x3 x4 x5 (wrap64 (x6+1)))) else (none)) else (none)
end
def ancepsref40_Few.f (k:Nat) (l0:List (S50)):Option (Bool):=if (l0.length:Int)>18 then (some false) else (if 24≤281474976710656 then (ancepsref40_Few.l0 k l0 (List.replicate 24 false) 0 0 0) else (none))
theorem ancepsref40_Few.mono_l:∀ k,(∀ y0 y1 y2 y3 y4,LeO (ancepsref40_Few.l0 k y0 y1 y2 y3 y4) (ancepsref40_Few.l0 (k+1) y0 y1 y2 y3 y4))∧(∀ y0 y1 y2 y3 y4 y5,LeO (ancepsref40_Few.l1 k y0 y1 y2 y3 y4 y5) (ancepsref40_Few.l1 (k+1) y0 y1 y2 y3 y4 y5))
 | 0=>⟨fun _ _ _ _ _ r h=>by simp [ancepsref40_Few.l0] at h,fun _ _ _ _ _ _ r h=>by simp [ancepsref40_Few.l1] at h⟩
 | k+1=>by
  obtain ⟨ih0,ih1⟩:=ancepsref40_Few.mono_l k
  refine ⟨?_,?_⟩
  ·intro y0 y1 y2 y3 y4
   unfold ancepsref40_Few.l0
   repeat' first
   | (with_reducible exact ih0 _ _ _ _ _)
   | (with_reducible exact ih1 _ _ _ _ _ _)
   | (with_reducible exact LeO.refl _)
   | (with_reducible exact LeO.none _)
   | (with_reducible refine LeO.ite ?_ ?_)
   | (with_reducible refine LeO.bind ?_ (fun _=>?_))
   | exact LeO.none _
   | refine LeO.ite ?_ ?_
   | refine LeO.bind ?_ (fun _=>?_)
  ·intro y0 y1 y2 y3 y4 y5
   unfold ancepsref40_Few.l1
   repeat' first
   | (with_reducible exact ih0 _ _ _ _ _)
   | (with_reducible exact ih1 _ _ _ _ _ _)
   | (with_reducible exact LeO.refl _)
   | (with_reducible exact LeO.none _)
   | (with_reducible refine LeO.ite ?_ ?_)
   | (with_reducible refine LeO.bind ?_ (fun _=>?_))
   | exact LeO.none _
   | refine LeO.ite ?_ ?_
   | refine LeO.bind ?_ (fun _=>?_)
theorem ancepsref40_Few.mono:∀ a0 k,LeO (ancepsref40_Few.f k a0) (ancepsref40_Few.f (k+1) a0):=by
 intro a0 k
 obtain ⟨ih0,ih1⟩:=ancepsref40_Few.mono_l k
 unfold ancepsref40_Few.f
 repeat' first
   | (with_reducible exact ih0 _ _ _ _ _)
   | (with_reducible exact ih1 _ _ _ _ _ _)
   | (with_reducible exact LeO.refl _)
   | (with_reducible exact LeO.none _)
   | (with_reducible refine LeO.ite ?_ ?_)
   | (with_reducible refine LeO.bind ?_ (fun _=>?_))
   | exact LeO.none _
   | refine LeO.ite ?_ ?_
   | refine LeO.bind ?_ (fun _=>?_)
set_option maxHeartbeats 8000000 in
set_option maxRecDepth 100000 in
theorem ancepsref40_Few.calls (k:Nat) (A0:Option Addr) (c0:Nat) (l0:List (S50)) (r:Bool) (w:World) (hr0:Kd.C k50 w A0 l0.length l0) (hc0:l0.length≤c0) (h:ancepsref40_Few.f k l0=some r) :
  Calls Try.prog 38 #[.slice A0 l0.length c0] w fun e w'=>e=.returned (.bool r)∧Below w.heap.size w w':=by
 have hu50:=Try.underlying50
 have hu30:=Try.underlying30
 have hu3:=Try.underlying3
 have hu4:=Try.underlying4
 have HR0:=zA hr0
 have HC0:=zA hc0
 clear hr0 hc0
 have HB:=zA (Below.refl w.heap.size w)
 have H:(if (l0.length:Int)>18 then (some false) else (if 24≤281474976710656 then (ancepsref40_Few.l0 k l0 (List.replicate 24 false) 0 0 0) else (none)))=some r:=h
 clear h
 by_cases c2:(l0.length:Int)>18
 ·rw [if_pos c2] at H
  have c2b0:decide (18<(l0.length:Int))=true:=decide_eq_true c2
  have c2b1:decide (18<l0.length)=true:=decide_eq_true (by omega)
  clear c2
  obtain rfl:=Option.some.inj H
  go_enter Try.func38,Try.ntmps38
  go_wp2
  go_ret
  exact ⟨ze,by repeat (first|(with_reducible first|exact HB.out|apply below_alloc|apply pw_below_drewN|apply below_drew1)|exact HB.out)⟩
 ·rw [if_neg c2] at H
  have c2b0:decide (18<(l0.length:Int))=false:=decide_eq_false c2
  have c2b1:decide (18<l0.length)=false:=decide_eq_false (by omega)
  clear c2
  by_cases c3:24≤281474976710656
  ·rw [if_pos c3] at H
   have c3b0:=eq_true c3
   have c3b1:decide (24≤281474976710656)=true:=decide_eq_true c3
   clear c3
   obtain ⟨y102,hy102⟩:∃ y_:List Bool,y_=(List.replicate 24 false):=⟨_,rfl⟩
   replace H:(ancepsref40_Few.l0 k l0 y102 0 0 0)=some r:=by first|(rw [hy102];with_reducible exact H)|(have H2_:=(Option.bind_some _ _).symm.trans H;rw [hy102];with_reducible exact H2_)|(have H2_:=(Option.bind_some _ _).symm.trans H;with_reducible exact H2_)|with_reducible exact H|(rw [hy102];exact H)|exact H
   have Ny102:=zA hy102
   clear hy102
   have H':=zA H
   clear H
   go_enter Try.func38,Try.ntmps38
   go_wp2_with (first|((with_reducible refine gate_dst (N:=3) rfl ?_);refine box_event ?hg (N:=3) ?hd (cs:=#[.bool false,.bool false,.bool false,.bool false,.bool false,.bool false,.bool false,.bool false,.bool false,.bool false,.bool false,.bool false,.bool false,.bool false,.bool false,.bool false,.bool false,.bool false,.bool false,.bool false,.bool false,.bool false,.bool false,.bool false]) (t:=88) ?hr ?_;(case hd=>rfl);(case hg=>rfl);(case hr=>first|(go_simp;done)|(go_simp;rfl));intro ga hgA w4 hbox hb;have ho5:=arr_box hbox (Nat.le_of_eq hgA.symm);clear hbox hgA;rw [← Ny102.out] at ho5;have HO104:=zA (Kd.R_lower ho5 (below_size zB));replace HB:=zA (below_step zB hb);clear hb ho5))
   go_loopg [4,5,6] k (fun kq v4 v5 v6 w'=>∃ (x3_1:List Bool) (x4_1:Int) (x5_1:Int) (x6_1:Int),v4=.int .i64 x4_1∧v5=.int .i64 x5_1∧v6=.int .i64 x6_1∧Aside0 (ancepsref40_Few.l0 kq l0 x3_1 x4_1 x5_1 x6_1=some r)∧Aside0 (kq≤k)∧Aside0 (Kd.R Kd.bool 88 w' w.heap.size (fun _=>True) (.slice (some ⟨ga,0,none⟩) 24 24) x3_1)∧Aside0 (Below w.heap.size w w'))
   case atStart=>exact ⟨(y102),(0),(0),(0),zT,zT,zT,H',⟨Nat.le_refl _⟩,⟨by refine zr ?_;exact HO104.out⟩,⟨by repeat (first|(with_reducible first|exact HB.out|apply below_alloc|apply pw_below_drewN|apply below_drew1)|exact HB.out)⟩⟩
   case round=>
    clear H'
    try clear c2
    try clear c2b0
    try clear c2b1
    try clear c3
    try clear c3b0
    try clear c3b1
    obtain ⟨x3_1,x4_1,x5_1,x6_1,rfl,rfl,rfl,HA,HK1,HO_3,HB⟩:=hrel
    cases gk with
    | zero=>exact absurd HA.out (by simp [ancepsref40_Few.l0])
    | succ k1=>
     have H:=HA.out
     clear HA
     simp only [ancepsref40_Few.l0] at H
     by_cases c6:x6_1<(l0.length:Int)
     ·rw [if_pos c6] at H
      have c6b0:decide (x6_1<(l0.length:Int))=true:=decide_eq_true c6
      clear c6
      by_cases c7:0≤x6_1
      ·rw [if_pos c7] at H
       have c7b0:decide (0≤x6_1)=true:=decide_eq_true c7
       clear c7
       replace H:=Option.bind_eq_some_iff.mp H
       obtain ⟨t106,A80,H⟩:=H
       replace H:(if t106=true then (ancepsref40_Few.l1 k1 l0 x3_1 x4_1 (wrap64 (x5_1+(((rd_T50 l0 x6_1).f1).length:Int))) x6_1 0) else (some false))=some r:=H
       have A8:=zA A80
       clear A80
       have HC9:=zA H
       clear H
       have p105:0≤(x6_1:Int):=of_decide_eq_true zh
       have q105:x6_1<(l0.length:Int):=of_decide_eq_true zh
       obtain ⟨ad105,A105_0,c105_0,A105_1,c105_1,e105,hx105_0,hx105_1,hl105_0,hi105_0,hl105_1,hi105_1⟩:=at_T50 HR0.out x6_1 p105 q105
       cases e105
       replace hx105_0:=(HB.out.cell (World.block_lt_of_cell? w _ hx105_0)).trans hx105_0
       replace hx105_1:=(HB.out.cell (World.block_lt_of_cell? w _ hx105_1)).trans hx105_1
       have HR105_0:=zA hi105_0
       have HC105_0:=zA hl105_0
       clear hi105_0 hl105_0
       have HR105_1:=zA hi105_1
       have HC105_1:=zA hl105_1
       clear hi105_1 hl105_1
       replace p105:=eq_true p105
       replace q105:=eq_true q105
       go_upto_if 23 with (first|((with_reducible refine gate_callee (f:=73) rfl ?_);refine goesL_ (some 22) rfl rfl Try.func73 zK rfl #[.agg #[.slice A105_0 ((rd_T50 l0 x6_1).f0).length c105_0,.slice A105_1 ((rd_T50 l0 x6_1).f1).length c105_1]] rfl zM ?_;(with_reducible refine (ancepsref38_Few.calls _ _ ((rd_T50 l0 x6_1).f0) _ _ ((rd_T50 l0 x6_1).f1) t106 _ ?side1 ?side2 ?side3 ?side4 A8.out).mono ?_);(case side1=>exact zC (Kd.C_below HR105_0.out HB.out));(case side2=>exact HC105_0.out);(case side3=>exact zC (Kd.C_below HR105_1.out HB.out));(case side4=>exact HC105_1.out);rintro e w10 ⟨rfl,hb⟩;refine ⟨_,rfl,?_⟩;replace HO_3:=zA (Kd.R_below (zR HO_3) hb);replace HB:=zA (below_step zB hb);(try clear hb);(try clear hb2);(try clear hk);(try clear hi)))
       (try simp only [Act.put,zi,zs,zt])
       have H:=HC9.out
       clear HC9
       by_cases c11:t106=true
       ·subst c11
        have H1:(ancepsref40_Few.l1 k1 l0 x3_1 x4_1 (wrap64 (x5_1+(((rd_T50 l0 x6_1).f1).length:Int))) x6_1 0)=some r:=by rw [if_pos rfl] at H;exact H
        clear H
        have H:=H1
        clear H1
        have H':=zA H
        clear H
        have p107:0≤(x6_1:Int):=of_decide_eq_true zh
        have q107:x6_1<(l0.length:Int):=of_decide_eq_true zh
        obtain ⟨ad107,A107_0,c107_0,A107_1,c107_1,e107,hx107_0,hx107_1,hl107_0,hi107_0,hl107_1,hi107_1⟩:=at_T50 HR0.out x6_1 p107 q107
        obtain rfl:ad105=ad107:=(by injection e107)
        replace hx107_0:=(HB.out.cell (World.block_lt_of_cell? w _ hx107_0)).trans hx107_0
        replace hx107_1:=(HB.out.cell (World.block_lt_of_cell? w _ hx107_1)).trans hx107_1
        have HR107_0:=zA hi107_0
        have HC107_0:=zA hl107_0
        clear hi107_0 hl107_0
        have HR107_1:=zA hi107_1
        have HC107_1:=zA hl107_1
        clear hi107_1 hl107_1
        replace p107:=eq_true p107
        replace q107:=eq_true q107
        go_wp2
        go_loopg [4,7] k1 (fun kq v4 v7 w'=>∃ (x3_2:List Bool) (x4_2:Int) (x7_2:Int),v4=.int .i64 x4_2∧v7=.int .i64 x7_2∧Aside0 (ancepsref40_Few.l1 kq l0 x3_2 x4_2 (wrap64 (x5_1+(((rd_T50 l0 x6_1).f1).length:Int))) x6_1 x7_2=some r)∧Aside0 (kq≤k1)∧Aside0 (Kd.R Kd.bool 88 w' w.heap.size (fun _=>True) (.slice (some ⟨ga,0,none⟩) 24 24) x3_2)∧Aside0 (Below w.heap.size w w'))
        case atStart=>exact ⟨(x3_1),(x4_1),(0),zT,zT,H',⟨Nat.le_refl _⟩,⟨by refine zr ?_;exact HO_3.out⟩,⟨by repeat (first|(with_reducible first|exact HB.out|apply below_alloc|apply pw_below_drewN|apply below_drew1)|exact HB.out)⟩⟩
        case round=>
         clear H'
         try clear c2
         try clear c2b0
         try clear c2b1
         try clear c3
         try clear c3b0
         try clear c3b1
         try clear c6
         try clear c6b0
         try clear c7
         try clear c7b0
         try clear c11
         try clear hx105_0
         try clear hx105_1
         try clear hx107_0
         try clear hx107_1
         try clear p105
         try clear p107
         try clear q105
         try clear q107
         obtain ⟨x3_2,x4_2,x7_2,rfl,rfl,HA,HK2,HO_3,HB⟩:=hrel
         cases gk with
         | zero=>exact absurd HA.out (by simp [ancepsref40_Few.l1])
         | succ k2=>
          have H:=HA.out
          clear HA
          simp only [ancepsref40_Few.l1] at H
          by_cases c12:0≤x6_1
          ·rw [if_pos c12] at H
           have c12b0:decide (0≤x6_1)=true:=decide_eq_true c12
           clear c12
           (first|rw [c12b0]|(simp only [i64_w,i32_w];rw [c12b0])|skip)
           by_cases c13:x6_1<(l0.length:Int)
           ·rw [if_pos c13] at H
            have c13b0:decide (x6_1<(l0.length:Int))=true:=decide_eq_true c13
            clear c13
            by_cases c14:x7_2<(((rd_T50 l0 x6_1).f0).length:Int)
            ·rw [if_pos c14] at H
             have c14b0:decide (x7_2<(((rd_T50 l0 x6_1).f0).length:Int))=true:=decide_eq_true c14
             clear c14
             by_cases c15:0≤x7_2
             ·rw [if_pos c15] at H
              have c15b0:decide (0≤x7_2)=true:=decide_eq_true c15
              clear c15
              by_cases c16:(rd ((rd_T50 l0 x6_1).f0) x7_2)≥0
              ·rw [if_pos c16] at H
               have c16b0:decide (0≤(rd ((rd_T50 l0 x6_1).f0) x7_2))=true:=decide_eq_true c16
               clear c16
               by_cases c17:(rd ((rd_T50 l0 x6_1).f0) x7_2)<24
               ·rw [if_pos c17] at H
                have c17b0:decide ((rd ((rd_T50 l0 x6_1).f0) x7_2)<24)=true:=decide_eq_true c17
                clear c17
                by_cases c18:0≤(rd ((rd_T50 l0 x6_1).f0) x7_2)
                ·rw [if_pos c18] at H
                 have c18b0:decide (0≤(rd ((rd_T50 l0 x6_1).f0) x7_2))=true:=decide_eq_true c18
                 clear c18
                 by_cases c19:(rd ((rd_T50 l0 x6_1).f0) x7_2)<(x3_2.length:Int)
                 ·rw [if_pos c19] at H
                  have c19b0:decide ((rd ((rd_T50 l0 x6_1).f0) x7_2)<(x3_2.length:Int))=true:=decide_eq_true c19
                  clear c19
                  obtain ⟨bq20,hbq20⟩:∃ b_:Bool,b_=(rdOf false x3_2 (rd ((rd_T50 l0 x6_1).f0) x7_2)):=⟨_,rfl⟩
                  replace H:(if (bq20=true) then (ancepsref40_Few.l1 k2 l0 x3_2 x4_2 (wrap64 (x5_1+(((rd_T50 l0 x6_1).f1).length:Int))) x6_1 (wrap64 (x7_2+1))) else (ancepsref40_Few.l1 k2 l0 (x3_2.set ((rd ((rd_T50 l0 x6_1).f0) x7_2):Int).toNat true) (wrap64 (x4_2+1)) (wrap64 (x5_1+(((rd_T50 l0 x6_1).f1).length:Int))) x6_1 (wrap64 (x7_2+1))))=some r:=by rw [← hbq20] at H;exact H
                  have Nbq20:=zA hbq20
                  clear hbq20
                  by_cases c21:(bq20=true)
                  ·subst c21
                   have H1:(ancepsref40_Few.l1 k2 l0 x3_2 x4_2 (wrap64 (x5_1+(((rd_T50 l0 x6_1).f1).length:Int))) x6_1 (wrap64 (x7_2+1)))=some r:=by rw [if_pos rfl] at H;exact H
                   clear H
                   have H:=H1
                   clear H1
                   have H':=zA H
                   clear H
                   have p108:0≤(x6_1:Int):=of_decide_eq_true zh
                   have q108:x6_1<(l0.length:Int):=of_decide_eq_true zh
                   obtain ⟨ad108,A108_0,c108_0,A108_1,c108_1,e108,hx108_0,hx108_1,hl108_0,hi108_0,hl108_1,hi108_1⟩:=at_T50 HR0.out x6_1 p108 q108
                   obtain rfl:ad105=ad108:=(by injection e108)
                   replace hx108_0:=(HB.out.cell (World.block_lt_of_cell? w _ hx108_0)).trans hx108_0
                   replace hx108_1:=(HB.out.cell (World.block_lt_of_cell? w _ hx108_1)).trans hx108_1
                   have HR108_0:=zA hi108_0
                   have HC108_0:=zA hl108_0
                   clear hi108_0 hl108_0
                   have HR108_1:=zA hi108_1
                   have HC108_1:=zA hl108_1
                   clear hi108_1 hl108_1
                   replace p108:=eq_true p108
                   replace q108:=eq_true q108
                   have p109:0≤(x6_1:Int):=of_decide_eq_true zh
                   have q109:x6_1<(l0.length:Int):=of_decide_eq_true zh
                   obtain ⟨ad109,A109_0,c109_0,A109_1,c109_1,e109,hx109_0,hx109_1,hl109_0,hi109_0,hl109_1,hi109_1⟩:=at_T50 HR0.out x6_1 p109 q109
                   obtain rfl:ad105=ad109:=(by injection e109)
                   replace hx109_0:=(HB.out.cell (World.block_lt_of_cell? w _ hx109_0)).trans hx109_0
                   replace hx109_1:=(HB.out.cell (World.block_lt_of_cell? w _ hx109_1)).trans hx109_1
                   have HR109_0:=zA hi109_0
                   have HC109_0:=zA hl109_0
                   clear hi109_0 hl109_0
                   have HR109_1:=zA hi109_1
                   have HC109_1:=zA hl109_1
                   clear hi109_1 hl109_1
                   replace p109:=eq_true p109
                   replace q109:=eq_true q109
                   have ea_:=Option.some.inj (hx108_0.symm.trans hx109_0)
                   injection ea_ with ea_ en_ ec_
                   subst ea_
                   subst ec_
                   clear en_
                   have ea_:=Option.some.inj (hx108_1.symm.trans hx109_1)
                   injection ea_ with ea_ en_ ec_
                   subst ea_
                   subst ec_
                   clear en_
                   have p110:0≤(x7_2:Int):=of_decide_eq_true zh
                   have q110:x7_2<(((rd_T50 l0 x6_1).f0).length:Int):=of_decide_eq_true zh
                   obtain ⟨ad110,e110,hx110_0⟩:=Kd.at_int HR109_0.out x7_2 p110 q110
                   cases e110
                   replace hx110_0:=(HB.out.cell (World.block_lt_of_cell? w _ hx110_0)).trans hx110_0
                   replace p110:=eq_true p110
                   replace q110:=eq_true q110
                   have p111:0≤((rd ((rd_T50 l0 x6_1).f0) x7_2):Int):=of_decide_eq_true zh
                   have q111:(rd ((rd_T50 l0 x6_1).f0) x7_2)<(x3_2.length:Int):=of_decide_eq_true zh
                   have hl24_:=arr_len HO_3.out
                   have ha24_:((rd ((rd_T50 l0 x6_1).f0) x7_2)<24)=True:=eq_true (by omega)
                   have hx111_0:=(Kd.R_celln false HO_3.out (rd ((rd_T50 l0 x6_1).f0) x7_2) p111 (by omega)).1
                   (try rw [← Nbq20.out] at hx111_0)
                   replace p111:=eq_true p111
                   replace q111:=eq_true q111
                   go_wp2
                   go_roundg k2
                   case measure=>have:=HK1.out;have:=HK2.out;omega
                   case rel=>exact ⟨(x3_2),(x4_2),(wrap64 (x7_2+1)),zT,zT,H',⟨by have:=HK1.out;have:=HK2.out;omega⟩,⟨by refine zr ?_;exact HO_3.out⟩,⟨by repeat (first|(with_reducible first|exact HB.out|apply below_alloc|apply pw_below_drewN|apply below_drew1)|exact HB.out)⟩⟩
                  ·replace c21:=Bool.eq_false_iff.mpr c21
                   subst c21
                   have H1:(ancepsref40_Few.l1 k2 l0 (x3_2.set ((rd ((rd_T50 l0 x6_1).f0) x7_2):Int).toNat true) (wrap64 (x4_2+1)) (wrap64 (x5_1+(((rd_T50 l0 x6_1).f1).length:Int))) x6_1 (wrap64 (x7_2+1)))=some r:=by rw [if_neg (show ¬ (false=true) by decide)] at H;exact H
                   clear H
                   have H:=H1
                   clear H1
                   obtain ⟨y112,hy112⟩:∃ y_:List Bool,y_=(x3_2.set ((rd ((rd_T50 l0 x6_1).f0) x7_2):Int).toNat true):=⟨_,rfl⟩
                   replace H:(ancepsref40_Few.l1 k2 l0 y112 (wrap64 (x4_2+1)) (wrap64 (x5_1+(((rd_T50 l0 x6_1).f1).length:Int))) x6_1 (wrap64 (x7_2+1)))=some r:=by first|(rw [hy112];with_reducible exact H)|(have H2_:=(Option.bind_some _ _).symm.trans H;rw [hy112];with_reducible exact H2_)|(have H2_:=(Option.bind_some _ _).symm.trans H;with_reducible exact H2_)|with_reducible exact H|(rw [hy112];exact H)|exact H
                   have Ny112:=zA hy112
                   clear hy112
                   have H':=zA H
                   clear H
                   have p108:0≤(x6_1:Int):=of_decide_eq_true zh
                   have q108:x6_1<(l0.length:Int):=of_decide_eq_true zh
                   obtain ⟨ad108,A108_0,c108_0,A108_1,c108_1,e108,hx108_0,hx108_1,hl108_0,hi108_0,hl108_1,hi108_1⟩:=at_T50 HR0.out x6_1 p108 q108
                   obtain rfl:ad105=ad108:=(by injection e108)
                   replace hx108_0:=(HB.out.cell (World.block_lt_of_cell? w _ hx108_0)).trans hx108_0
                   replace hx108_1:=(HB.out.cell (World.block_lt_of_cell? w _ hx108_1)).trans hx108_1
                   have HR108_0:=zA hi108_0
                   have HC108_0:=zA hl108_0
                   clear hi108_0 hl108_0
                   have HR108_1:=zA hi108_1
                   have HC108_1:=zA hl108_1
                   clear hi108_1 hl108_1
                   replace p108:=eq_true p108
                   replace q108:=eq_true q108
                   have p109:0≤(x6_1:Int):=of_decide_eq_true zh
                   have q109:x6_1<(l0.length:Int):=of_decide_eq_true zh
                   obtain ⟨ad109,A109_0,c109_0,A109_1,c109_1,e109,hx109_0,hx109_1,hl109_0,hi109_0,hl109_1,hi109_1⟩:=at_T50 HR0.out x6_1 p109 q109
                   obtain rfl:ad105=ad109:=(by injection e109)
                   replace hx109_0:=(HB.out.cell (World.block_lt_of_cell? w _ hx109_0)).trans hx109_0
                   replace hx109_1:=(HB.out.cell (World.block_lt_of_cell? w _ hx109_1)).trans hx109_1
                   have HR109_0:=zA hi109_0
                   have HC109_0:=zA hl109_0
                   clear hi109_0 hl109_0
                   have HR109_1:=zA hi109_1
                   have HC109_1:=zA hl109_1
                   clear hi109_1 hl109_1
                   replace p109:=eq_true p109
                   replace q109:=eq_true q109
                   have ea_:=Option.some.inj (hx108_0.symm.trans hx109_0)
                   injection ea_ with ea_ en_ ec_
                   subst ea_
                   subst ec_
                   clear en_
                   have ea_:=Option.some.inj (hx108_1.symm.trans hx109_1)
                   injection ea_ with ea_ en_ ec_
                   subst ea_
                   subst ec_
                   clear en_
                   have p110:0≤(x7_2:Int):=of_decide_eq_true zh
                   have q110:x7_2<(((rd_T50 l0 x6_1).f0).length:Int):=of_decide_eq_true zh
                   obtain ⟨ad110,e110,hx110_0⟩:=Kd.at_int HR109_0.out x7_2 p110 q110
                   cases e110
                   replace hx110_0:=(HB.out.cell (World.block_lt_of_cell? w _ hx110_0)).trans hx110_0
                   replace p110:=eq_true p110
                   replace q110:=eq_true q110
                   have p111:0≤((rd ((rd_T50 l0 x6_1).f0) x7_2):Int):=of_decide_eq_true zh
                   have q111:(rd ((rd_T50 l0 x6_1).f0) x7_2)<(x3_2.length:Int):=of_decide_eq_true zh
                   have hl24_:=arr_len HO_3.out
                   have ha24_:((rd ((rd_T50 l0 x6_1).f0) x7_2)<24)=True:=eq_true (by omega)
                   have hx111_0:=(Kd.R_celln false HO_3.out (rd ((rd_T50 l0 x6_1).f0) x7_2) p111 (by omega)).1
                   (try rw [← Nbq20.out] at hx111_0)
                   replace p111:=eq_true p111
                   replace q111:=eq_true q111
                   have p23:0≤((rd ((rd_T50 l0 x6_1).f0) x7_2):Int):=of_decide_eq_true zh
                   have q23:((rd ((rd_T50 l0 x6_1).f0) x7_2):Int)<24:=by first|omega|exact of_decide_eq_true zh|(have h2_:(rd ((rd_T50 l0 x6_1).f0) x7_2)<(x3_2.length:Int):=of_decide_eq_true zh;have h3_:=arr_len HO_3.out;omega)
                   have hl24b_:=arr_len HO_3.out
                   have gb23:=Kd.R_base HO_3.out ga rfl
                   have GB23:=zA gb23
                   clear gb23
                   (first|simp only [add_plain] at hx111_0|skip)
                   obtain ⟨hx23_0,hf23_0⟩:=Kd.R_celln false HO_3.out ((rd ((rd_T50 l0 x6_1).f0) x7_2):Int) p23 q23
                   replace p23:=eq_true p23
                   replace q23:=eq_true q23
                   have HP25:=Kd.R_putg HO_3.out ((rd ((rd_T50 l0 x6_1).f0) x7_2):Int) true
                   go_wp2_with (first|((with_reducible refine gate_store (t:=4) (p:=63) rfl ?_);refine store_event (t:=4) (p:=63) (v:=?vo_w26) (w1:=(wr.setCell ⟨ga,((rd ((rd_T50 l0 x6_1).f0) x7_2):Int).toNat,none⟩ (.bool true))) ?hg ?ho ?hn ?hr ?_;(case ho=>rfl);(case hg=>rfl);(case hn=>rfl);(case hr=>first|(go_simp;done)|(go_simp;rfl));intro w26 hw;have hg:wr.grownBy w26 (some ga):=(by rw [hw];exact HP25.2);have hp_:Kd.R Kd.bool 88 w26 w.heap.size (fun _=>True) (.slice (some ⟨ga,0,none⟩) 24 24) y112:=(by rw [hw,Ny112.out];exact HP25.1);clear HP25;replace HO_3:=zA (hp_);replace HB:=zA ((by rw [hw];exact below_set (HB.out) GB23.out:Below w.heap.size w w26));clear hg hw hp_))
                   go_roundg k2
                   case measure=>have:=HK1.out;have:=HK2.out;omega
                   case rel=>exact ⟨(y112),(wrap64 (x4_2+1)),(wrap64 (x7_2+1)),zT,zT,H',⟨by have:=HK1.out;have:=HK2.out;omega⟩,⟨by refine zr ?_;exact HO_3.out⟩,⟨by repeat (first|(with_reducible first|exact HB.out|apply below_alloc|apply pw_below_drewN|apply below_drew1)|exact HB.out)⟩⟩
                 ·rw [if_neg c19] at H
                  exact absurd H (by simp)
                ·rw [if_neg c18] at H
                 exact absurd H (by simp)
               ·rw [if_neg c17] at H
                have c17b0:decide ((rd ((rd_T50 l0 x6_1).f0) x7_2)<24)=false:=decide_eq_false c17
                clear c17
                have H':=zA H
                clear H
                have p108:0≤(x6_1:Int):=of_decide_eq_true zh
                have q108:x6_1<(l0.length:Int):=of_decide_eq_true zh
                obtain ⟨ad108,A108_0,c108_0,A108_1,c108_1,e108,hx108_0,hx108_1,hl108_0,hi108_0,hl108_1,hi108_1⟩:=at_T50 HR0.out x6_1 p108 q108
                obtain rfl:ad105=ad108:=(by injection e108)
                replace hx108_0:=(HB.out.cell (World.block_lt_of_cell? w _ hx108_0)).trans hx108_0
                replace hx108_1:=(HB.out.cell (World.block_lt_of_cell? w _ hx108_1)).trans hx108_1
                have HR108_0:=zA hi108_0
                have HC108_0:=zA hl108_0
                clear hi108_0 hl108_0
                have HR108_1:=zA hi108_1
                have HC108_1:=zA hl108_1
                clear hi108_1 hl108_1
                replace p108:=eq_true p108
                replace q108:=eq_true q108
                have p109:0≤(x6_1:Int):=of_decide_eq_true zh
                have q109:x6_1<(l0.length:Int):=of_decide_eq_true zh
                obtain ⟨ad109,A109_0,c109_0,A109_1,c109_1,e109,hx109_0,hx109_1,hl109_0,hi109_0,hl109_1,hi109_1⟩:=at_T50 HR0.out x6_1 p109 q109
                obtain rfl:ad105=ad109:=(by injection e109)
                replace hx109_0:=(HB.out.cell (World.block_lt_of_cell? w _ hx109_0)).trans hx109_0
                replace hx109_1:=(HB.out.cell (World.block_lt_of_cell? w _ hx109_1)).trans hx109_1
                have HR109_0:=zA hi109_0
                have HC109_0:=zA hl109_0
                clear hi109_0 hl109_0
                have HR109_1:=zA hi109_1
                have HC109_1:=zA hl109_1
                clear hi109_1 hl109_1
                replace p109:=eq_true p109
                replace q109:=eq_true q109
                have ea_:=Option.some.inj (hx108_0.symm.trans hx109_0)
                injection ea_ with ea_ en_ ec_
                subst ea_
                subst ec_
                clear en_
                have ea_:=Option.some.inj (hx108_1.symm.trans hx109_1)
                injection ea_ with ea_ en_ ec_
                subst ea_
                subst ec_
                clear en_
                have p110:0≤(x7_2:Int):=of_decide_eq_true zh
                have q110:x7_2<(((rd_T50 l0 x6_1).f0).length:Int):=of_decide_eq_true zh
                obtain ⟨ad110,e110,hx110_0⟩:=Kd.at_int HR109_0.out x7_2 p110 q110
                cases e110
                replace hx110_0:=(HB.out.cell (World.block_lt_of_cell? w _ hx110_0)).trans hx110_0
                replace p110:=eq_true p110
                replace q110:=eq_true q110
                go_wp2
                go_roundg k2
                case measure=>have:=HK1.out;have:=HK2.out;omega
                case rel=>exact ⟨(x3_2),(x4_2),(wrap64 (x7_2+1)),zT,zT,H',⟨by have:=HK1.out;have:=HK2.out;omega⟩,⟨by refine zr ?_;exact HO_3.out⟩,⟨by repeat (first|(with_reducible first|exact HB.out|apply below_alloc|apply pw_below_drewN|apply below_drew1)|exact HB.out)⟩⟩
              ·rw [if_neg c16] at H
               have c16b0:decide (0≤(rd ((rd_T50 l0 x6_1).f0) x7_2))=false:=decide_eq_false c16
               clear c16
               have H':=zA H
               clear H
               have p108:0≤(x6_1:Int):=of_decide_eq_true zh
               have q108:x6_1<(l0.length:Int):=of_decide_eq_true zh
               obtain ⟨ad108,A108_0,c108_0,A108_1,c108_1,e108,hx108_0,hx108_1,hl108_0,hi108_0,hl108_1,hi108_1⟩:=at_T50 HR0.out x6_1 p108 q108
               obtain rfl:ad105=ad108:=(by injection e108)
               replace hx108_0:=(HB.out.cell (World.block_lt_of_cell? w _ hx108_0)).trans hx108_0
               replace hx108_1:=(HB.out.cell (World.block_lt_of_cell? w _ hx108_1)).trans hx108_1
               have HR108_0:=zA hi108_0
               have HC108_0:=zA hl108_0
               clear hi108_0 hl108_0
               have HR108_1:=zA hi108_1
               have HC108_1:=zA hl108_1
               clear hi108_1 hl108_1
               replace p108:=eq_true p108
               replace q108:=eq_true q108
               have p109:0≤(x6_1:Int):=of_decide_eq_true zh
               have q109:x6_1<(l0.length:Int):=of_decide_eq_true zh
               obtain ⟨ad109,A109_0,c109_0,A109_1,c109_1,e109,hx109_0,hx109_1,hl109_0,hi109_0,hl109_1,hi109_1⟩:=at_T50 HR0.out x6_1 p109 q109
               obtain rfl:ad105=ad109:=(by injection e109)
               replace hx109_0:=(HB.out.cell (World.block_lt_of_cell? w _ hx109_0)).trans hx109_0
               replace hx109_1:=(HB.out.cell (World.block_lt_of_cell? w _ hx109_1)).trans hx109_1
               have HR109_0:=zA hi109_0
               have HC109_0:=zA hl109_0
               clear hi109_0 hl109_0
               have HR109_1:=zA hi109_1
               have HC109_1:=zA hl109_1
               clear hi109_1 hl109_1
               replace p109:=eq_true p109
               replace q109:=eq_true q109
               have ea_:=Option.some.inj (hx108_0.symm.trans hx109_0)
               injection ea_ with ea_ en_ ec_
               subst ea_
               subst ec_
               clear en_
               have ea_:=Option.some.inj (hx108_1.symm.trans hx109_1)
               injection ea_ with ea_ en_ ec_
               subst ea_
               subst ec_
               clear en_
               have p110:0≤(x7_2:Int):=of_decide_eq_true zh
               have q110:x7_2<(((rd_T50 l0 x6_1).f0).length:Int):=of_decide_eq_true zh
               obtain ⟨ad110,e110,hx110_0⟩:=Kd.at_int HR109_0.out x7_2 p110 q110
               cases e110
               replace hx110_0:=(HB.out.cell (World.block_lt_of_cell? w _ hx110_0)).trans hx110_0
               replace p110:=eq_true p110
               replace q110:=eq_true q110
               go_wp2
               go_roundg k2
               case measure=>have:=HK1.out;have:=HK2.out;omega
               case rel=>exact ⟨(x3_2),(x4_2),(wrap64 (x7_2+1)),zT,zT,H',⟨by have:=HK1.out;have:=HK2.out;omega⟩,⟨by refine zr ?_;exact HO_3.out⟩,⟨by repeat (first|(with_reducible first|exact HB.out|apply below_alloc|apply pw_below_drewN|apply below_drew1)|exact HB.out)⟩⟩
             ·rw [if_neg c15] at H
              exact absurd H (by simp)
            ·rw [if_neg c14] at H
             have c14b0:decide (x7_2<(((rd_T50 l0 x6_1).f0).length:Int))=false:=decide_eq_false c14
             clear c14
             have H':=zA H
             clear H
             have p108:0≤(x6_1:Int):=of_decide_eq_true zh
             have q108:x6_1<(l0.length:Int):=of_decide_eq_true zh
             obtain ⟨ad108,A108_0,c108_0,A108_1,c108_1,e108,hx108_0,hx108_1,hl108_0,hi108_0,hl108_1,hi108_1⟩:=at_T50 HR0.out x6_1 p108 q108
             obtain rfl:ad105=ad108:=(by injection e108)
             replace hx108_0:=(HB.out.cell (World.block_lt_of_cell? w _ hx108_0)).trans hx108_0
             replace hx108_1:=(HB.out.cell (World.block_lt_of_cell? w _ hx108_1)).trans hx108_1
             have HR108_0:=zA hi108_0
             have HC108_0:=zA hl108_0
             clear hi108_0 hl108_0
             have HR108_1:=zA hi108_1
             have HC108_1:=zA hl108_1
             clear hi108_1 hl108_1
             replace p108:=eq_true p108
             replace q108:=eq_true q108
             go_wp2
             go_roundg k2
             case measure=>have:=HK1.out;have:=HK2.out;omega
             case rel=>exact ⟨(x3_2),(x4_2),((wrap64 (x5_1+(((rd_T50 l0 x6_1).f1).length:Int)))),(wrap64 (x6_1+1)),zT,zT,zT,H',⟨by have:=HK1.out;have:=HK2.out;omega⟩,⟨by refine zr ?_;exact HO_3.out⟩,⟨by repeat (first|(with_reducible first|exact HB.out|apply below_alloc|apply pw_below_drewN|apply below_drew1)|exact HB.out)⟩⟩
           ·rw [if_neg c13] at H
            exact absurd H (by simp)
          ·rw [if_neg c12] at H
           exact absurd H (by simp)
       ·replace c11:=Bool.eq_false_iff.mpr c11
        subst c11
        have H1:(some false)=some r:=by rw [if_neg (show ¬ (false=true) by decide)] at H;exact H
        clear H
        have H:=H1
        clear H1
        obtain rfl:=Option.some.inj H
        go_wp2
        go_ret
        exact ⟨ze,by repeat (first|(with_reducible first|exact HB.out|apply below_alloc|apply pw_below_drewN|apply below_drew1)|exact HB.out)⟩
      ·rw [if_neg c7] at H
       exact absurd H (by simp)
     ·rw [if_neg c6] at H
      have c6b0:decide (x6_1<(l0.length:Int))=false:=decide_eq_false c6
      clear c6
      by_cases c27:x4_1≤10
      ·rw [if_pos c27] at H
       have c27b0:decide (x4_1≤10)=true:=decide_eq_true c27
       clear c27
       obtain rfl:=Option.some.inj H
       go_wp2
       go_ret
       exact ⟨ze,by repeat (first|(with_reducible first|exact HB.out|apply below_alloc|apply pw_below_drewN|apply below_drew1)|exact HB.out)⟩
      ·rw [if_neg c27] at H
       have c27b0:decide (x4_1≤10)=false:=decide_eq_false c27
       clear c27
       obtain rfl:=Option.some.inj H
       go_wp2
       go_ret
       exact ⟨ze,by repeat (first|(with_reducible first|exact HB.out|apply below_alloc|apply pw_below_drewN|apply below_drew1)|exact HB.out)⟩
  ·rw [if_neg c3] at H
   exact absurd H (by simp)
def ancepsref40_Valid.l0:Nat→List (S50)→Int→Option (Int)
 | 0,_,_=>none
 | k+1,x0,x3=>if x3<(x0.length:Int) then (if 0≤x3 then ((ancepsref38_Valid.f k ((rd_T50 x0 x3).f0) ((rd_T50 x0 x3).f1)).bind fun t527=>(if t527=0 then (ancepsref40_Valid.l0 k x0 (wrap64 (x3+1))) else (some t527))) else (none)) else (some 0)
def ancepsref40_Valid.f (k:Nat) (l0:List (S50)):Option (Int):=if (l0.length:Int)>16 then (some 3) else (ancepsref40_Valid.l0 k l0 0)
theorem ancepsref40_Valid.mono_l:∀ k,(∀ y0 y1,LeO (ancepsref40_Valid.l0 k y0 y1) (ancepsref40_Valid.l0 (k+1) y0 y1))
 | 0=>fun _ _ r h=>by simp [ancepsref40_Valid.l0] at h
 | k+1=>by
  have ih0:=ancepsref40_Valid.mono_l k
  ·intro y0 y1
   unfold ancepsref40_Valid.l0
   repeat' first
   | (with_reducible exact ih0 _ _)
   | (with_reducible exact ancepsref38_Valid.mono _ _ _)
   | (with_reducible exact LeO.refl _)
   | (with_reducible exact LeO.none _)
   | (with_reducible refine LeO.ite ?_ ?_)
   | (with_reducible refine LeO.bind ?_ (fun _=>?_))
   | exact LeO.none _
   | refine LeO.ite ?_ ?_
   | refine LeO.bind ?_ (fun _=>?_)
theorem ancepsref40_Valid.mono:∀ a0 k,LeO (ancepsref40_Valid.f k a0) (ancepsref40_Valid.f (k+1) a0):=by
 intro a0 k
 have ih0:=ancepsref40_Valid.mono_l k
 unfold ancepsref40_Valid.f
 repeat' first
   | (with_reducible exact ih0 _ _)
   | (with_reducible exact ancepsref38_Valid.mono _ _ _)
   | (with_reducible exact LeO.refl _)
   | (with_reducible exact LeO.none _)
   | (with_reducible refine LeO.ite ?_ ?_)
   | (with_reducible refine LeO.bind ?_ (fun _=>?_))
   | exact LeO.none _
   | refine LeO.ite ?_ ?_
   | refine LeO.bind ?_ (fun _=>?_)
set_option maxHeartbeats 8000000 in
set_option maxRecDepth 100000 in
theorem ancepsref40_Valid.calls (k:Nat) (A0:Option Addr) (c0:Nat) (l0:List (S50)) (r:Int) (w:World) (hr0:Kd.C k50 w A0 l0.length l0) (hc0:l0.length≤c0) (h:ancepsref40_Valid.f k l0=some r) :
  Calls Try.prog 74 #[.slice A0 l0.length c0] w fun e w'=>e=.returned (.int .i64 r)∧Below w.heap.size w w':=by
 have hu50:=Try.underlying50
 have HR0:=zA hr0
 have HC0:=zA hc0
 clear hr0 hc0
 have HB:=zA (Below.refl w.heap.size w)
 have H:(if (l0.length:Int)>16 then (some 3) else (ancepsref40_Valid.l0 k l0 0))=some r:=h
 clear h
 by_cases c2:(l0.length:Int)>16
 ·rw [if_pos c2] at H
  have c2b0:decide (16<(l0.length:Int))=true:=decide_eq_true c2
  have c2b1:decide (16<l0.length)=true:=decide_eq_true (by omega)
  clear c2
  obtain rfl:=Option.some.inj H
  go_enter Try.func74,Try.ntmps74
  go_wp2
  go_ret
  exact ⟨ze,by repeat (first|(with_reducible first|exact HB.out|apply below_alloc|apply pw_below_drewN|apply below_drew1)|exact HB.out)⟩
 ·rw [if_neg c2] at H
  have c2b0:decide (16<(l0.length:Int))=false:=decide_eq_false c2
  have c2b1:decide (16<l0.length)=false:=decide_eq_false (by omega)
  clear c2
  have H':=zA H
  clear H
  go_enter Try.func74,Try.ntmps74
  go_wp2
  go_loopg [3] k (fun kq v3 w'=>∃ (x3_1:Int),v3=.int .i64 x3_1∧Aside0 (ancepsref40_Valid.l0 kq l0 x3_1=some r)∧Aside0 (kq≤k)∧Aside0 (Below w.heap.size w w'))
  case atStart=>exact ⟨(0),zT,H',⟨Nat.le_refl _⟩,⟨by repeat (first|(with_reducible first|exact HB.out|apply below_alloc|apply pw_below_drewN|apply below_drew1)|exact HB.out)⟩⟩
  case round=>
   clear H'
   try clear c2
   try clear c2b0
   try clear c2b1
   obtain ⟨x3_1,rfl,HA,HK1,HB⟩:=hrel
   cases gk with
   | zero=>exact absurd HA.out (by simp [ancepsref40_Valid.l0])
   | succ k1=>
    have H:=HA.out
    clear HA
    simp only [ancepsref40_Valid.l0] at H
    by_cases c3:x3_1<(l0.length:Int)
    ·rw [if_pos c3] at H
     have c3b0:decide (x3_1<(l0.length:Int))=true:=decide_eq_true c3
     clear c3
     by_cases c4:0≤x3_1
     ·rw [if_pos c4] at H
      have c4b0:decide (0≤x3_1)=true:=decide_eq_true c4
      clear c4
      replace H:=Option.bind_eq_some_iff.mp H
      obtain ⟨t527,A50,H⟩:=H
      replace H:(if t527=0 then (ancepsref40_Valid.l0 k1 l0 (wrap64 (x3_1+1))) else (some t527))=some r:=H
      have A5:=zA A50
      clear A50
      have HC6:=zA H
      clear H
      have p526:0≤(x3_1:Int):=of_decide_eq_true zh
      have q526:x3_1<(l0.length:Int):=of_decide_eq_true zh
      obtain ⟨ad526,A526_0,c526_0,A526_1,c526_1,e526,hx526_0,hx526_1,hl526_0,hi526_0,hl526_1,hi526_1⟩:=at_T50 HR0.out x3_1 p526 q526
      cases e526
      replace hx526_0:=(HB.out.cell (World.block_lt_of_cell? w _ hx526_0)).trans hx526_0
      replace hx526_1:=(HB.out.cell (World.block_lt_of_cell? w _ hx526_1)).trans hx526_1
      have HR526_0:=zA hi526_0
      have HC526_0:=zA hl526_0
      clear hi526_0 hl526_0
      have HR526_1:=zA hi526_1
      have HC526_1:=zA hl526_1
      clear hi526_1 hl526_1
      replace p526:=eq_true p526
      replace q526:=eq_true q526
      go_upto_if 20 with (first|((with_reducible refine gate_callee (f:=60) rfl ?_);refine goesL_ (some 18) rfl rfl Try.func60 zK rfl #[.agg #[.slice A526_0 ((rd_T50 l0 x3_1).f0).length c526_0,.slice A526_1 ((rd_T50 l0 x3_1).f1).length c526_1]] rfl zM ?_;(with_reducible refine (ancepsref38_Valid.calls k1 _ _ ((rd_T50 l0 x3_1).f0) _ _ ((rd_T50 l0 x3_1).f1) t527 _ ?side1 ?side2 ?side3 ?side4 A5.out).mono ?_);(case side1=>exact zC (Kd.C_below HR526_0.out HB.out));(case side2=>exact HC526_0.out);(case side3=>exact zC (Kd.C_below HR526_1.out HB.out));(case side4=>exact HC526_1.out);rintro e w7 ⟨rfl,hb⟩;refine ⟨_,rfl,?_⟩;replace HB:=zA (below_step zB hb);(try clear hb);(try clear hb2);(try clear hk);(try clear hi)))
      (try simp only [Act.put,zi,zs,zt])
      have H:=HC6.out
      clear HC6
      by_cases c8:t527=0
      ·rw [if_pos c8] at H
       have c8b0:(t527 == 0)=true:=beq_iff_eq.mpr c8
       have c8b1:(t527 != 0)=false:=bne_eq_false_iff_eq.mpr c8
       clear c8
       (first|rw [c8b0]|(simp only [i64_w,i32_w];rw [c8b0])|skip)
       (try rw [c8b1])
       have H':=zA H
       clear H
       go_wp2
       go_roundg k1
       case measure=>have:=HK1.out;omega
       case rel=>exact ⟨(wrap64 (x3_1+1)),zT,H',⟨by have:=HK1.out;omega⟩,⟨by repeat (first|(with_reducible first|exact HB.out|apply below_alloc|apply pw_below_drewN|apply below_drew1)|exact HB.out)⟩⟩
      ·rw [if_neg c8] at H
       have c8b0:(t527 == 0)=false:=beq_eq_false_iff_ne.mpr c8
       have c8b1:(t527 != 0)=true:=bne_iff_ne.mpr c8
       (first|rw [c8b0]|(simp only [i64_w,i32_w];rw [c8b0])|skip)
       (try rw [c8b1])
       obtain rfl:=Option.some.inj H
       go_wp2
       go_ret
       exact ⟨ze,by repeat (first|(with_reducible first|exact HB.out|apply below_alloc|apply pw_below_drewN|apply below_drew1)|exact HB.out)⟩
     ·rw [if_neg c4] at H
      exact absurd H (by simp)
    ·rw [if_neg c3] at H
     have c3b0:decide (x3_1<(l0.length:Int))=false:=decide_eq_false c3
     clear c3
     obtain rfl:=Option.some.inj H
     go_wp2
     go_ret
     exact ⟨ze,by repeat (first|(with_reducible first|exact HB.out|apply below_alloc|apply pw_below_drewN|apply below_drew1)|exact HB.out)⟩
mutual
def ancepsref40_Vars.l0:Nat→List (S50)→List Bool→Int→Option (List Int)
 | 0,_,_,_=>none
 | k+1,x0,x3,x4=>if x4<(x0.length:Int) then (ancepsref40_Vars.l1 k x0 x3 x4 0) else (ancepsref40_Vars.l2 k x3 ([]:List Int) 0)
def ancepsref40_Vars.l1:Nat→List (S50)→List Bool→Int→Int→Option (List Int)
 | 0,_,_,_,_=>none
 | k+1,x0,x3,x4,x5=>if 0≤x4 then (if x4<(x0.length:Int) then (if x5<(((rd_T50 x0 x4).f0).length:Int) then (if 0≤x5 then (if 0≤(rd ((rd_T50 x0 x4).f0) x5) then (if (rd ((rd_T50 x0 x4).f0) x5)<(x3.length:Int) then (ancepsref40_Vars.l1 k x0 (x3.set ((rd ((rd_T50 x0 x4).f0) x5):Int).toNat true) x4 (wrap64 (x5+1))) else (none)) else (none)) else (none)) else (ancepsref40_Vars.l0 k x0 x3 (wrap64 (x4+1)))) else (none)) else (none)
def ancepsref40_Vars.l2:Nat→List Bool→List Int→Int→Option (List Int)
 | 0,_,_,_=>none
 | k+1,x3,x6,x7=>if x7<24 then (if 0≤x7 then (if x7<(x3.length:Int) then (if rdOf false x3 x7=true then (if x6.length<17592186044416 then (ancepsref40_Vars.l2 k x3 (x6++[x7]) (wrap64 (x7+1))) else (none)) else (ancepsref40_Vars.l2 k x3 x6 (wrap64 (x7+1)))) else (none)) else (none)) else (some x6)
end
def ancepsref40_Vars.f (k:Nat) (l0:List (S50)):Option (List Int):=(ancepsref40_Valid.f k l0).bind fun t125=>(if t125=0 then (if 24≤281474976710656 then (ancepsref40_Vars.l0 k l0 (List.replicate 24 false) 0) else (none)) else (some ([]:List Int)))
theorem ancepsref40_Vars.mono_l:∀ k,(∀ y0 y1 y2,LeO (ancepsref40_Vars.l0 k y0 y1 y2) (ancepsref40_Vars.l0 (k+1) y0 y1 y2))∧(∀ y0 y1 y2 y3,LeO (ancepsref40_Vars.l1 k y0 y1 y2 y3) (ancepsref40_Vars.l1 (k+1) y0 y1 y2 y3))∧(∀ y0 y1 y2,LeO (ancepsref40_Vars.l2 k y0 y1 y2) (ancepsref40_Vars.l2 (k+1) y0 y1 y2))
 | 0=>⟨fun _ _ _ r h=>by simp [ancepsref40_Vars.l0] at h,fun _ _ _ _ r h=>by simp [ancepsref40_Vars.l1] at h,fun _ _ _ r h=>by simp [ancepsref40_Vars.l2] at h⟩
 | k+1=>by
  obtain ⟨ih0,ih1,ih2⟩:=ancepsref40_Vars.mono_l k
  refine ⟨?_,?_,?_⟩
  ·intro y0 y1 y2
   unfold ancepsref40_Vars.l0
   repeat' first
   | (with_reducible exact ih0 _ _ _)
   | (with_reducible exact ih1 _ _ _ _)
   | (with_reducible exact ih2 _ _ _)
   | (with_reducible exact ancepsref40_Valid.mono _ _)
   | (with_reducible exact LeO.refl _)
   | (with_reducible exact LeO.none _)
   | (with_reducible refine LeO.ite ?_ ?_)
   | (with_reducible refine LeO.bind ?_ (fun _=>?_))
   | exact LeO.none _
   | refine LeO.ite ?_ ?_
   | refine LeO.bind ?_ (fun _=>?_)
  ·intro y0 y1 y2 y3
   unfold ancepsref40_Vars.l1
   repeat' first
   | (with_reducible exact ih0 _ _ _)
   | (with_reducible exact ih1 _ _ _ _)
   | (with_reducible exact ih2 _ _ _)
   | (with_reducible exact ancepsref40_Valid.mono _ _)
   | (with_reducible exact LeO.refl _)
   | (with_reducible exact LeO.none _)
   | (with_reducible refine LeO.ite ?_ ?_)
   | (with_reducible refine LeO.bind ?_ (fun _=>?_))
   | exact LeO.none _
   | refine LeO.ite ?_ ?_
   | refine LeO.bind ?_ (fun _=>?_)
  ·intro y0 y1 y2
   unfold ancepsref40_Vars.l2
   repeat' first
   | (with_reducible exact ih0 _ _ _)
   | (with_reducible exact ih1 _ _ _ _)
   | (with_reducible exact ih2 _ _ _)
   | (with_reducible exact ancepsref40_Valid.mono _ _)
   | (with_reducible exact LeO.refl _)
   | (with_reducible exact LeO.none _)
   | (with_reducible refine LeO.ite ?_ ?_)
   | (with_reducible refine LeO.bind ?_ (fun _=>?_))
   | exact LeO.none _
   | refine LeO.ite ?_ ?_
   | refine LeO.bind ?_ (fun _=>?_)
theorem ancepsref40_Vars.mono:∀ a0 k,LeO (ancepsref40_Vars.f k a0) (ancepsref40_Vars.f (k+1) a0):=by
 intro a0 k
 obtain ⟨ih0,ih1,ih2⟩:=ancepsref40_Vars.mono_l k
 unfold ancepsref40_Vars.f
 repeat' first
   | (with_reducible exact ih0 _ _ _)
   | (with_reducible exact ih1 _ _ _ _)
   | (with_reducible exact ih2 _ _ _)
   | (with_reducible exact ancepsref40_Valid.mono _ _)
   | (with_reducible exact LeO.refl _)
   | (with_reducible exact LeO.none _)
   | (with_reducible refine LeO.ite ?_ ?_)
   | (with_reducible refine LeO.bind ?_ (fun _=>?_))
   | exact LeO.none _
   | refine LeO.ite ?_ ?_
   | refine LeO.bind ?_ (fun _=>?_)
set_option maxHeartbeats 8000000 in
set_option maxRecDepth 100000 in
theorem ancepsref40_Vars.calls (k:Nat) (A0:Option Addr) (c0:Nat) (l0:List (S50)) (r:List Int) (w:World) (hr0:Kd.C k50 w A0 l0.length l0) (hc0:l0.length≤c0) (h:ancepsref40_Vars.f k l0=some r) :
  Calls Try.prog 39 #[.slice A0 l0.length c0] w fun e w'=>∃ v0_:Value,e=.returned (v0_)∧Kd.R (Kd.int .i64) 3 w' w.heap.size (fun _=>True) v0_ r∧Below w.heap.size w w':=by
 have hu30:=Try.underlying30
 have hu3:=Try.underlying3
 have hu4:=Try.underlying4
 have HR0:=zA hr0
 have HC0:=zA hc0
 clear hr0 hc0
 have HB:=zA (Below.refl w.heap.size w)
 have H:((ancepsref40_Valid.f k l0).bind fun t125=>(if t125=0 then (if 24≤281474976710656 then (ancepsref40_Vars.l0 k l0 (List.replicate 24 false) 0) else (none)) else (some ([]:List Int))))=some r:=h
 clear h
 replace H:=Option.bind_eq_some_iff.mp H
 obtain ⟨t125,A20,H⟩:=H
 replace H:(if t125=0 then (if 24≤281474976710656 then (ancepsref40_Vars.l0 k l0 (List.replicate 24 false) 0) else (none)) else (some ([]:List Int)))=some r:=H
 have A2:=zA A20
 clear A20
 have HC3:=zA H
 clear H
 go_enter Try.func39,Try.ntmps39
 go_upto_if 10 with (first|((with_reducible refine gate_callee (f:=74) rfl ?_);refine goesL_ (some 9) rfl rfl Try.func74 zK rfl #[.slice A0 l0.length c0] rfl zM ?_;(with_reducible refine (ancepsref40_Valid.calls k _ _ l0 t125 _ ?side1 ?side2 A2.out).mono ?_);(case side1=>repeat (first|exact HR0.out|(with_reducible refine Kd.C_alloc ?_ _)|(with_reducible refine Kd.C_drewN ?_ _)|(with_reducible refine Kd.C_drew ?_)));(case side2=>exact HC0.out);rintro e w4 ⟨rfl,hb⟩;refine ⟨_,rfl,?_⟩;replace HB:=zA (below_step zB hb);(try clear hb);(try clear hb2);(try clear hk);(try clear hi)))
 (try simp only [Act.put,zi,zs,zt])
 have H:=HC3.out
 clear HC3
 by_cases c5:t125=0
 ·rw [if_pos c5] at H
  have c5b0:(t125 == 0)=true:=beq_iff_eq.mpr c5
  have c5b1:(t125 != 0)=false:=bne_eq_false_iff_eq.mpr c5
  clear c5
  (first|rw [c5b0]|(simp only [i64_w,i32_w];rw [c5b0])|skip)
  (try rw [c5b1])
  by_cases c6:24≤281474976710656
  ·rw [if_pos c6] at H
   have c6b0:=eq_true c6
   have c6b1:decide (24≤281474976710656)=true:=decide_eq_true c6
   clear c6
   obtain ⟨y126,hy126⟩:∃ y_:List Bool,y_=(List.replicate 24 false):=⟨_,rfl⟩
   replace H:(ancepsref40_Vars.l0 k l0 y126 0)=some r:=by first|(rw [hy126];with_reducible exact H)|(have H2_:=(Option.bind_some _ _).symm.trans H;rw [hy126];with_reducible exact H2_)|(have H2_:=(Option.bind_some _ _).symm.trans H;with_reducible exact H2_)|with_reducible exact H|(rw [hy126];exact H)|exact H
   have Ny126:=zA hy126
   clear hy126
   have H':=zA H
   clear H
   go_wp2_with (first|((with_reducible refine gate_dst (N:=3) rfl ?_);refine box_event ?hg (N:=3) ?hd (cs:=#[.bool false,.bool false,.bool false,.bool false,.bool false,.bool false,.bool false,.bool false,.bool false,.bool false,.bool false,.bool false,.bool false,.bool false,.bool false,.bool false,.bool false,.bool false,.bool false,.bool false,.bool false,.bool false,.bool false,.bool false]) (t:=88) ?hr ?_;(case hd=>rfl);(case hg=>rfl);(case hr=>first|(go_simp;done)|(go_simp;rfl));intro ga hgA w7 hbox hb;have ho8:=arr_box hbox (Nat.le_of_eq hgA.symm);clear hbox hgA;rw [← Ny126.out] at ho8;have HO128:=zA (Kd.R_lower ho8 (below_size zB));replace HB:=zA (below_step zB hb);clear hb ho8))
   go_loopg [4] k (fun kq v4 w'=>∃ (x3_1:List Bool) (x4_1:Int),v4=.int .i64 x4_1∧Aside0 (ancepsref40_Vars.l0 kq l0 x3_1 x4_1=some r)∧Aside0 (kq≤k)∧Aside0 (Kd.R Kd.bool 88 w' w.heap.size (fun _=>True) (.slice (some ⟨ga,0,none⟩) 24 24) x3_1)∧Aside0 (Below w.heap.size w w'))
   case atStart=>exact ⟨(y126),(0),zT,H',⟨Nat.le_refl _⟩,⟨by refine zr ?_;exact HO128.out⟩,⟨by repeat (first|(with_reducible first|exact HB.out|apply below_alloc|apply pw_below_drewN|apply below_drew1)|exact HB.out)⟩⟩
   case round=>
    clear H'
    try clear c5
    try clear c5b0
    try clear c5b1
    try clear c6
    try clear c6b0
    try clear c6b1
    obtain ⟨x3_1,x4_1,rfl,HA,HK1,HO_3,HB⟩:=hrel
    cases gk with
    | zero=>exact absurd HA.out (by simp [ancepsref40_Vars.l0])
    | succ k1=>
     have H:=HA.out
     clear HA
     simp only [ancepsref40_Vars.l0] at H
     by_cases c9:x4_1<(l0.length:Int)
     ·rw [if_pos c9] at H
      have c9b0:decide (x4_1<(l0.length:Int))=true:=decide_eq_true c9
      clear c9
      have H':=zA H
      clear H
      go_wp2
      go_loopg [5] k1 (fun kq v5 w'=>∃ (x3_2:List Bool) (x5_2:Int),v5=.int .i64 x5_2∧Aside0 (ancepsref40_Vars.l1 kq l0 x3_2 x4_1 x5_2=some r)∧Aside0 (kq≤k1)∧Aside0 (Kd.R Kd.bool 88 w' w.heap.size (fun _=>True) (.slice (some ⟨ga,0,none⟩) 24 24) x3_2)∧Aside0 (Below w.heap.size w w'))
      case atStart=>exact ⟨(x3_1),(0),zT,H',⟨Nat.le_refl _⟩,⟨by refine zr ?_;exact HO_3.out⟩,⟨by repeat (first|(with_reducible first|exact HB.out|apply below_alloc|apply pw_below_drewN|apply below_drew1)|exact HB.out)⟩⟩
      case round=>
       clear H'
       try clear c5
       try clear c5b0
       try clear c5b1
       try clear c6
       try clear c6b0
       try clear c6b1
       try clear c9
       try clear c9b0
       obtain ⟨x3_2,x5_2,rfl,HA,HK2,HO_3,HB⟩:=hrel
       cases gk with
       | zero=>exact absurd HA.out (by simp [ancepsref40_Vars.l1])
       | succ k2=>
        have H:=HA.out
        clear HA
        simp only [ancepsref40_Vars.l1] at H
        by_cases c10:0≤x4_1
        ·rw [if_pos c10] at H
         have c10b0:decide (0≤x4_1)=true:=decide_eq_true c10
         clear c10
         by_cases c11:x4_1<(l0.length:Int)
         ·rw [if_pos c11] at H
          have c11b0:decide (x4_1<(l0.length:Int))=true:=decide_eq_true c11
          clear c11
          by_cases c12:x5_2<(((rd_T50 l0 x4_1).f0).length:Int)
          ·rw [if_pos c12] at H
           have c12b0:decide (x5_2<(((rd_T50 l0 x4_1).f0).length:Int))=true:=decide_eq_true c12
           clear c12
           by_cases c13:0≤x5_2
           ·rw [if_pos c13] at H
            have c13b0:decide (0≤x5_2)=true:=decide_eq_true c13
            clear c13
            by_cases c14:0≤(rd ((rd_T50 l0 x4_1).f0) x5_2)
            ·rw [if_pos c14] at H
             have c14b0:decide (0≤(rd ((rd_T50 l0 x4_1).f0) x5_2))=true:=decide_eq_true c14
             clear c14
             by_cases c15:(rd ((rd_T50 l0 x4_1).f0) x5_2)<(x3_2.length:Int)
             ·rw [if_pos c15] at H
              have c15b0:decide ((rd ((rd_T50 l0 x4_1).f0) x5_2)<(x3_2.length:Int))=true:=decide_eq_true c15
              clear c15
              obtain ⟨y132,hy132⟩:∃ y_:List Bool,y_=(x3_2.set ((rd ((rd_T50 l0 x4_1).f0) x5_2):Int).toNat true):=⟨_,rfl⟩
              replace H:(ancepsref40_Vars.l1 k2 l0 y132 x4_1 (wrap64 (x5_2+1)))=some r:=by first|(rw [hy132];with_reducible exact H)|(have H2_:=(Option.bind_some _ _).symm.trans H;rw [hy132];with_reducible exact H2_)|(have H2_:=(Option.bind_some _ _).symm.trans H;with_reducible exact H2_)|with_reducible exact H|(rw [hy132];exact H)|exact H
              have Ny132:=zA hy132
              clear hy132
              have H':=zA H
              clear H
              have p129:0≤(x4_1:Int):=of_decide_eq_true zh
              have q129:x4_1<(l0.length:Int):=of_decide_eq_true zh
              obtain ⟨ad129,A129_0,c129_0,A129_1,c129_1,e129,hx129_0,hx129_1,hl129_0,hi129_0,hl129_1,hi129_1⟩:=at_T50 HR0.out x4_1 p129 q129
              cases e129
              replace hx129_0:=(HB.out.cell (World.block_lt_of_cell? w _ hx129_0)).trans hx129_0
              replace hx129_1:=(HB.out.cell (World.block_lt_of_cell? w _ hx129_1)).trans hx129_1
              have HR129_0:=zA hi129_0
              have HC129_0:=zA hl129_0
              clear hi129_0 hl129_0
              have HR129_1:=zA hi129_1
              have HC129_1:=zA hl129_1
              clear hi129_1 hl129_1
              replace p129:=eq_true p129
              replace q129:=eq_true q129
              have p130:0≤(x4_1:Int):=of_decide_eq_true zh
              have q130:x4_1<(l0.length:Int):=of_decide_eq_true zh
              obtain ⟨ad130,A130_0,c130_0,A130_1,c130_1,e130,hx130_0,hx130_1,hl130_0,hi130_0,hl130_1,hi130_1⟩:=at_T50 HR0.out x4_1 p130 q130
              obtain rfl:ad129=ad130:=(by injection e130)
              replace hx130_0:=(HB.out.cell (World.block_lt_of_cell? w _ hx130_0)).trans hx130_0
              replace hx130_1:=(HB.out.cell (World.block_lt_of_cell? w _ hx130_1)).trans hx130_1
              have HR130_0:=zA hi130_0
              have HC130_0:=zA hl130_0
              clear hi130_0 hl130_0
              have HR130_1:=zA hi130_1
              have HC130_1:=zA hl130_1
              clear hi130_1 hl130_1
              replace p130:=eq_true p130
              replace q130:=eq_true q130
              have ea_:=Option.some.inj (hx129_0.symm.trans hx130_0)
              injection ea_ with ea_ en_ ec_
              subst ea_
              subst ec_
              clear en_
              have ea_:=Option.some.inj (hx129_1.symm.trans hx130_1)
              injection ea_ with ea_ en_ ec_
              subst ea_
              subst ec_
              clear en_
              have p131:0≤(x5_2:Int):=of_decide_eq_true zh
              have q131:x5_2<(((rd_T50 l0 x4_1).f0).length:Int):=of_decide_eq_true zh
              obtain ⟨ad131,e131,hx131_0⟩:=Kd.at_int HR130_0.out x5_2 p131 q131
              cases e131
              replace hx131_0:=(HB.out.cell (World.block_lt_of_cell? w _ hx131_0)).trans hx131_0
              replace p131:=eq_true p131
              replace q131:=eq_true q131
              have p16:0≤((rd ((rd_T50 l0 x4_1).f0) x5_2):Int):=of_decide_eq_true zh
              have q16:((rd ((rd_T50 l0 x4_1).f0) x5_2):Int)<24:=by first|omega|exact of_decide_eq_true zh|(have h2_:(rd ((rd_T50 l0 x4_1).f0) x5_2)<(x3_2.length:Int):=of_decide_eq_true zh;have h3_:=arr_len HO_3.out;omega)
              have hl24b_:=arr_len HO_3.out
              have gb16:=Kd.R_base HO_3.out ga rfl
              have GB16:=zA gb16
              clear gb16
              obtain ⟨hx16_0,hf16_0⟩:=Kd.R_celln false HO_3.out ((rd ((rd_T50 l0 x4_1).f0) x5_2):Int) p16 q16
              replace p16:=eq_true p16
              replace q16:=eq_true q16
              have HP17:=Kd.R_putg HO_3.out ((rd ((rd_T50 l0 x4_1).f0) x5_2):Int) true
              go_wp2_with (first|((with_reducible refine gate_store (t:=4) (p:=35) rfl ?_);refine store_event (t:=4) (p:=35) (v:=?vo_w18) (w1:=(wr.setCell ⟨ga,((rd ((rd_T50 l0 x4_1).f0) x5_2):Int).toNat,none⟩ (.bool true))) ?hg ?ho ?hn ?hr ?_;(case ho=>rfl);(case hg=>rfl);(case hn=>rfl);(case hr=>first|(go_simp;done)|(go_simp;rfl));intro w18 hw;have hg:wr.grownBy w18 (some ga):=(by rw [hw];exact HP17.2);have hp_:Kd.R Kd.bool 88 w18 w.heap.size (fun _=>True) (.slice (some ⟨ga,0,none⟩) 24 24) y132:=(by rw [hw,Ny132.out];exact HP17.1);clear HP17;replace HO_3:=zA (hp_);replace HB:=zA ((by rw [hw];exact below_set (HB.out) GB16.out:Below w.heap.size w w18));clear hg hw hp_))
              go_roundg k2
              case measure=>have:=HK1.out;have:=HK2.out;omega
              case rel=>exact ⟨(y132),(wrap64 (x5_2+1)),zT,H',⟨by have:=HK1.out;have:=HK2.out;omega⟩,⟨by refine zr ?_;exact HO_3.out⟩,⟨by repeat (first|(with_reducible first|exact HB.out|apply below_alloc|apply pw_below_drewN|apply below_drew1)|exact HB.out)⟩⟩
             ·rw [if_neg c15] at H
              exact absurd H (by simp)
            ·rw [if_neg c14] at H
             exact absurd H (by simp)
           ·rw [if_neg c13] at H
            exact absurd H (by simp)
          ·rw [if_neg c12] at H
           have c12b0:decide (x5_2<(((rd_T50 l0 x4_1).f0).length:Int))=false:=decide_eq_false c12
           clear c12
           have H':=zA H
           clear H
           have p129:0≤(x4_1:Int):=of_decide_eq_true zh
           have q129:x4_1<(l0.length:Int):=of_decide_eq_true zh
           obtain ⟨ad129,A129_0,c129_0,A129_1,c129_1,e129,hx129_0,hx129_1,hl129_0,hi129_0,hl129_1,hi129_1⟩:=at_T50 HR0.out x4_1 p129 q129
           cases e129
           replace hx129_0:=(HB.out.cell (World.block_lt_of_cell? w _ hx129_0)).trans hx129_0
           replace hx129_1:=(HB.out.cell (World.block_lt_of_cell? w _ hx129_1)).trans hx129_1
           have HR129_0:=zA hi129_0
           have HC129_0:=zA hl129_0
           clear hi129_0 hl129_0
           have HR129_1:=zA hi129_1
           have HC129_1:=zA hl129_1
           clear hi129_1 hl129_1
           replace p129:=eq_true p129
           replace q129:=eq_true q129
           go_wp2
           go_roundg k2
           case measure=>have:=HK1.out;have:=HK2.out;omega
           case rel=>exact ⟨(x3_2),(wrap64 (x4_1+1)),zT,H',⟨by have:=HK1.out;have:=HK2.out;omega⟩,⟨by refine zr ?_;exact HO_3.out⟩,⟨by repeat (first|(with_reducible first|exact HB.out|apply below_alloc|apply pw_below_drewN|apply below_drew1)|exact HB.out)⟩⟩
         ·rw [if_neg c11] at H
          exact absurd H (by simp)
        ·rw [if_neg c10] at H
         exact absurd H (by simp)
     ·rw [if_neg c9] at H
      have c9b0:decide (x4_1<(l0.length:Int))=false:=decide_eq_false c9
      clear c9
      have H':=zA H
      clear H
      go_wp2
      go_loopg [6,7] k1 (fun kq v6 v7 w'=>∃ (x6_2:List Int) (x7_2:Int),v7=.int .i64 x7_2∧Aside0 (ancepsref40_Vars.l2 kq x3_1 x6_2 x7_2=some r)∧Aside0 (kq≤k1)∧Aside0 (Kd.R Kd.bool 88 w' w.heap.size (fun _=>True) (.slice (some ⟨ga,0,none⟩) 24 24) x3_1)∧Aside0 (Kd.R (Kd.int .i64) 3 w' w.heap.size (fun _=>True) v6 x6_2)∧Aside0 (Below w.heap.size w w'))
      case atStart=>exact ⟨(([]:List Int)),(0),zT,H',⟨Nat.le_refl _⟩,⟨by refine zr ?_;exact HO_3.out⟩,⟨by first|exact Kd.R_nil _ _ _ _ _|exact Kd.N_nil _ _ _ _ _|exact Kd.V_nil _ _ _ _ _|exact Kd.Q_nil _ _ _ _ _|exact Kd.S_nil _ _ _ _ _⟩,⟨by repeat (first|(with_reducible first|exact HB.out|apply below_alloc|apply pw_below_drewN|apply below_drew1)|exact HB.out)⟩⟩
      case round=>
       clear H'
       try clear c5
       try clear c5b0
       try clear c5b1
       try clear c6
       try clear c6b0
       try clear c6b1
       try clear c9
       try clear c9b0
       obtain ⟨x6_2,x7_2,rfl,HA,HK2,HO_3,HO_6,HB⟩:=hrel
       cases gk with
       | zero=>exact absurd HA.out (by simp [ancepsref40_Vars.l2])
       | succ k2=>
        have H:=HA.out
        clear HA
        simp only [ancepsref40_Vars.l2] at H
        by_cases c19:x7_2<24
        ·rw [if_pos c19] at H
         have c19b0:decide (x7_2<24)=true:=decide_eq_true c19
         clear c19
         by_cases c20:0≤x7_2
         ·rw [if_pos c20] at H
          have c20b0:decide (0≤x7_2)=true:=decide_eq_true c20
          clear c20
          by_cases c21:x7_2<(x3_1.length:Int)
          ·rw [if_pos c21] at H
           have c21b0:decide (x7_2<(x3_1.length:Int))=true:=decide_eq_true c21
           clear c21
           obtain ⟨bq22,hbq22⟩:∃ b_:Bool,b_=(rdOf false x3_1 x7_2):=⟨_,rfl⟩
           replace H:(if bq22=true then (if x6_2.length<17592186044416 then (ancepsref40_Vars.l2 k2 x3_1 (x6_2++[x7_2]) (wrap64 (x7_2+1))) else (none)) else (ancepsref40_Vars.l2 k2 x3_1 x6_2 (wrap64 (x7_2+1))))=some r:=by rw [← hbq22] at H;exact H
           have Nbq22:=zA hbq22
           clear hbq22
           by_cases c23:bq22=true
           ·subst c23
            have H1:(if x6_2.length<17592186044416 then (ancepsref40_Vars.l2 k2 x3_1 (x6_2++[x7_2]) (wrap64 (x7_2+1))) else (none))=some r:=by rw [if_pos rfl] at H;exact H
            clear H
            have H:=H1
            clear H1
            by_cases c24:x6_2.length<17592186044416
            ·rw [if_pos c24] at H
             have LMc24:=zA c24
             clear c24
             obtain ⟨y134,hy134⟩:∃ y_:List Int,y_=(x6_2++[x7_2]):=⟨_,rfl⟩
             replace H:(ancepsref40_Vars.l2 k2 x3_1 y134 (wrap64 (x7_2+1)))=some r:=by first|(rw [hy134];with_reducible exact H)|(have H2_:=(Option.bind_some _ _).symm.trans H;rw [hy134];with_reducible exact H2_)|(have H2_:=(Option.bind_some _ _).symm.trans H;with_reducible exact H2_)|with_reducible exact H|(rw [hy134];exact H)|exact H
             have Ny134:=zA hy134
             clear hy134
             have H':=zA H
             clear H
             have p133:0≤(x7_2:Int):=of_decide_eq_true zh
             have q133:x7_2<(x3_1.length:Int):=of_decide_eq_true zh
             have hl24_:=arr_len HO_3.out
             have ha24_:(x7_2<24)=True:=eq_true (by omega)
             have hx133_0:=(Kd.R_celln false HO_3.out x7_2 p133 (by omega)).1
             (try rw [← Nbq22.out] at hx133_0)
             replace p133:=eq_true p133
             replace q133:=eq_true q133
             go_wp2_with (first|((with_reducible refine gate_builtin (b:=.append) (xs:=#[.tmp 43,.tmp 45]) rfl ?_);at_builtin;refine Kd.R_append (Kd.int .i64) (w0:=w) w.heap.size rfl (.tmp 43) (.tmp 45) 30 3 (.int .i64 0) 8 rfl Try.underlying30 info3 rfl (by decide) (by omega) u6 x6_2 x7_2 [.int .i64 x7_2] (fun _=>True) (fun _=>False) rfl rfl ?aP (fun _ hk=>hk.elim) ?aF ?aO ?aB ?aS ?aL ?_;(case aP=>exact rfl);(case aB=>exact zB);(case aF=>exact (fun _ _=>trivial));(case aO=>exact (zR HO_6));(case aS=>exact (below_size zB));(case aL=>have:=LMc24.out;omega);intro v135 w26 ho hb hg hat;rw [← Ny134.out] at ho;have HO136:=zA (ho);replace HO_3:=zA (Kd.R_over' (zR HO_3) (Kd.R_typed (zR HO_6)) (by decide) hg);replace HB:=zA (hb);clear HO_6;clear ho hb hg hat))
             go_roundg k2
             case measure=>have:=HK1.out;have:=HK2.out;omega
             case rel=>exact ⟨(y134),(wrap64 (x7_2+1)),zT,H',⟨by have:=HK1.out;have:=HK2.out;omega⟩,⟨by refine zr ?_;exact HO_3.out⟩,⟨by refine zr ?_;exact HO136.out⟩,⟨by repeat (first|(with_reducible first|exact HB.out|apply below_alloc|apply pw_below_drewN|apply below_drew1)|exact HB.out)⟩⟩
            ·rw [if_neg c24] at H
             exact absurd H (by simp)
           ·replace c23:=Bool.eq_false_iff.mpr c23
            subst c23
            have H1:(ancepsref40_Vars.l2 k2 x3_1 x6_2 (wrap64 (x7_2+1)))=some r:=by rw [if_neg (show ¬ (false=true) by decide)] at H;exact H
            clear H
            have H:=H1
            clear H1
            have H':=zA H
            clear H
            have p133:0≤(x7_2:Int):=of_decide_eq_true zh
            have q133:x7_2<(x3_1.length:Int):=of_decide_eq_true zh
            have hl24_:=arr_len HO_3.out
            have ha24_:(x7_2<24)=True:=eq_true (by omega)
            have hx133_0:=(Kd.R_celln false HO_3.out x7_2 p133 (by omega)).1
            (try rw [← Nbq22.out] at hx133_0)
            replace p133:=eq_true p133
            replace q133:=eq_true q133
            go_wp2
            go_roundg k2
            case measure=>have:=HK1.out;have:=HK2.out;omega
            case rel=>exact ⟨(x6_2),(wrap64 (x7_2+1)),zT,H',⟨by have:=HK1.out;have:=HK2.out;omega⟩,⟨by refine zr ?_;exact HO_3.out⟩,⟨by refine zr ?_;exact HO_6.out⟩,⟨by repeat (first|(with_reducible first|exact HB.out|apply below_alloc|apply pw_below_drewN|apply below_drew1)|exact HB.out)⟩⟩
          ·rw [if_neg c21] at H
           exact absurd H (by simp)
         ·rw [if_neg c20] at H
          exact absurd H (by simp)
        ·rw [if_neg c19] at H
         have c19b0:decide (x7_2<24)=false:=decide_eq_false c19
         clear c19
         obtain rfl:=Option.some.inj H
         go_wp2
         go_ret
         exact ⟨_,ze,by refine zr ?_;exact HO_6.out,by repeat (first|(with_reducible first|exact HB.out|apply below_alloc|apply pw_below_drewN|apply below_drew1)|exact HB.out)⟩
  ·rw [if_neg c6] at H
   exact absurd H (by simp)
 ·rw [if_neg c5] at H
  have c5b0:(t125 == 0)=false:=beq_eq_false_iff_ne.mpr c5
  have c5b1:(t125 != 0)=true:=bne_iff_ne.mpr c5
  (first|rw [c5b0]|(simp only [i64_w,i32_w];rw [c5b0])|skip)
  (try rw [c5b1])
  obtain rfl:=Option.some.inj H
  go_wp2
  go_ret
  exact ⟨_,ze,by first|exact Kd.R_nil _ _ _ _ _|exact Kd.N_nil _ _ _ _ _|exact Kd.V_nil _ _ _ _ _|exact Kd.Q_nil _ _ _ _ _|exact Kd.S_nil _ _ _ _ _,by repeat (first|(with_reducible first|exact HB.out|apply below_alloc|apply pw_below_drewN|apply below_drew1)|exact HB.out)⟩
end Go.Proofs.Ytkjghablbeaioaa.S
