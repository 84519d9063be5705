import Derived.Test.YtkjghablbeaioaaGreatB0
import Derived.Test.YtkjghablbeaioaaGreatB10
namespace Go.Proofs.YtkjghablbeaioaaGreat.B
open Go.RowKit Go.Proofs.YtkjghablbeaioaaGreatW.PrintWords Go.Proofs.YtkjghablbeaioaaGreatW.PrintLast Go.Proofs.YtkjghablbeaioaaGreatW.PrintMore
attribute [local go_sem] max2_int min2_int max_two min_two max_three min_three max_four min_four Tryz.underlying24 Tryz.underlying26 Tryz.underlying3 Tryz.underlying4 Tryz.underlying96
set_option linter.unusedVariables false
set_option linter.unusedSimpArgs false
def ancepsref42_Few.f (k:Nat) (l0:List (S49)):Option (Bool):=(ancepsref40_Few.f k l0).bind fun t86=>(if t86=true then ((ancepsref42_Valid.f k l0).bind fun t84=>(if t84=0 then (if (l0.length:Int)≤6 then ((ancepsref40_Vars.f k l0).bind fun t85=>(some (decide ((t85.length:Int)≤8)))) else (some false)) else (some true))) else (some false))
set_option maxHeartbeats 8000000 in
set_option maxRecDepth 100000 in
theorem ancepsref42_Few.calls (k:Nat) (A0:Option Addr) (c0:Nat) (l0:List (S49)) (r:Bool) (w:World) (hr0:Kd.C k49 w A0 l0.length l0) (hc0:l0.length≤c0) (h:ancepsref42_Few.f k l0=some r) :
  Calls Tryz.prog 6 #[.slice A0 l0.length c0] w fun e w'=>e=.returned (.bool r)∧Below w.heap.size w w':=by
 have HR0:=zA hr0;have HC0:=zA hc0;clear hr0 hc0;have HB:=zA (Below.refl w.heap.size w);have H:((ancepsref40_Few.f k l0).bind fun t86=>(if t86=true then ((ancepsref42_Valid.f k l0).bind fun t84=>(if t84=0 then (if (l0.length:Int)≤6 then ((ancepsref40_Vars.f k l0).bind fun t85=>(some (decide ((t85.length:Int)≤8)))) else (some false)) else (some true))) else (some false)))=some r:=h;clear h;obtain ⟨t86,A2,H⟩:=zo H;have HC3:=zA H;clear H
 go_enter Tryz.func6,Tryz.ntmps6
 go_upto_if 5 with (first|((with_reducible refine gate_callee (f:=27) rfl ?_);refine zgo 4 Tryz.func27 #[.slice A0 l0.length c0] ?_;(with_reducible refine (ancepsref40_Few.calls k _ _ l0 t86 _ ?side1 HC0.out A2.out).mono ?_);(case side1=>repeat (first|exact HR0.out|(with_reducible refine Kd.C_alloc ?_ _)|(with_reducible refine Kd.C_drewN ?_ _)|(with_reducible refine Kd.C_drew ?_)));rintro e w4 ⟨rfl,hb⟩;refine ⟨_,rfl,?_⟩;replace HB:=zu hb;clear hb))
 (try simp only [Act.put,zi,zs,zt]);have H:=HC3.out;clear HC3
 by_cases c5:t86=true
 ·subst c5
  have H1:((ancepsref42_Valid.f k l0).bind fun t84=>(if t84=0 then (if (l0.length:Int)≤6 then ((ancepsref40_Vars.f k l0).bind fun t85=>(some (decide ((t85.length:Int)≤8)))) else (some false)) else (some true)))=some r:=by rw [if_pos rfl] at H;exact H
  clear H;have H:=H1;clear H1;obtain ⟨t84,A6,H⟩:=zo H
  rcases ife H with ⟨c7b0,c7b1,H⟩|⟨c7,c7b0,c7b1,H⟩
  ·(first|rw [c7b0]|(simp only [i64_w,i32_w];rw [c7b0])|skip)
   (try rw [c7b1])
   rcases if0 H with ⟨c8,H⟩|⟨c8,H⟩
   ·have c8b0:decide ((l0.length:Int)≤6)=true:=decide_eq_true c8;have c8b1:decide (l0.length≤6)=true:=decide_eq_true (by omega);clear c8;obtain ⟨t85,A9,H⟩:=zo H;obtain rfl:=Option.some.inj H
    go_wp2_with (first|((with_reducible refine gate_callee (f:=28) rfl ?_);refine zgo 7 Tryz.func28 #[.slice A0 l0.length c0] ?_;(with_reducible refine (ancepsref42_Valid.calls k _ _ l0 t84 _ (zD HR0 HB) HC0.out A6.out).mono ?_);rintro e w10 ⟨rfl,hb⟩;refine ⟨_,rfl,?_⟩;replace HB:=zu hb;clear hb)|(go_at_call 29;(with_reducible refine (ancepsref40_Vars.calls k _ _ l0 t85 _ (zD HR0 HB) HC0.out A9.out).mono ?_);rintro e w11 ⟨v97,rfl,ho0,hb⟩;have HO94:=zA (Kd.R_lower ho0 (below_size zB));replace HB:=zu hb;clear hb;(try clear ho0);obtain ⟨Ao12,co12,eo12⟩:=Kd.R_slice HO94.out;subst eo12))
    go_ret
    exact ⟨ze,zv0 HB⟩
   ·have c8b0:decide ((l0.length:Int)≤6)=false:=decide_eq_false c8;have c8b1:decide (l0.length≤6)=false:=decide_eq_false (by omega);clear c8;obtain rfl:=Option.some.inj H
    go_wp2_with (first|((with_reducible refine gate_callee (f:=28) rfl ?_);refine zgo 7 Tryz.func28 #[.slice A0 l0.length c0] ?_;(with_reducible refine (ancepsref42_Valid.calls k _ _ l0 t84 _ (zD HR0 HB) HC0.out A6.out).mono ?_);rintro e w13 ⟨rfl,hb⟩;refine ⟨_,rfl,?_⟩;replace HB:=zu hb;clear hb))
    go_ret
    exact ⟨ze,zv0 HB⟩
  ·(first|rw [c7b0]|(simp only [i64_w,i32_w];rw [c7b0])|skip)
   (try rw [c7b1]);obtain rfl:=Option.some.inj H
   go_wp2_with (first|((with_reducible refine gate_callee (f:=28) rfl ?_);refine zgo 7 Tryz.func28 #[.slice A0 l0.length c0] ?_;(with_reducible refine (ancepsref42_Valid.calls k _ _ l0 t84 _ (zD HR0 HB) HC0.out A6.out).mono ?_);rintro e w14 ⟨rfl,hb⟩;refine ⟨_,rfl,?_⟩;replace HB:=zu hb;clear hb))
   go_ret
   exact ⟨ze,zv0 HB⟩
 ·replace c5:=Bool.eq_false_iff.mpr c5;subst c5
  have H1:(some false)=some r:=by rw [if_neg (show ¬ (false=true) by decide)] at H;exact H
  clear H;have H:=H1;clear H1;obtain rfl:=Option.some.inj H
  go_wp2
  go_ret
  exact ⟨ze,zv0 HB⟩
def slices_Index_bool_bool.l0:Nat→List Bool→Bool→Int→Int→Option (Int)
 | 0,_,_,_,_=>none
 | k+1,x0,x1,x7,x8=>if x8<x7 then (if 0≤x8 then (if x8<(x0.length:Int) then (if (x1 == (rdOf false x0 x8))=true then (some x8) else (slices_Index_bool_bool.l0 k x0 x1 x7 (wrap64 (x8+1)))) else (none)) else (none)) else (some (-1))
def slices_Index_bool_bool.f (k:Nat) (l0:List Bool) (a1:Bool):Option (Int):=slices_Index_bool_bool.l0 k l0 a1 (l0.length:Int) 0
theorem slices_Index_bool_bool.mono_l:∀ k,(∀ y0 y1 y2 y3,LeO (slices_Index_bool_bool.l0 k y0 y1 y2 y3) (slices_Index_bool_bool.l0 (k+1) y0 y1 y2 y3))
 | 0=>fun _ _ _ _ r h=>by simp [slices_Index_bool_bool.l0] at h
 | k+1=>by
  have ih0:=slices_Index_bool_bool.mono_l k
  ·intro y0 y1 y2 y3
   unfold slices_Index_bool_bool.l0
   repeat' first
   | (with_reducible exact ih0 _ _ _ _)
   | (with_reducible exact LeO.refl _)
   | (with_reducible exact LeO.none _)
   | (with_reducible refine LeO.ite ?_ ?_)
   | (with_reducible refine LeO.bind ?_ (fun _=>?_))
   | exact LeO.none _
   | refine LeO.ite ?_ ?_
   | refine LeO.bind ?_ (fun _=>?_)
theorem slices_Index_bool_bool.mono:∀ a0 a1 k,LeO (slices_Index_bool_bool.f k a0 a1) (slices_Index_bool_bool.f (k+1) a0 a1):=by
 intro a0 a1 k;have ih0:=slices_Index_bool_bool.mono_l k
 unfold slices_Index_bool_bool.f
 repeat' first
   | (with_reducible exact ih0 _ _ _ _)
   | (with_reducible exact LeO.refl _)
   | (with_reducible exact LeO.none _)
   | (with_reducible refine LeO.ite ?_ ?_)
   | (with_reducible refine LeO.bind ?_ (fun _=>?_))
   | exact LeO.none _
   | refine LeO.ite ?_ ?_
   | refine LeO.bind ?_ (fun _=>?_)
set_option maxHeartbeats 8000000 in
set_option maxRecDepth 100000 in
theorem slices_Index_bool_bool.calls (k:Nat) (A0:Option Addr) (c0:Nat) (l0:List Bool) (a1:Bool) (r:Int) (w:World) (hr0:Kd.C Kd.bool w A0 l0.length l0) (hc0:l0.length≤c0) (h:slices_Index_bool_bool.f k l0 a1=some r) :
  Calls Tryz.prog 113 #[.slice A0 l0.length c0,.bool a1] w fun e w'=>e=.returned (.int .i64 r)∧Drawn0 w w':=by
 have HR0:=zA hr0;have HC0:=zA hc0;clear hr0 hc0;have H:(slices_Index_bool_bool.l0 k l0 a1 (l0.length:Int) 0)=some r:=h;clear h;have H':=zA H;clear H
 go_enter Tryz.func113,Tryz.ntmps113
 go_wp2
 go_loopg [8] k (fun kq v8 w'=>∃ (x8_1:Int),v8=.int .i64 x8_1∧Aside0 (slices_Index_bool_bool.l0 kq l0 a1 (l0.length:Int) x8_1=some r)∧Aside0 (kq≤k)∧Drawn0 w w')
 case atStart=>exact ⟨(0),zT,H',⟨Nat.le_refl _⟩,by repeat (first|exact Drawn0.refl _|apply Drawn0.step)⟩
 case round=>
  clear H';obtain ⟨x8_1,rfl,HA,HK1,⟨m1,rfl⟩⟩:=hrel
  cases gk with
  | zero=>exact absurd HA.out (by simp [slices_Index_bool_bool.l0])
  | succ k1=>
   have H:=HA.out;clear HA;simp only [slices_Index_bool_bool.l0] at H
   rcases ifd H with ⟨c3b0,H⟩|⟨c3b0,H⟩
   ·obtain ⟨c4b0,H⟩:=ifd1 H;obtain ⟨c5b0,H⟩:=ifd1 H
    rcases if0 H with ⟨c6,H⟩|⟨c6,H⟩
    ·have c6b0:(a1 == (rdOf false l0 x8_1))=true:=c6;(try (have c6b1:decide (a1=(rdOf false l0 x8_1))=true:=by simpa using c6));(try (have c6b2:(a1 == (rdOf false l0 x8_1))=true:=by simpa using c6));clear c6;obtain rfl:=Option.some.inj H;obtain ⟨p79,q79,ad79,e79,hx79_0⟩:=zp (Kd.at_bool HR0.out x8_1)
     cases e79
     replace p79:=eq_true p79;replace q79:=eq_true q79
     go_wp2
     go_ret
     exact ⟨by first|rfl|(simp;done)|(simp [*];done),by repeat (first|exact Drawn0.refl _|apply Drawn0.step)⟩
    ·have c6b0:(a1 == (rdOf false l0 x8_1))=false:=by simpa using c6
     (try (have c6b1:decide (a1=(rdOf false l0 x8_1))=false:=by simpa using c6));(try (have c6b2:(a1 == (rdOf false l0 x8_1))=false:=by simpa using c6));(try (have c6b3:¬ (a1=(rdOf false l0 x8_1)):=by simpa using c6));clear c6;have H':=zA H;clear H;obtain ⟨p79,q79,ad79,e79,hx79_0⟩:=zp (Kd.at_bool HR0.out x8_1)
     cases e79
     replace p79:=eq_true p79;replace q79:=eq_true q79
     go_wp2
     go_roundg k1
     case measure=>have:=HK1.out;omega
     case rel=>exact ⟨(wrap64 (x8_1+1)),zT,H',⟨by have:=HK1.out;omega⟩,by repeat (first|exact Drawn0.refl _|apply Drawn0.step)⟩
   ·obtain rfl:=Option.some.inj H
    go_wp2
    go_ret
    exact ⟨by first|rfl|(simp;done)|(simp [*];done),by repeat (first|exact Drawn0.refl _|apply Drawn0.step)⟩
def slices_Contains_bool_bool.f (k:Nat) (l0:List Bool) (a1:Bool):Option (Bool):=(slices_Index_bool_bool.f k l0 a1).bind fun t87=>(some (decide (t87≥0)))
theorem slices_Contains_bool_bool.mono:∀ a0 a1 k,LeO (slices_Contains_bool_bool.f k a0 a1) (slices_Contains_bool_bool.f (k+1) a0 a1):=by
 intro a0 a1 k
 unfold slices_Contains_bool_bool.f
 repeat' first
   | (with_reducible exact slices_Index_bool_bool.mono _ _ _)
   | (with_reducible exact LeO.refl _)
   | (with_reducible exact LeO.none _)
   | (with_reducible refine LeO.ite ?_ ?_)
   | (with_reducible refine LeO.bind ?_ (fun _=>?_))
   | exact LeO.none _
   | refine LeO.ite ?_ ?_
   | refine LeO.bind ?_ (fun _=>?_)
set_option maxHeartbeats 8000000 in
set_option maxRecDepth 100000 in
theorem slices_Contains_bool_bool.calls (k:Nat) (A0:Option Addr) (c0:Nat) (l0:List Bool) (a1:Bool) (r:Bool) (w:World) (hr0:Kd.C Kd.bool w A0 l0.length l0) (hc0:l0.length≤c0) (h:slices_Contains_bool_bool.f k l0 a1=some r) :
  Calls Tryz.prog 90 #[.slice A0 l0.length c0,.bool a1] w fun e w'=>e=.returned (.bool r)∧Drawn0 w w':=by
 have HR0:=zA hr0;have HC0:=zA hc0;clear hr0 hc0;have H:((slices_Index_bool_bool.f k l0 a1).bind fun t87=>(some (decide (t87≥0))))=some r:=h;clear h;obtain ⟨t87,A3,H⟩:=zo H;obtain rfl:=Option.some.inj H
 go_enter Tryz.func90,Tryz.ntmps90
 go_wp2_with (first|((with_reducible refine gate_callee (f:=113) rfl ?_);refine zgo 7 Tryz.func113 #[.slice A0 l0.length c0,.bool a1] ?_;(with_reducible refine (slices_Index_bool_bool.calls k _ _ l0 a1 t87 _ ?side1 HC0.out A3.out).mono ?_);(case side1=>repeat (first|exact HR0.out|(with_reducible refine Kd.C_alloc ?_ _)|(with_reducible refine Kd.C_drewN ?_ _)|(with_reducible refine Kd.C_drew ?_)));rintro e w' ⟨rfl,⟨nd,rfl⟩⟩;refine ⟨_,rfl,?_⟩))
 go_ret
 exact ⟨by first|rfl|(simp;done)|(simp [*];done),by repeat (first|exact Drawn0.refl _|apply Drawn0.step)⟩
mutual
def solve_shape.l0:Nat→List (S49)→Int→List Bool→List (S96)→Int→Int→Option (Bool)
 | 0,_,_,_,_,_,_=>none
 | k+1,x0,x5,x6,x23,x24,x25=>if x25<x24 then (if 0≤x25 then (if x25<(x23.length:Int) then (if ((rd_T96 x23 x25).f0)=(-1) then (if ((rd_T96 x23 x25).f1)=0 then (if ((rd_T96 x23 x25).f2)=0 then (if ((rd_T96 x23 x25).f3)<0 then (some false) else (if ((rd_T96 x23 x25).f3)≥(x0.length:Int) then (some false) else (solve_shape.l0 k x0 x5 x6 x23 x24 (wrap64 (x25+1))))) else (some false)) else (some false)) else (if ((rd_T96 x23 x25).f0)<0 then (some false) else (if ((rd_T96 x23 x25).f0)≥24 then (some false) else (if ((rd_T96 x23 x25).f3)=0 then ((some (([(rd_T96 x23 x25).f1,(rd_T96 x23 x25).f2]:List Int):List Int)).bind fun y76=>(solve_shape.l1 k x0 x5 x6 x25 x23 x24 x25 y76 (y76.length:Int) 0)) else (some false))))) else (none)) else (none)) else (if 1≤(x6.length:Int) then ((slices_Contains_bool_bool.f k (x6.drop 1) false).bind fun t89=>(some (!t89))) else (none))
def solve_shape.l1:Nat→List (S49)→Int→List Bool→Int→List (S96)→Int→Int→List Int→Int→Int→Option (Bool)
 | 0,_,_,_,_,_,_,_,_,_,_=>none
 | k+1,x0,x5,x6,x7,x23,x24,x25,x70,x71,x72=>if x72<x71 then (if 0≤x72 then (if x72<(x70.length:Int) then (if (rd x70 x72)≤x7 then (some false) else (if (rd x70 x72)≥x5 then (some false) else (if 0≤(rd x70 x72) then (if (rd x70 x72)<(x6.length:Int) then (if rdOf false x6 (rd x70 x72)=true then (some false) else (solve_shape.l1 k x0 x5 (x6.set ((rd x70 x72):Int).toNat true) x7 x23 x24 x25 x70 x71 (wrap64 (x72+1)))) else (none)) else (none)))) else (none)) else (none)) else (solve_shape.l0 k x0 x5 x6 x23 x24 (wrap64 (x25+1)))
end
def solve_shape.f (k:Nat) (l0:List (S49)) (l1_0:List (S96)):Option (Bool):=if (l1_0.length:Int)=0 then (some false) else (if (l1_0.length:Int)>2000 then (some false) else (if 0≤(l1_0.length:Int) then (if ((l1_0.length:Int):Int).toNat≤281474976710656 then (solve_shape.l0 k l0 (l1_0.length:Int) (List.replicate ((l1_0.length:Int):Int).toNat false) l1_0 (l1_0.length:Int) 0) else (none)) else (none)))
theorem solve_shape.mono_l:∀ k,(∀ y0 y1 y2 y3 y4 y5,LeO (solve_shape.l0 k y0 y1 y2 y3 y4 y5) (solve_shape.l0 (k+1) y0 y1 y2 y3 y4 y5))∧(∀ y0 y1 y2 y3 y4 y5 y6 y7 y8 y9,LeO (solve_shape.l1 k y0 y1 y2 y3 y4 y5 y6 y7 y8 y9) (solve_shape.l1 (k+1) y0 y1 y2 y3 y4 y5 y6 y7 y8 y9))
 | 0=>⟨fun _ _ _ _ _ _ r h=>by simp [solve_shape.l0] at h,fun _ _ _ _ _ _ _ _ _ _ r h=>by simp [solve_shape.l1] at h⟩
 | k+1=>by
  obtain ⟨ih0,ih1⟩:=solve_shape.mono_l k;refine ⟨?_,?_⟩
  ·intro y0 y1 y2 y3 y4 y5
   unfold solve_shape.l0
   repeat' first
   | (with_reducible exact ih0 _ _ _ _ _ _)
   | (with_reducible exact ih1 _ _ _ _ _ _ _ _ _ _)
   | (with_reducible exact slices_Contains_bool_bool.mono _ _ _)
   | (with_reducible exact LeO.refl _)
   | (with_reducible exact LeO.none _)
   | (with_reducible refine LeO.ite ?_ ?_)
   | (with_reducible refine LeO.bind ?_ (fun _=>?_))
   | exact LeO.none _
   | refine LeO.ite ?_ ?_
   | refine LeO.bind ?_ (fun _=>?_)
  ·intro y0 y1 y2 y3 y4 y5 y6 y7 y8 y9
   unfold solve_shape.l1
   repeat' first
   | (with_reducible exact ih0 _ _ _ _ _ _)
   | (with_reducible exact ih1 _ _ _ _ _ _ _ _ _ _)
   | (with_reducible exact slices_Contains_bool_bool.mono _ _ _)
   | (with_reducible exact LeO.refl _)
   | (with_reducible exact LeO.none _)
   | (with_reducible refine LeO.ite ?_ ?_)
   | (with_reducible refine LeO.bind ?_ (fun _=>?_))
   | exact LeO.none _
   | refine LeO.ite ?_ ?_
   | refine LeO.bind ?_ (fun _=>?_)
theorem solve_shape.mono:∀ a0 a1 k,LeO (solve_shape.f k a0 a1) (solve_shape.f (k+1) a0 a1):=by
 intro a0 a1 k;obtain ⟨ih0,ih1⟩:=solve_shape.mono_l k
 unfold solve_shape.f
 repeat' first
   | (with_reducible exact ih0 _ _ _ _ _ _)
   | (with_reducible exact ih1 _ _ _ _ _ _ _ _ _ _)
   | (with_reducible exact slices_Contains_bool_bool.mono _ _ _)
   | (with_reducible exact LeO.refl _)
   | (with_reducible exact LeO.none _)
   | (with_reducible refine LeO.ite ?_ ?_)
   | (with_reducible refine LeO.bind ?_ (fun _=>?_))
   | exact LeO.none _
   | refine LeO.ite ?_ ?_
   | refine LeO.bind ?_ (fun _=>?_)
set_option maxHeartbeats 8000000 in
set_option maxRecDepth 100000 in
theorem solve_shape.calls (k:Nat) (A0:Option Addr) (c0:Nat) (l0:List (S49)) (A1_0:Option Addr) (c1_0:Nat) (l1_0:List (S96)) (r:Bool) (w:World) (hr0:Kd.C k49 w A0 l0.length l0) (hc0:l0.length≤c0) (hr1_0:Kd.C k96 w A1_0 l1_0.length l1_0) (hc1_0:l1_0.length≤c1_0) (h:solve_shape.f k l0 l1_0=some r) :
  Calls Tryz.prog 67 #[.slice A0 l0.length c0,.agg #[.slice A1_0 l1_0.length c1_0]] w fun e w'=>e=.returned (.bool r)∧Below w.heap.size w w':=by
 have HR0:=zA hr0;have HC0:=zA hc0;clear hr0 hc0;have HR1_0:=zA hr1_0;have HC1_0:=zA hc1_0;clear hr1_0 hc1_0;have HB:=zA (Below.refl w.heap.size w);have H:(if (l1_0.length:Int)=0 then (some false) else (if (l1_0.length:Int)>2000 then (some false) else (if 0≤(l1_0.length:Int) then (if ((l1_0.length:Int):Int).toNat≤281474976710656 then (solve_shape.l0 k l0 (l1_0.length:Int) (List.replicate ((l1_0.length:Int):Int).toNat false) l1_0 (l1_0.length:Int) 0) else (none)) else (none))))=some r:=h;clear h;have HC3:=zA H;clear H
 go_enter Tryz.func67,Tryz.ntmps67
 try go_wp2_with (first|((with_reducible refine gd 3 rfl ?_);(try (refine gate_guard (by rfl) ?_;dsimp only));refine zx #[.slice A1_0 l1_0.length c1_0] 26 ?_;intro gb74 hg w4 BK74 hb GW74 HB1;have GE74:=GW74;clear HB hb hg;have HB:=HB1;clear HB1))
 refine wp_scope_straight ?_;(try simp only [Act.put,zi,zs,zt]);have H:=HC3.out;clear HC3
 rcases ife H with ⟨c5b0,c5b1,H⟩|⟨c5,c5b0,c5b1,H⟩
 ·(first|rw [c5b0]|(simp only [i64_w,i32_w];rw [c5b0])|skip)
  (try rw [c5b1]);obtain rfl:=Option.some.inj H;have hcz6_0:=zc0 BK74;have hfz6_0:=zf BK74 0
  go_wp2
  go_ret
  exact ⟨ze,zv1 HB GE74⟩
 ·have c5b2:¬ (l1_0=[]):=fun h_=>c5 (by rw [h_];rfl)
  (first|rw [c5b0]|(simp only [i64_w,i32_w];rw [c5b0])|skip)
  (try rw [c5b1]);(try rw [c5b2])
  rcases if0 H with ⟨c7,H⟩|⟨c7,H⟩
  ·have c7b0:decide (2000<(l1_0.length:Int))=true:=decide_eq_true c7;have c7b1:decide (2000<l1_0.length)=true:=decide_eq_true (by omega);clear c7;obtain rfl:=Option.some.inj H;have hcz8_0:=zc0 BK74;have hfz8_0:=zf BK74 0
   go_wp2
   go_ret
   exact ⟨ze,zv1 HB GE74⟩
  ·have c7b0:decide (2000<(l1_0.length:Int))=false:=decide_eq_false c7;have c7b1:decide (2000<l1_0.length)=false:=decide_eq_false (by omega);clear c7;obtain ⟨c9,H⟩:=if1 H;have c9b0:=eq_true c9;have c9b1:decide (0≤(l1_0.length:Int))=true:=decide_eq_true c9;clear c9;obtain ⟨c10,H⟩:=if1 H;have c10b0:=eq_true c10;have c10b1:decide (((l1_0.length:Int):Int).toNat≤281474976710656)=true:=decide_eq_true c10;clear c10
   first|(replace H:=zyb (List.replicate ((l1_0.length:Int):Int).toNat false) H;obtain ⟨y81,Ny81,H⟩:=H)|(obtain ⟨y81,hy81⟩:=zY (List.replicate ((l1_0.length:Int):Int).toNat false);(try rw (occs:=.pos [1]) [← hy81] at H);have Ny81:=zA hy81;clear hy81)
   have HC11:=zA H;clear H;have hcz12_0:=zc0 BK74;have hfz12_0:=zf BK74 0
   try go_wp2_with (first|((with_reducible refine gate_dst (N:=21) rfl ?_);(try (refine gate_guard (by rfl) ?_;dsimp only));refine Kd.R_make Kd.bool _ 4 rfl (N:=21) rfl 83 _ _ rfl (l1_0.length:Int) rfl rfl Tryz.underlying83 (.bool false) 1 info4 rfl (by decide) (by omega) false (ok:=fun _=>True) (okp:=fun _=>True) rfl (fun _ hk=>hk) trivial (of_decide_eq_true zh) (Nat.le_trans (Nat.mul_le_mul_right _ (of_decide_eq_true zh:(l1_0.length:Int).toNat≤281474976710656)) (by omega)) (Below.refl _ _) (Nat.le_refl _) ?_;intro v92 w13 ho14 hb hg_ hnew_;clear hg_ hnew_;(first|rw [← Ny81.out] at ho14|(simp only [Int.reduceToNat] at ho14;rw [← Ny81.out] at ho14));have HO95:=zA (Kd.R_lower ho14 (below_size zB));replace BK74:=zw BK74 hb;replace HB:=zu hb;clear hb ho14))
   refine wp_label ?_;(try simp only [Act.put,zi,zs,zt]);have H:=HC11.out;clear HC11;have H':=zA H;clear H;have hcz15_0:=zc0 BK74;have hfz15_0:=zf BK74 0
   go_wp2
   go_loopg [25] k (fun kq v25 w'=>∃ (x6_1:List Bool) (x25_1:Int),v25=.int .i64 x25_1∧Aside0 (solve_shape.l0 kq l0 (l1_0.length:Int) x6_1 l1_0 (l1_0.length:Int) x25_1=some r)∧Aside0 (kq≤k)∧Aside0 (Kd.R Kd.bool 4 w' w.heap.size (fun _=>True) v92 x6_1)∧Aside0 (w'.heap[gb74]?=some (.cells #[(.slice A1_0 l1_0.length c1_0)] 26 (0,0)))∧Aside0 (Below w.heap.size w w'))
   case atStart=>exact ⟨(y81),(0),zT,H',⟨Nat.le_refl _⟩,⟨by refine zr ?_;exact HO95.out⟩,⟨by refine zj ?_;exact BK74.out⟩,⟨zv1 HB GE74⟩⟩
   case round=>
    clear H'
    try clear c5
    try clear c5b0
    try clear c5b1
    try clear c5b2
    try clear c7
    try clear c7b0
    try clear c7b1
    try clear c9
    try clear c9b0
    try clear c9b1
    try clear c10
    try clear c10b0
    try clear c10b1
    try clear hcz12_0
    try clear hcz15_0
    try clear hfz12_0
    try clear hfz15_0
    obtain ⟨x6_1,x25_1,rfl,HA,HK1,HO_6,BK74,HB⟩:=hrel
    cases gk with
    | zero=>exact absurd HA.out (by simp [solve_shape.l0])
    | succ k1=>
     have H:=HA.out;clear HA;simp only [solve_shape.l0] at H
     rcases ifd H with ⟨c16b0,H⟩|⟨c16b0,H⟩
     ·(first|rw [c16b0]|(simp only [i64_w,i32_w];rw [c16b0])|skip)
      obtain ⟨c17b0,H⟩:=ifd1 H;obtain ⟨c18b0,H⟩:=ifd1 H;have HC19:=zA H;clear H;obtain ⟨p77,q77,ad77,e77,hx77_0,hx77_1,hx77_2,hx77_3⟩:=zp (at_T96 HR1_0.out x25_1)
      cases e77
      replace hx77_0:=zd HB hx77_0;replace hx77_1:=zd HB hx77_1;replace hx77_2:=zd HB hx77_2;replace hx77_3:=zd HB hx77_3;replace p77:=eq_true p77;replace q77:=eq_true q77
      go_upto_if 32 with (first|((with_reducible refine gd 8 rfl ?_);(try (refine gate_guard (by rfl) ?_;dsimp only));refine zx #[.int .i64 0,.int .i64 0,.int .i64 0,.int .i64 0] 96 ?_;intro gb73 hg w20 BK73 hb GW73 HB1;have GE73:=GW73;have NB74_73:=zL hg BK74;have NB73_74:=zLs NB74_73;replace HO_6:=zA (Kd.R_below (zR HO_6) hb);replace BK74:=zw BK74 hb;clear HB hb hg;have HB:=HB1;clear HB1;have hnb21:=NB73_74.out;have hnc21:=NB74_73.out;have hcz22_0:=zc0 BK73;have hcz22_1:=zc1 BK73;have hcz22_2:=zc2 BK73;have hcz22_3:=zc3 BK73;have hfz22_0:=zf BK73))
      (try simp only [Act.put,zi,zs,zt]);have H:=HC19.out;clear HC19
      rcases ife H with ⟨c23b0,c23b1,H⟩|⟨c23,c23b0,c23b1,H⟩
      ·(first|rw [c23b0]|(simp only [i64_w,i32_w];rw [c23b0])|skip)
       (try rw [c23b1])
       rcases ife H with ⟨c24b0,c24b1,H⟩|⟨c24,c24b0,c24b1,H⟩
       ·rcases ife H with ⟨c25b0,c25b1,H⟩|⟨c25,c25b0,c25b1,H⟩
        ·rcases ifd H with ⟨c26b0,H⟩|⟨c26b0,H⟩
         ·obtain rfl:=Option.some.inj H;have hnb27:=NB73_74.out;have hnc27:=NB74_73.out;have hcz28_0:=zc0 BK73;have hcz28_1:=zc1 BK73;have hcz28_2:=zc2 BK73;have hcz28_3:=zc3 BK73;have hfz28_0:=zf BK73
          go_wp2
          go_ret
          exact ⟨ze,zv2 HB GE74 GE73⟩
         ·rcases if0 H with ⟨c29,H⟩|⟨c29,H⟩
          ·have c29b0:decide ((l0.length:Int)≤((rd_T96 l1_0 x25_1).f3))=true:=decide_eq_true c29;clear c29;obtain rfl:=Option.some.inj H;have hnb30:=NB73_74.out;have hnc30:=NB74_73.out;have hcz31_0:=zc0 BK73;have hcz31_1:=zc1 BK73;have hcz31_2:=zc2 BK73;have hcz31_3:=zc3 BK73;have hfz31_0:=zf BK73
           go_wp2
           go_ret
           exact ⟨ze,zv2 HB GE74 GE73⟩
          ·have c29b0:decide ((l0.length:Int)≤((rd_T96 l1_0 x25_1).f3))=false:=decide_eq_false c29;clear c29;have H':=zA H;clear H;have hnb32:=NB73_74.out;have hnc32:=NB74_73.out;have hcz33_0:=zc0 BK73;have hcz33_1:=zc1 BK73;have hcz33_2:=zc2 BK73;have hcz33_3:=zc3 BK73;have hfz33_0:=zf BK73
           go_wp2
           go_roundg k1
           case measure=>have:=HK1.out;omega
           case rel=>exact ⟨(x6_1),(wrap64 (x25_1+1)),zT,H',⟨by have:=HK1.out;omega⟩,⟨by refine zr ?_;exact Kd.R_mono (Kd.R_far (p:=⟨gb73,3,none⟩) (Kd.R_far (p:=⟨gb73,2,none⟩) (Kd.R_far (p:=⟨gb73,1,none⟩) (Kd.R_far (p:=⟨gb73,0,none⟩) (Kd.R_types HO_6.out BK73.out (by decide)) (fun _ hk=>hk.2) (.int .i64 ((rd_T96 l1_0 x25_1).f0))) (fun _ hk=>hk.2) (.int .i64 ((rd_T96 l1_0 x25_1).f1))) (fun _ hk=>hk.2) (.int .i64 ((rd_T96 l1_0 x25_1).f2))) (fun _ hk=>hk.2) (.int .i64 ((rd_T96 l1_0 x25_1).f3))) (fun _ hk=>trivial)⟩,⟨by refine zj ?_;refine blk_far ?_ NB74_73.out _;refine zj ?_;refine blk_far ?_ NB74_73.out _;refine zj ?_;refine blk_far ?_ NB74_73.out _;refine zj ?_;refine blk_far ?_ NB74_73.out _;refine zj ?_;exact BK74.out⟩,⟨zv2 HB GE74 GE73⟩⟩
        ·obtain rfl:=Option.some.inj H;have hnb34:=NB73_74.out;have hnc34:=NB74_73.out;have hcz35_0:=zc0 BK73;have hcz35_1:=zc1 BK73;have hcz35_2:=zc2 BK73;have hcz35_3:=zc3 BK73;have hfz35_0:=zf BK73
         go_wp2
         go_ret
         exact ⟨ze,zv2 HB GE74 GE73⟩
       ·obtain rfl:=Option.some.inj H;have hnb36:=NB73_74.out;have hnc36:=NB74_73.out;have hcz37_0:=zc0 BK73;have hcz37_1:=zc1 BK73;have hcz37_2:=zc2 BK73;have hcz37_3:=zc3 BK73;have hfz37_0:=zf BK73
        go_wp2
        go_ret
        exact ⟨ze,zv2 HB GE74 GE73⟩
      ·(first|rw [c23b0]|(simp only [i64_w,i32_w];rw [c23b0])|skip)
       (try rw [c23b1])
       rcases ifd H with ⟨c38b0,H⟩|⟨c38b0,H⟩
       ·obtain rfl:=Option.some.inj H;have hnb39:=NB73_74.out;have hnc39:=NB74_73.out;have hcz40_0:=zc0 BK73;have hcz40_1:=zc1 BK73;have hcz40_2:=zc2 BK73;have hcz40_3:=zc3 BK73;have hfz40_0:=zf BK73
        go_wp2
        go_ret
        exact ⟨ze,zv2 HB GE74 GE73⟩
       ·rcases if0 H with ⟨c41,H⟩|⟨c41,H⟩
        ·have c41b0:decide (24≤((rd_T96 l1_0 x25_1).f0))=true:=decide_eq_true c41;clear c41;obtain rfl:=Option.some.inj H;have hnb42:=NB73_74.out;have hnc42:=NB74_73.out;have hcz43_0:=zc0 BK73;have hcz43_1:=zc1 BK73;have hcz43_2:=zc2 BK73;have hcz43_3:=zc3 BK73;have hfz43_0:=zf BK73
         go_wp2
         go_ret
         exact ⟨ze,zv2 HB GE74 GE73⟩
        ·have c41b0:decide (24≤((rd_T96 l1_0 x25_1).f0))=false:=decide_eq_false c41;clear c41
         rcases ife H with ⟨c44b0,c44b1,H⟩|⟨c44,c44b0,c44b1,H⟩
         ·first|(replace H:=zyb (([(rd_T96 l1_0 x25_1).f1,(rd_T96 l1_0 x25_1).f2]:List Int)) H;obtain ⟨y76,Ny76,H⟩:=H)|(obtain ⟨y76,hy76⟩:=zY (([(rd_T96 l1_0 x25_1).f1,(rd_T96 l1_0 x25_1).f2]:List Int));(try rw (occs:=.pos [1]) [← hy76] at H);have Ny76:=zA hy76;clear hy76)
          have H':=zA H;clear H;have hnb45:=NB73_74.out;have hnc45:=NB74_73.out;have hcz46_0:=zc0 BK73;have hcz46_1:=zc1 BK73;have hcz46_2:=zc2 BK73;have hcz46_3:=zc3 BK73;have hfz46_0:=zf BK73
          go_wp2_with (first|((with_reducible refine gate_dst (N:=70) rfl ?_);(try (refine gate_guard (by rfl) ?_;dsimp only));refine Kd.R_lit (Kd.int .i64) _ 3 ?hg (N:=70) ?hd (xs:=([(rd_T96 l1_0 x25_1).f1,(rd_T96 l1_0 x25_1).f2]:List Int)) (inner:=[.int .i64 ((rd_T96 l1_0 x25_1).f1),.int .i64 ((rd_T96 l1_0 x25_1).f2)]) (ok:=fun _=>True) (okp:=fun _=>True) ?hr ?hp (fun _ hk=>hk) trivial (Below.refl _ _) (Nat.le_refl _) (by simp) ?_;(case hd=>rfl);(case hg=>rfl);(case hr=>first|(go_simp;done)|(go_simp;rfl));(case hp=>exact (Reps.one (show Kd.M (Kd.int .i64) _ _ _ ((rd_T96 l1_0 x25_1).f1) [.int .i64 ((rd_T96 l1_0 x25_1).f1)] from rfl) (Reps.one (show Kd.M (Kd.int .i64) _ _ _ ((rd_T96 l1_0 x25_1).f2) [.int .i64 ((rd_T96 l1_0 x25_1).f2)] from rfl) (Reps.none _ _))));intro v98 w47 ho48 hb hg_ hnew_;clear hg_ hnew_;(first|rw [← Ny76.out] at ho48|(simp only [Int.reduceToNat] at ho48;rw [← Ny76.out] at ho48));have HO93:=zA (Kd.R_lower ho48 (below_size zB));replace HO_6:=zA (Kd.R_below (by refine zr ?_;exact (Kd.R_mono (Kd.R_far (p:=⟨gb73,3,none⟩) (Kd.R_far (p:=⟨gb73,2,none⟩) (Kd.R_far (p:=⟨gb73,1,none⟩) (Kd.R_far (p:=⟨gb73,0,none⟩) (Kd.R_types HO_6.out BK73.out (by decide)) (fun _ hk=>hk.2) (.int .i64 ((rd_T96 l1_0 x25_1).f0))) (fun _ hk=>hk.2) (.int .i64 ((rd_T96 l1_0 x25_1).f1))) (fun _ hk=>hk.2) (.int .i64 ((rd_T96 l1_0 x25_1).f2))) (fun _ hk=>hk.2) (.int .i64 ((rd_T96 l1_0 x25_1).f3))) (fun _ h_=>h_.1))) hb);replace BK74:=zA (blk_below (g:=gb74) (o:=.cells #[.slice (some ad77) l1_0.length c1_0] 26 (0,0)) (by refine zj ?_;refine blk_far ?_ NB74_73.out _;refine zj ?_;refine blk_far ?_ NB74_73.out _;refine zj ?_;refine blk_far ?_ NB74_73.out _;refine zj ?_;refine blk_far ?_ NB74_73.out _;refine zj ?_;exact BK74.out) hb);replace BK73:=zA (blk_below (g:=gb73) (o:=.cells #[.int .i64 ((rd_T96 l1_0 x25_1).f0),.int .i64 ((rd_T96 l1_0 x25_1).f1),.int .i64 ((rd_T96 l1_0 x25_1).f2),.int .i64 ((rd_T96 l1_0 x25_1).f3)] 96 (0,0)) (by refine zj ?_;refine blk_put (cs:=#[.int .i64 ((rd_T96 l1_0 x25_1).f0),.int .i64 ((rd_T96 l1_0 x25_1).f1),.int .i64 ((rd_T96 l1_0 x25_1).f2),.int .i64 0]) ?_ 3 _ rfl;refine zj ?_;refine blk_put (cs:=#[.int .i64 ((rd_T96 l1_0 x25_1).f0),.int .i64 ((rd_T96 l1_0 x25_1).f1),.int .i64 0,.int .i64 0]) ?_ 2 _ rfl;refine zj ?_;refine blk_put (cs:=#[.int .i64 ((rd_T96 l1_0 x25_1).f0),.int .i64 0,.int .i64 0,.int .i64 0]) ?_ 1 _ rfl;refine zj ?_;refine blk_put (cs:=#[.int .i64 0,.int .i64 0,.int .i64 0,.int .i64 0]) ?_ 0 _ rfl;refine zj ?_;exact BK73.out) hb);replace HB:=zu hb;clear hb ho48;obtain ⟨Ao49,co49,eo49⟩:=Kd.R_slice HO93.out;subst eo49))
          go_loopg [72] k1 (fun kq v72 w'=>∃ (x6_2:List Bool) (x72_2:Int),v72=.int .i64 x72_2∧Aside0 (solve_shape.l1 kq l0 (l1_0.length:Int) x6_2 x25_1 l1_0 (l1_0.length:Int) x25_1 y76 (y76.length:Int) x72_2=some r)∧Aside0 (kq≤k1)∧Aside0 (Kd.R Kd.bool 4 w' w.heap.size (fun _=>True) v92 x6_2)∧Aside0 (Kd.R (Kd.int .i64) 3 w' w.heap.size (fun _=>True) (.slice Ao49 y76.length co49) y76)∧Aside0 (w'.heap[gb74]?=some (.cells #[(.slice (some ad77) l1_0.length c1_0)] 26 (0,0)))∧Aside0 (w'.heap[gb73]?=some (.cells #[.int .i64 ((rd_T96 l1_0 x25_1).f0),.int .i64 ((rd_T96 l1_0 x25_1).f1),.int .i64 ((rd_T96 l1_0 x25_1).f2),.int .i64 ((rd_T96 l1_0 x25_1).f3)] 96 (0,0)))∧Aside0 (Below w.heap.size w w'))
          case atStart=>exact ⟨(x6_1),(0),zT,H',⟨Nat.le_refl _⟩,⟨by refine zr ?_;exact HO_6.out⟩,⟨by refine zr ?_;exact HO93.out⟩,⟨by refine zj ?_;exact BK74.out⟩,⟨by refine zj ?_;exact BK73.out⟩,⟨zv2 HB GE74 GE73⟩⟩
          case round=>
           clear H'
           try clear c5
           try clear c5b0
           try clear c5b1
           try clear c5b2
           try clear c7
           try clear c7b0
           try clear c7b1
           try clear c9
           try clear c9b0
           try clear c9b1
           try clear c10
           try clear c10b0
           try clear c10b1
           try clear c16
           try clear c16b0
           try clear c17
           try clear c17b0
           try clear c18
           try clear c18b0
           try clear c23
           try clear c23b0
           try clear c23b1
           try clear c38
           try clear c38b0
           try clear c41
           try clear c41b0
           try clear c44
           try clear c44b0
           try clear c44b1
           try clear hcz12_0
           try clear hcz15_0
           try clear hcz22_0
           try clear hcz22_1
           try clear hcz22_2
           try clear hcz22_3
           try clear hcz46_0
           try clear hcz46_1
           try clear hcz46_2
           try clear hcz46_3
           try clear hfz12_0
           try clear hfz15_0
           try clear hfz22_0
           try clear hfz22_1
           try clear hfz22_2
           try clear hfz22_3
           try clear hfz46_0
           try clear hfz46_1
           try clear hfz46_2
           try clear hfz46_3
           try clear hx77_0
           try clear hx77_1
           try clear hx77_2
           try clear hx77_3
           try clear p77
           try clear q77
           obtain ⟨x6_2,x72_2,rfl,HA,HK2,HO_6,HO_70,BK74,BK73,HB⟩:=hrel
           cases gk with
           | zero=>exact absurd HA.out (by simp [solve_shape.l1])
           | succ k2=>
            have H:=HA.out;clear HA;simp only [solve_shape.l1] at H
            rcases ifd H with ⟨c50b0,H⟩|⟨c50b0,H⟩
            ·obtain ⟨c51b0,H⟩:=ifd1 H;obtain ⟨c52b0,H⟩:=ifd1 H
             rcases ifd H with ⟨c53b0,H⟩|⟨c53b0,H⟩
             ·obtain rfl:=Option.some.inj H;obtain ⟨p75,q75,ad75,e75,hx75_0⟩:=zp (Kd.at_int (Kd.R_reads' HO_70.out).2.2 x72_2)
              cases e75
              replace p75:=eq_true p75;replace q75:=eq_true q75
              go_wp2
              go_ret
              exact ⟨ze,zv2 HB GE74 GE73⟩
             ·rcases if0 H with ⟨c54,H⟩|⟨c54,H⟩
              ·have c54b0:decide ((l1_0.length:Int)≤(rd y76 x72_2))=true:=decide_eq_true c54;clear c54;obtain rfl:=Option.some.inj H;obtain ⟨p75,q75,ad75,e75,hx75_0⟩:=zp (Kd.at_int (Kd.R_reads' HO_70.out).2.2 x72_2)
               cases e75
               replace p75:=eq_true p75;replace q75:=eq_true q75
               go_wp2
               go_ret
               exact ⟨ze,zv2 HB GE74 GE73⟩
              ·have c54b0:decide ((l1_0.length:Int)≤(rd y76 x72_2))=false:=decide_eq_false c54;clear c54;obtain ⟨c55b0,H⟩:=ifd1 H;obtain ⟨c56b0,H⟩:=ifd1 H
               obtain ⟨bq57,hbq57⟩:∃ b_:Bool,b_=(rdOf false x6_2 (rd y76 x72_2)):=⟨_,rfl⟩
               replace H:(if bq57=true then (some false) else (solve_shape.l1 k2 l0 (l1_0.length:Int) (x6_2.set ((rd y76 x72_2):Int).toNat true) x25_1 l1_0 (l1_0.length:Int) x25_1 y76 (y76.length:Int) (wrap64 (x72_2+1))))=some r:=by rw [← hbq57] at H;exact H
               have Nbq57:=zA hbq57;clear hbq57
               by_cases c58:bq57=true
               ·subst c58
                have H1:(some false)=some r:=by rw [if_pos rfl] at H;exact H
                clear H;have H:=H1;clear H1;obtain rfl:=Option.some.inj H;obtain ⟨p75,q75,ad75,e75,hx75_0⟩:=zp (Kd.at_int (Kd.R_reads' HO_70.out).2.2 x72_2)
                cases e75
                replace p75:=eq_true p75;replace q75:=eq_true q75;obtain ⟨Ao59,co59,eo59⟩:=Kd.R_slice HO_6.out;subst eo59;obtain ⟨p78,q78,ad78,e78,hx78_0⟩:=zp (Kd.at_bool (Kd.R_reads' HO_6.out).2.2 (rd y76 x72_2));(try rw [← Nbq57.out] at hx78_0)
                cases e78
                replace p78:=eq_true p78;replace q78:=eq_true q78
                go_wp2
                go_ret
                exact ⟨ze,zv2 HB GE74 GE73⟩
               ·replace c58:=Bool.eq_false_iff.mpr c58;subst c58
                have H1:(solve_shape.l1 k2 l0 (l1_0.length:Int) (x6_2.set ((rd y76 x72_2):Int).toNat true) x25_1 l1_0 (l1_0.length:Int) x25_1 y76 (y76.length:Int) (wrap64 (x72_2+1)))=some r:=by rw [if_neg (show ¬ (false=true) by decide)] at H;exact H
                clear H;have H:=H1;clear H1
                first|(replace H:=zyb (x6_2.set ((rd y76 x72_2):Int).toNat true) H;obtain ⟨y82,Ny82,H⟩:=H)|(obtain ⟨y82,hy82⟩:=zY (x6_2.set ((rd y76 x72_2):Int).toNat true);(try rw (occs:=.pos [1]) [← hy82] at H);have Ny82:=zA hy82;clear hy82)
                have H':=zA H;clear H;obtain ⟨p75,q75,ad75,e75,hx75_0⟩:=zp (Kd.at_int (Kd.R_reads' HO_70.out).2.2 x72_2)
                cases e75
                replace p75:=eq_true p75;replace q75:=eq_true q75;obtain ⟨Ao61,co61,eo61⟩:=Kd.R_slice HO_6.out;subst eo61;obtain ⟨p78,q78,ad78,e78,hx78_0⟩:=zp (Kd.at_bool (Kd.R_reads' HO_6.out).2.2 (rd y76 x72_2));(try rw [← Nbq57.out] at hx78_0)
                cases e78
                replace p78:=eq_true p78;replace q78:=eq_true q78;have p60:0≤((rd y76 x72_2):Int):=of_decide_eq_true zh;have q60:((rd y76 x72_2):Int)<((x6_2.length:Int):Int):=of_decide_eq_true zh;obtain ⟨go60,co60,eo60,gb60,gl60,cl60,HG60⟩:=Kd.R_form HO_6.out (by omega)
                (first|cases eo60|(injection eo60 with ea_ en_ ec_;(first|subst ea_|(injection ea_ with ea_;subst ea_));subst ec_;clear en_))
                have GB60:=zA gb60;have GG60:=zA HG60;clear gb60 gl60 HG60
                (first|simp only [add_plain] at hx78_0|skip)
                obtain ⟨hx60_0,hf60_0⟩:=Kd.R_celln false HO_6.out ((rd y76 x72_2):Int) p60 q60;replace p60:=eq_true p60;replace q60:=eq_true q60;have HP62:=Kd.R_putg HO_6.out ((rd y76 x72_2):Int) true
                go_wp2_with (first|((with_reducible refine gate_store (t:=4) (p:=92) rfl ?_);refine store_event (t:=4) (p:=92) (v:=?vo_w63) (w1:=(wr.setCell ⟨go60,((rd y76 x72_2):Int).toNat,none⟩ (.bool true))) ?hg ?ho ?hn ?hr ?_;(case ho=>rfl);(case hg=>rfl);(case hn=>rfl);(case hr=>first|(go_simp;done)|(go_simp;rfl));intro w63 hw;have hg:wr.grownBy w63 (some go60):=(by rw [hw];exact HP62.2);have hp_:Kd.R Kd.bool 4 w63 w.heap.size (fun _=>True) (.slice (some ⟨go60,0,none⟩) x6_2.length co61) y82:=(by rw [hw,Ny82.out];exact HP62.1);clear HP62;replace HO_70:=zA (Kd.R_over' (v:=(.slice (some ⟨go60,0,none⟩) x6_2.length co61)) (zR HO_70) (Kd.R_typed HO_6.out) (by decide) hg);replace BK74:=zA (blk_grown (g:=gb74) (o:=.cells #[.slice (some ad77) l1_0.length c1_0] 26 (0,0)) (zk BK74) hg (Kd.R_ne HO_6.out BK74.out (by decide)));replace BK73:=zA (blk_grown (g:=gb73) (o:=.cells #[.int .i64 ((rd_T96 l1_0 x25_1).f0),.int .i64 ((rd_T96 l1_0 x25_1).f1),.int .i64 ((rd_T96 l1_0 x25_1).f2),.int .i64 ((rd_T96 l1_0 x25_1).f3)] 96 (0,0)) (zk BK73) hg (Kd.R_ne HO_6.out BK73.out (by decide)));replace HO_6:=zA (hp_);replace HB:=zA ((by rw [hw];exact below_set (HB.out) GB60.out:Below w.heap.size w w63));clear hg hw hp_))
                go_roundg k2
                case measure=>have:=HK1.out;have:=HK2.out;omega
                case rel=>exact ⟨(y82),(wrap64 (x72_2+1)),zT,H',⟨by have:=HK1.out;have:=HK2.out;omega⟩,⟨by refine zr ?_;exact HO_6.out⟩,⟨by refine zr ?_;exact HO_70.out⟩,⟨by refine zj ?_;exact BK74.out⟩,⟨by refine zj ?_;exact BK73.out⟩,⟨zv2 HB GE74 GE73⟩⟩
            ·have H':=zA H;clear H
             go_wp2
             go_roundg k2
             case measure=>have:=HK1.out;have:=HK2.out;omega
             case rel=>exact ⟨(x6_2),(wrap64 (x25_1+1)),zT,H',⟨by have:=HK1.out;have:=HK2.out;omega⟩,⟨by refine zr ?_;exact HO_6.out⟩,⟨by refine zj ?_;exact BK74.out⟩,⟨zv2 HB GE74 GE73⟩⟩
         ·obtain rfl:=Option.some.inj H;have hnb64:=NB73_74.out;have hnc64:=NB74_73.out;have hcz65_0:=zc0 BK73;have hcz65_1:=zc1 BK73;have hcz65_2:=zc2 BK73;have hcz65_3:=zc3 BK73;have hfz65_0:=zf BK73
          go_wp2
          go_ret
          exact ⟨ze,zv2 HB GE74 GE73⟩
     ·(first|rw [c16b0]|(simp only [i64_w,i32_w];rw [c16b0])|skip)
      obtain ⟨c66,H⟩:=if1 H;have c66b0:=eq_true c66;have c66b1:decide (1≤(x6_1.length:Int))=true:=decide_eq_true c66;clear c66
      first|(replace H:=zyb (x6_1.drop 1) H;obtain ⟨y80,Ny80,H⟩:=H)|(obtain ⟨y80,hy80⟩:=zY (x6_1.drop 1);(try rw (occs:=.pos [1]) [← hy80] at H);have Ny80:=zA hy80;clear hy80)
      obtain ⟨t89,A67,H⟩:=zo H;obtain rfl:=Option.some.inj H;obtain ⟨Ao69,co69,eo69⟩:=Kd.R_slice HO_6.out;subst eo69;have q68:(1:Int)≤((x6_1.length:Int):Int):=of_decide_eq_true zh;obtain ⟨i91,hi91,_,hsz68,_⟩:=info_parts info4;have hroom68:x6_1.length≤co69:=(Kd.R_reads' HO_6.out).2.1;have hC68:Kd.C Kd.bool _ Ao69 x6_1.length x6_1:=(Kd.R_reads' HO_6.out).2.2;have hcut68:=cut_from (P:=Tryz.prog) 83 4 .i64 Tryz.underlying83 hi91 1 hsz68 Ao69 x6_1.length co69 1 (by omega) q68;have hr68:=Kd.C_drop (m:=(1:Int).toNat) (c:=co69) hC68 (by omega) hroom68
      obtain ⟨A68,hA68⟩:∃ A1,A1=(if co69=(1:Int).toNat then Ao69 else (Ao69:Option Addr).map (·.add ((1:Int).toNat * 1))):=⟨_,rfl⟩
      obtain ⟨c68,hc68⟩:∃ c1,c1=co69 - (1:Int).toNat:=⟨_,rfl⟩
      have hy68:y80.length=x6_1.length - (1:Int).toNat:=(by rw [Ny80.out,List.length_drop] <;> omega)
      rw [show (x6_1).drop (1:Int).toNat=y80 from Ny80.out.symm] at hr68
      replace hr68:Kd.C Kd.bool _ A68 y80.length y80:=(by rw [hA68];exact hr68)
      rw [← hy68,← hA68,← hc68] at hcut68;have HR88:=zA hr68;have HC88:=zA (show y80.length≤c68 from by rw [hy68,hc68];exact Nat.sub_le_sub_right hroom68 _);clear hr68 hC68 hroom68 hi91 hsz68 hc68;have KY68:=zA hy68;have KA68:=zA hA68;clear hy68 hA68;have KL68:=zA (show 1≤x6_1.length from by omega);replace q68:=eq_true q68
      go_wp2_with (first|((with_reducible refine gate_callee (f:=90) rfl ?_);refine zgo 97 Tryz.func90 #[.slice A68 y80.length c68,.bool false] ?_;(with_reducible refine (slices_Contains_bool_bool.calls k1 _ _ y80 false t89 _ ?side1 HC88.out A67.out).mono ?_);(case side1=>repeat (first|exact (by repeat (first|(with_reducible exact HR88.out)|(with_reducible refine Kd.C_alloc ?_ _)|(with_reducible refine Kd.C_drewN ?_ _)|(with_reducible refine Kd.C_drew ?_)|exact HR88.out))|(with_reducible refine Kd.C_alloc ?_ _)|(with_reducible refine Kd.C_drewN ?_ _)|(with_reducible refine Kd.C_drew ?_)));rintro e w' ⟨rfl,⟨nd,rfl⟩⟩;refine ⟨_,rfl,?_⟩))
      go_ret
      exact ⟨ze,zv1 HB GE74⟩
end Go.Proofs.YtkjghablbeaioaaGreat.B
