import Derived.Test.YtkjghablbeaioaaGreatB0
import Derived.Test.YtkjghablbeaioaaGreatB2
import Derived.Test.YtkjghablbeaioaaGreatB3
import Derived.Test.YtkjghablbeaioaaGreatB5
import Derived.Test.YtkjghablbeaioaaGreatB6
import Derived.Test.YtkjghablbeaioaaGreatB8
import Derived.Test.YtkjghablbeaioaaGreatB12
namespace Go.Proofs.YtkjghablbeaioaaGreat.B
open Go.RowKit Go.Proofs.YtkjghablbeaioaaGreatW.PrintWords Go.Proofs.YtkjghablbeaioaaGreatW.PrintLast Go.Proofs.YtkjghablbeaioaaGreatW.PrintMore
attribute [local go_sem] max2_int min2_int max_two min_two max_three min_three max_four min_four Tryz.underlying23 Tryz.underlying26 Tryz.underlying28 Tryz.underlying3 Tryz.underlying49
set_option linter.unusedVariables false
set_option linter.unusedSimpArgs false
def api_Table_solve_Holds_1_v2.l0:Nat→List (S49)→Int→Int→Int→Option (Int)
 | 0,_,_,_,_=>none
 | k+1,x0,x7,x8,x71=>if x8<x7 then (if 0≤x8 then (if x8<(x0.length:Int) then ((solve_Holds_1_v1.f k ((rd_T49 x0 x8).f0) ((rd_T49 x0 x8).f1) x71).bind fun t79=>(if t79=true then (some x8) else (api_Table_solve_Holds_1_v2.l0 k x0 x7 (wrap64 (x8+1)) x71))) else (none)) else (none)) else (some (-1))
def api_Table_solve_Holds_1_v2.f (k:Nat) (l0:List (S49)) (a1_0:Int):Option (Int):=api_Table_solve_Holds_1_v2.l0 k l0 (l0.length:Int) 0 a1_0
set_option maxHeartbeats 8000000 in
set_option maxRecDepth 100000 in
theorem api_Table_solve_Holds_1_v2.calls (k:Nat) (A0:Option Addr) (c0:Nat) (l0:List (S49)) (gp1_0:Nat) (a1_0:Int) (r:Int) (w:World) (hr0:Kd.C k49 w A0 l0.length l0) (hc0:l0.length≤c0) (hb_gp1_0:w.heap[gp1_0]?=some (.cells #[.int .i64 a1_0] 3 (0,0))) (h:api_Table_solve_Holds_1_v2.f k l0 a1_0=some r) :
  Calls Tryz.prog 93 #[.slice A0 l0.length c0,.func (.func 71) #[] #[.pointer (some ⟨gp1_0,0,none⟩)]] w fun e w'=>e=.returned (.int .i64 r)∧Below w.heap.size w w':=by
 have HR0:=zA hr0;have HC0:=zA hc0;clear hr0 hc0;have BK65:=zA hb_gp1_0;clear hb_gp1_0;have HB:=zA (Below.refl w.heap.size w);have H:(api_Table_solve_Holds_1_v2.l0 k l0 (l0.length:Int) 0 a1_0)=some r:=h;clear h;have H':=zA H;clear H
 go_enter Tryz.func93,Tryz.ntmps93
 go_wp2
 go_loopg [8] k (fun kq v8 w'=>∃ (x8_1:Int),v8=.int .i64 x8_1∧Aside0 (api_Table_solve_Holds_1_v2.l0 kq l0 (l0.length:Int) x8_1 a1_0=some r)∧Aside0 (kq≤k)∧Aside0 (w'.heap[gp1_0]?=some (.cells #[.int .i64 a1_0] 3 (0,0)))∧Aside0 (Below w.heap.size w w'))
 case atStart=>exact ⟨(0),zT,H',⟨Nat.le_refl _⟩,⟨by refine zj ?_;exact BK65.out⟩,⟨zv0 HB⟩⟩
 case round=>
  clear H';obtain ⟨x8_1,rfl,HA,HK1,BK65,HB⟩:=hrel
  cases gk with
  | zero=>exact absurd HA.out (by simp [api_Table_solve_Holds_1_v2.l0])
  | succ k1=>
   have H:=HA.out;clear HA;simp only [api_Table_solve_Holds_1_v2.l0] at H
   rcases ifd H with ⟨c3b0,H⟩|⟨c3b0,H⟩
   ·obtain ⟨c4b0,H⟩:=ifd1 H;obtain ⟨c5b0,H⟩:=ifd1 H;obtain ⟨t79,A6,H⟩:=zo H;have HC7:=zA H;clear H;obtain ⟨p47,q47,ad47,A47_0,c47_0,A47_1,c47_1,e47,hx47_0,hx47_1,hl47_0,hi47_0,hl47_1,hi47_1⟩:=zp (at_T49 HR0.out x8_1)
    cases e47
    replace hx47_0:=zd HB hx47_0;replace hx47_1:=zd HB hx47_1;have HR47_0:=zA hi47_0;have HC47_0:=zA hl47_0;clear hi47_0 hl47_0;have HR47_1:=zA hi47_1;have HC47_1:=zA hl47_1;clear hi47_1 hl47_1;replace p47:=eq_true p47;replace q47:=eq_true q47
    go_upto_if 16 with (first|(go_at_call 71;(with_reducible refine (solve_Holds_1_v1.calls k1 _ _ ((rd_T49 l0 x8_1).f0) _ _ ((rd_T49 l0 x8_1).f1) gp1_0 a1_0 t79 _ (zD HR47_0 HB) HC47_0.out (zD HR47_1 HB) HC47_1.out ?side5 A6.out).mono ?_);(case side5=>refine zj ?_;exact BK65.out);rintro e w8 ⟨rfl,hb⟩;replace BK65:=zw BK65 hb;replace HB:=zu hb;clear hb))
    (try simp only [Act.put,zi,zs,zt]);have H:=HC7.out;clear HC7
    by_cases c9:t79=true
    ·subst c9
     have H1:(some x8_1)=some r:=by rw [if_pos rfl] at H;exact H
     clear H;have H:=H1;clear H1;obtain rfl:=Option.some.inj H
     go_wp2
     go_ret
     exact ⟨ze,zv0 HB⟩
    ·replace c9:=Bool.eq_false_iff.mpr c9;subst c9
     have H1:(api_Table_solve_Holds_1_v2.l0 k1 l0 (l0.length:Int) (wrap64 (x8_1+1)) a1_0)=some r:=by rw [if_neg (show ¬ (false=true) by decide)] at H;exact H
     clear H;have H:=H1;clear H1;have H':=zA H;clear H
     go_wp2
     go_roundg k1
     case measure=>have:=HK1.out;omega
     case rel=>exact ⟨(wrap64 (x8_1+1)),zT,H',⟨by have:=HK1.out;omega⟩,⟨by refine zj ?_;exact BK65.out⟩,⟨zv0 HB⟩⟩
   ·obtain rfl:=Option.some.inj H
    go_wp2
    go_ret
    exact ⟨ze,zv0 HB⟩
def api_Table_solve_Holds_1.f (k:Nat) (l0:List (S49)) (a1_0:Int):Option (Bool):=(api_Table_solve_Holds_1_v2.f k l0 a1_0).bind fun t72=>(some (decide (t72≥0)))
set_option maxHeartbeats 8000000 in
set_option maxRecDepth 100000 in
theorem api_Table_solve_Holds_1.calls (k:Nat) (A0:Option Addr) (c0:Nat) (l0:List (S49)) (gp1_0:Nat) (a1_0:Int) (r:Bool) (w:World) (hr0:Kd.C k49 w A0 l0.length l0) (hc0:l0.length≤c0) (hb_gp1_0:w.heap[gp1_0]?=some (.cells #[.int .i64 a1_0] 3 (0,0))) (h:api_Table_solve_Holds_1.f k l0 a1_0=some r) :
  Calls Tryz.prog 70 #[.slice A0 l0.length c0,.func (.func 71) #[] #[.pointer (some ⟨gp1_0,0,none⟩)]] w fun e w'=>e=.returned (.bool r)∧Below w.heap.size w w':=by
 have HR0:=zA hr0;have HC0:=zA hc0;clear hr0 hc0;have BK84:=zA hb_gp1_0;clear hb_gp1_0;have HB:=zA (Below.refl w.heap.size w);have H:((api_Table_solve_Holds_1_v2.f k l0 a1_0).bind fun t72=>(some (decide (t72≥0))))=some r:=h;clear h;obtain ⟨t72,A3,H⟩:=zo H;obtain rfl:=Option.some.inj H
 go_enter Tryz.func70,Tryz.ntmps70
 go_wp2_with (first|((with_reducible refine gate_callee (f:=93) rfl ?_);refine zgo 7 Tryz.func93 #[.slice A0 l0.length c0,.func (.func 71) #[] #[.pointer (some ⟨gp1_0,0,none⟩)]] ?_;(with_reducible refine (api_Table_solve_Holds_1_v2.calls k _ _ l0 gp1_0 a1_0 t72 _ ?side1 HC0.out ?side3 A3.out).mono ?_);(case side1=>repeat (first|exact HR0.out|(with_reducible refine Kd.C_alloc ?_ _)|(with_reducible refine Kd.C_drewN ?_ _)|(with_reducible refine Kd.C_drew ?_)));(case side3=>refine zj ?_;exact BK84.out);rintro e w4 ⟨rfl,hb⟩;refine ⟨_,rfl,?_⟩;replace BK84:=zw BK84 hb;replace HB:=zu hb;clear hb))
 go_ret
 exact ⟨ze,zv0 HB⟩
def solve_Holds.l0:Nat→List (S49)→Int→List Int→Int→Int→Int→Option (Bool)
 | 0,_,_,_,_,_,_=>none
 | k+1,x0,x5,x20,x21,x22,x60=>if x22<x21 then (if 0≤x22 then (if x22<(x20.length:Int) then (if 0≤(rd x20 x22) then (solve_Holds.l0 k x0 (Go.bits .or .i64 x5 (shl .i64 1 (rd x20 x22))) x20 x21 (wrap64 (x22+1)) x60) else (none)) else (none)) else (none)) else (if (Go.bits .andNot .i64 x60 x5)=0 then ((api_Table_solve_Holds_1.f k x0 x60).bind fun t85=>(some (!t85))) else (some false))
def solve_Holds.f (k:Nat) (l0:List (S49)) (a1:Int):Option (Bool):=(solve_valid.f k l0).bind fun t61=>(if t61=0 then (if a1<0 then (some false) else (if a1≥16777216 then (some false) else ((solve_occurring.f k l0).bind fun t51=>(solve_Holds.l0 k l0 0 t51 (t51.length:Int) 0 a1)))) else (some false))
set_option maxHeartbeats 8000000 in
set_option maxRecDepth 100000 in
theorem solve_Holds.calls (k:Nat) (A0:Option Addr) (c0:Nat) (l0:List (S49)) (a1:Int) (r:Bool) (w:World) (hr0:Kd.C k49 w A0 l0.length l0) (hc0:l0.length≤c0) (h:solve_Holds.f k l0 a1=some r) :
  Calls Tryz.prog 34 #[.slice A0 l0.length c0,.int .i64 a1] w fun e w'=>e=.returned (.bool r)∧Below w.heap.size w w':=by
 have HR0:=zA hr0;have HC0:=zA hc0;clear hr0 hc0;have HB:=zA (Below.refl w.heap.size w);have H:((solve_valid.f k l0).bind fun t61=>(if t61=0 then (if a1<0 then (some false) else (if a1≥16777216 then (some false) else ((solve_occurring.f k l0).bind fun t51=>(solve_Holds.l0 k l0 0 t51 (t51.length:Int) 0 a1)))) else (some false)))=some r:=h;clear h;have HC3:=zA H;clear H
 go_enter Tryz.func34,Tryz.ntmps34
 go_upto_region 1 with (first|((with_reducible refine gd 3 rfl ?_);refine zx #[.int .i64 a1] 3 ?_;intro gb48 hg w4 BK48 hb GW48 HB1;have GE48:=GW48;clear HB hb hg;have HB:=HB1;clear HB1))
 (try simp only [Act.put,zi,zs,zt]);have H:=HC3.out;clear HC3;obtain ⟨t61,A5,H⟩:=zo H
 rcases ife H with ⟨c6b0,c6b1,H⟩|⟨c6,c6b0,c6b1,H⟩
 ·(first|rw [c6b0]|(simp only [i64_w,i32_w];rw [c6b0])|skip)
  (try rw [c6b1])
  rcases ifd H with ⟨c7b0,H⟩|⟨c7b0,H⟩
  ·obtain rfl:=Option.some.inj H
   go_wp2_with (first|((with_reducible refine gate_callee (f:=66) rfl ?_);refine zgo 9 Tryz.func66 #[.slice A0 l0.length c0] ?_;(with_reducible refine (solve_valid.calls k _ _ l0 t61 _ (zD HR0 HB) HC0.out A5.out).mono ?_);rintro e w8 ⟨rfl,hb⟩;refine ⟨_,rfl,?_⟩;replace BK48:=zw BK48 hb;replace HB:=zu hb;clear hb;have hcz9_0:=zc0 BK48;have hfz9_0:=zf BK48 0))
   go_ret
   exact ⟨ze,zv1 HB GE48⟩
  ·have HC10:=zA H;clear H
   go_upto_if 18 with (first|((with_reducible refine gate_callee (f:=66) rfl ?_);refine zgo 9 Tryz.func66 #[.slice A0 l0.length c0] ?_;(with_reducible refine (solve_valid.calls k _ _ l0 t61 _ (zD HR0 HB) HC0.out A5.out).mono ?_);rintro e w11 ⟨rfl,hb⟩;refine ⟨_,rfl,?_⟩;replace BK48:=zw BK48 hb;replace HB:=zu hb;clear hb;have hcz12_0:=zc0 BK48;have hfz12_0:=zf BK48 0))
   (try simp only [Act.put,zi,zs,zt]);have H:=HC10.out;clear HC10
   rcases if0 H with ⟨c13,H⟩|⟨c13,H⟩
   ·have c13b0:decide (16777216≤a1)=true:=decide_eq_true c13;clear c13
    (first|rw [c13b0]|(simp only [i64_w,i32_w];rw [c13b0])|skip)
    obtain rfl:=Option.some.inj H
    go_wp2
    go_ret
    exact ⟨ze,zv1 HB GE48⟩
   ·have c13b0:decide (16777216≤a1)=false:=decide_eq_false c13;clear c13
    (first|rw [c13b0]|(simp only [i64_w,i32_w];rw [c13b0])|skip)
    obtain ⟨t51,A14,H⟩:=zo H;have H':=zA H;clear H
    go_wp2_with (first|((with_reducible refine gate_callee (f:=69) rfl ?_);refine zgo 20 Tryz.func69 #[.slice A0 l0.length c0] ?_;(with_reducible refine (solve_occurring.calls k _ _ l0 t51 _ (zD HR0 HB) HC0.out A14.out).mono ?_);rintro e w15 ⟨v90,rfl,ho0,hb⟩;refine ⟨_,rfl,?_⟩;have HO86:=zA (Kd.R_lower (Kd.R_newB ho0 (g:=gb48) (o:=.cells #[.int .i64 a1] 3 (0,0)) (zk BK48)) (below_size zB));replace BK48:=zw BK48 hb;replace HB:=zu hb;clear hb;(try clear ho0);obtain ⟨Ao16,co16,eo16⟩:=Kd.R_slice HO86.out;subst eo16))
    go_loopg [5,22] k (fun kq v5 v22 w'=>∃ (x5_1:Int) (x22_1:Int),v5=.int .i64 x5_1∧v22=.int .i64 x22_1∧Aside0 (solve_Holds.l0 kq l0 x5_1 t51 (t51.length:Int) x22_1 a1=some r)∧Aside0 (kq≤k)∧Aside0 (Kd.R (Kd.int .i64) 3 w' w.heap.size (fun k_=>k_≠gb48) (.slice Ao16 t51.length co16) t51)∧Aside0 (w'.heap[gb48]?=some (.cells #[.int .i64 a1] 3 (0,0)))∧Aside0 (Below w.heap.size w w'))
    case atStart=>exact ⟨(0),(0),zT,zT,H',⟨Nat.le_refl _⟩,⟨by refine zr ?_;exact Kd.R_mono HO86.out (fun _ hk=>hk.2)⟩,⟨by refine zj ?_;exact BK48.out⟩,⟨zv1 HB GE48⟩⟩
    case round=>
     clear H'
     try clear c6
     try clear c6b0
     try clear c6b1
     try clear c7
     try clear c7b0
     try clear c13
     try clear c13b0
     try clear hcz12_0
     try clear hfz12_0
     obtain ⟨x5_1,x22_1,rfl,rfl,HA,HK1,HO_20,BK48,HB⟩:=hrel
     cases gk with
     | zero=>exact absurd HA.out (by simp [solve_Holds.l0])
     | succ k1=>
      have H:=HA.out;clear HA;simp only [solve_Holds.l0] at H
      rcases ifd H with ⟨c17b0,H⟩|⟨c17b0,H⟩
      ·obtain ⟨c18b0,H⟩:=ifd1 H;obtain ⟨c19b0,H⟩:=ifd1 H;obtain ⟨c20,H⟩:=if1 H;have c20b0:=eq_true c20;have c20b1:decide (0≤(rd t51 x22_1))=true:=decide_eq_true c20;clear c20;obtain ⟨ji21,hji21⟩:=zZ (shl .i64 1 (rd t51 x22_1))
       first|rw [hji21] at H|simp only [hji21] at H
       have hji21_:(IntKind.i64.wrap (1 * 2 ^ min (rd t51 x22_1).toNat 64))=ji21:=hji21;have hji21z:(rd t51 x22_1)≤64→(IntKind.i64.wrap (1 * 2 ^ (rd t51 x22_1).toNat))=ji21:=shl_small hji21
       have hji21u:(IntKind.i64.wrap (2 ^ min (rd t51 x22_1).toNat 64))=ji21:=by have h_:=hji21_;rw [Int.one_mul] at h_;exact h_
       have hji21v:(rd t51 x22_1)≤64→(IntKind.i64.wrap (2 ^ (rd t51 x22_1).toNat))=ji21:=fun hle_=>by have h_:=hji21z hle_;rw [Int.one_mul] at h_;exact h_
       have hji21y:(wrap64 (1 * 2 ^ min (rd t51 x22_1).toNat 64))=ji21:=(i64_w _).symm.trans hji21_
       have hji21x:(rd t51 x22_1)≤64→(wrap64 (1 * 2 ^ (rd t51 x22_1).toNat))=ji21:=fun h_=>(i64_w _).symm.trans (hji21z h_)
       have H':=zA H;clear H;obtain ⟨p55,q55,ad55,e55,hx55_0⟩:=zp (Kd.at_int (Kd.R_reads' HO_20.out).2.2 x22_1)
       cases e55
       replace p55:=eq_true p55;replace q55:=eq_true q55
       go_wp2
       go_roundg k1
       case measure=>have:=HK1.out;omega
       case rel=>exact ⟨(Go.bits .or .i64 x5_1 (ji21)),(wrap64 (x22_1+1)),(by first|rfl|(simp;done)|(simp only [← hji21] <;> (first|rfl|simp))|(simp [*];done)),zT,H',⟨by have:=HK1.out;omega⟩,⟨by refine zr ?_;exact HO_20.out⟩,⟨by refine zj ?_;exact BK48.out⟩,⟨zv1 HB GE48⟩⟩
      ·rcases ife H with ⟨c22b0,c22b1,H⟩|⟨c22,c22b0,c22b1,H⟩
       ·obtain ⟨t85,A23,H⟩:=zo H;obtain rfl:=Option.some.inj H;have hcz24_0:=zc0 BK48;have hfz24_0:=zf BK48 0
        go_wp2_with (first|(go_at_call 70;(with_reducible refine (api_Table_solve_Holds_1.calls k1 _ _ l0 gb48 a1 t85 _ (zD HR0 HB) HC0.out ?side3 A23.out).mono ?_);(case side3=>refine zj ?_;exact BK48.out);rintro e w25 ⟨rfl,hb⟩;replace HO_20:=zA (Kd.R_below (zR HO_20) hb);replace BK48:=zw BK48 hb;replace HB:=zu hb;clear hb))
        go_ret
        exact ⟨ze,zv1 HB GE48⟩
       ·obtain rfl:=Option.some.inj H;have hcz26_0:=zc0 BK48;have hfz26_0:=zf BK48 0
        go_wp2
        go_ret
        exact ⟨ze,zv1 HB GE48⟩
 ·(first|rw [c6b0]|(simp only [i64_w,i32_w];rw [c6b0])|skip)
  (try rw [c6b1]);obtain rfl:=Option.some.inj H
  go_wp2_with (first|((with_reducible refine gate_callee (f:=66) rfl ?_);refine zgo 9 Tryz.func66 #[.slice A0 l0.length c0] ?_;(with_reducible refine (solve_valid.calls k _ _ l0 t61 _ (zD HR0 HB) HC0.out A5.out).mono ?_);rintro e w27 ⟨rfl,hb⟩;refine ⟨_,rfl,?_⟩;replace BK48:=zw BK48 hb;replace HB:=zu hb;clear hb))
  go_ret
  exact ⟨ze,zv1 HB GE48⟩
def conflict_Check.l0:Nat→List (S49)→List Int→Int→Int→Option (Bool)
 | 0,_,_,_,_=>none
 | k+1,x5,x38,x39,x40=>if x40<x39 then (if 0≤x40 then (if x40<(x38.length:Int) then ((api_Table_36.f x5).bind fun t67=>((api_Table_35.f t67 x40 (wrap64 (x40+1))).bind fun t73=>((solve_Holds.f k t73 (rd x38 x40)).bind fun t80=>(if t80=true then (conflict_Check.l0 k x5 x38 x39 (wrap64 (x40+1))) else (some false))))) else (none)) else (none)) else (some true)
def conflict_Check.f (k:Nat) (l0:List (S49)) (l1_0:List Int) (l1_1:List (S96)) (l1_2:List Int):Option (Bool):=(conflict_valid.f k l0).bind fun t62=>(if t62=0 then ((conflict_ascending.f k l1_0 (l0.length:Int)).bind fun t74=>(if t74=true then (if (l1_2.length:Int)=(l1_0.length:Int) then ((conflict_system.f k l0 l1_0).bind fun t53=>((solve_Check.f k t53 l1_1).bind fun t59=>(if t59=true then (conflict_Check.l0 k t53 l1_2 (l1_2.length:Int) 0) else (some false)))) else (some false)) else (some false))) else (some false))
set_option maxHeartbeats 8000000 in
set_option maxRecDepth 100000 in
theorem conflict_Check.calls (k:Nat) (A0:Option Addr) (c0:Nat) (l0:List (S49)) (A1_0:Option Addr) (c1_0:Nat) (l1_0:List Int) (A1_1:Option Addr) (c1_1:Nat) (l1_1:List (S96)) (A1_2:Option Addr) (c1_2:Nat) (l1_2:List Int) (r:Bool) (w:World) (hr0:Kd.C k49 w A0 l0.length l0) (hc0:l0.length≤c0) (hr1_0:Kd.C (Kd.int .i64) w A1_0 l1_0.length l1_0) (hc1_0:l1_0.length≤c1_0) (hr1_1:Kd.C k96 w A1_1 l1_1.length l1_1) (hc1_1:l1_1.length≤c1_1) (hr1_2:Kd.C (Kd.int .i64) w A1_2 l1_2.length l1_2) (hc1_2:l1_2.length≤c1_2) (h:conflict_Check.f k l0 l1_0 l1_1 l1_2=some r) :
  Calls Tryz.prog 8 #[.slice A0 l0.length c0,.agg #[.slice A1_0 l1_0.length c1_0,.slice A1_1 l1_1.length c1_1,.slice A1_2 l1_2.length c1_2]] w fun e w'=>e=.returned (.bool r)∧Below w.heap.size w w':=by
 have HR0:=zA hr0;have HC0:=zA hc0;clear hr0 hc0;have HR1_0:=zA hr1_0;have HC1_0:=zA hc1_0;clear hr1_0 hc1_0;have HR1_1:=zA hr1_1;have HC1_1:=zA hc1_1;clear hr1_1 hc1_1;have HR1_2:=zA hr1_2;have HC1_2:=zA hc1_2;clear hr1_2 hc1_2;have HB:=zA (Below.refl w.heap.size w);have H:((conflict_valid.f k l0).bind fun t62=>(if t62=0 then ((conflict_ascending.f k l1_0 (l0.length:Int)).bind fun t74=>(if t74=true then (if (l1_2.length:Int)=(l1_0.length:Int) then ((conflict_system.f k l0 l1_0).bind fun t53=>((solve_Check.f k t53 l1_1).bind fun t59=>(if t59=true then (conflict_Check.l0 k t53 l1_2 (l1_2.length:Int) 0) else (some false)))) else (some false)) else (some false))) else (some false)))=some r:=h;clear h;have HC3:=zA H;clear H
 go_enter Tryz.func8,Tryz.ntmps8
 go_upto_region 1 with (first|((with_reducible refine gd 3 rfl ?_);(try (refine gate_guard (by rfl) ?_;dsimp only));refine zx #[.slice A1_0 l1_0.length c1_0,.slice A1_1 l1_1.length c1_1,.slice A1_2 l1_2.length c1_2] 28 ?_;intro gb43 hg w4 BK43 hb GW43 HB1;have GE43:=GW43;clear HB hb hg;have HB:=HB1;clear HB1))
 (try simp only [Act.put,zi,zs,zt]);have H:=HC3.out;clear HC3;obtain ⟨t62,A5,H⟩:=zo H
 rcases ife H with ⟨c6b0,c6b1,H⟩|⟨c6,c6b0,c6b1,H⟩
 ·(first|rw [c6b0]|(simp only [i64_w,i32_w];rw [c6b0])|skip)
  (try rw [c6b1]);obtain ⟨t74,A7,H⟩:=zo H
  by_cases c8:t74=true
  ·subst c8
   have H1:(if (l1_2.length:Int)=(l1_0.length:Int) then ((conflict_system.f k l0 l1_0).bind fun t53=>((solve_Check.f k t53 l1_1).bind fun t59=>(if t59=true then (conflict_Check.l0 k t53 l1_2 (l1_2.length:Int) 0) else (some false)))) else (some false))=some r:=by rw [if_pos rfl] at H;exact H
   clear H;have H:=H1;clear H1;have HC9:=zA H;clear H
   go_upto_if 27 with (first|((with_reducible refine gate_callee (f:=30) rfl ?_);refine zgo 9 Tryz.func30 #[.slice A0 l0.length c0] ?_;(with_reducible refine (conflict_valid.calls k _ _ l0 t62 _ (zD HR0 HB) HC0.out A5.out).mono ?_);rintro e w10 ⟨rfl,hb⟩;refine ⟨_,rfl,?_⟩;replace BK43:=zw BK43 hb;replace HB:=zu hb;clear hb;have hcz11_0:=zc0 BK43;have hcz11_1:=zc1 BK43;have hcz11_2:=zc2 BK43;have hfz11_0:=zf BK43)|(go_at_call 31;(with_reducible refine (conflict_ascending.calls k _ _ l1_0 (l0.length:Int) true _ (zD HR1_0 HB) HC1_0.out A7.out).mono ?_);rintro e w' ⟨rfl,⟨nd,rfl⟩⟩))
   (try simp only [Act.put,zi,zs,zt]);have H:=HC9.out;clear HC9
   rcases if0 H with ⟨c12,H⟩|⟨c12,H⟩
   ·have c12b0:((l1_2.length:Int) == (l1_0.length:Int))=true:=beq_iff_eq.mpr c12;have c12b1:((l1_2.length:Int) != (l1_0.length:Int))=false:=bne_eq_false_iff_eq.mpr c12
    have c12b2:(l1_2.length == l1_0.length)=true:=by first|simpa using c12|(simp at c12 ⊢;omega)
    clear c12
    (first|rw [c12b0]|(simp only [i64_w,i32_w];rw [c12b0])|skip)
    (try rw [c12b1]);(try rw [c12b2]);obtain ⟨t53,A13,H⟩:=zo H;obtain ⟨t59,A14,H⟩:=zo H;have HC15:=zA H;clear H;have hcz16_0:=zc0 BK43;have hcz16_1:=zc1 BK43;have hcz16_2:=zc2 BK43;have hfz16_0:=zf BK43
    go_upto_if 36 with (first|((with_reducible refine gate_callee (f:=32) rfl ?_);refine zgo 31 Tryz.func32 #[.slice A0 l0.length c0,.slice A1_0 l1_0.length c1_0] ?_;(with_reducible refine (conflict_system.calls k (fun k_=>k_<w.heap.size) _ _ l0 _ _ l1_0 t53 _ ?side1 ?side2 HC1_0.out A13.out).mono ?_);(case side1=>exact Kd.V_mk HC0.out (Kd.F_below (Kd.C_F k49_heap HR0.out) zB));(case side2=>repeat (first|exact (Kd.C_below HR1_0.out zB)|(with_reducible refine Kd.C_alloc ?_ _)|(with_reducible refine Kd.C_drewN ?_ _)|(with_reducible refine Kd.C_drew ?_)));rintro e w17 ⟨v91,rfl,ho0,hb⟩;refine ⟨_,rfl,?_⟩;have HO68:=zA (Kd.N_lower (Kd.N_mono (ok':=fun k_=>k_≠gb43) ho0 (fun k_ hk_=>Or.elim hk_ (fun hs_=>fun e_=>Nat.not_le.2 hs_ (by rw [e_];exact GW43.out)) (fun hn_=>(Kd.freshB (g:=gb43) (o:=.cells #[.slice A1_0 l1_0.length c1_0,.slice A1_1 l1_1.length c1_1,.slice A1_2 l1_2.length c1_2] 28 (0,0)) (zk BK43) k_ hn_)))) (below_size zB));replace BK43:=zw BK43 hb;replace HB:=zu hb;clear hb;(try clear ho0);have hcz18_0:=zc0 BK43;have hcz18_1:=zc1 BK43;have hcz18_2:=zc2 BK43;have hfz18_0:=zf BK43;obtain ⟨Ao19,co19,eo19⟩:=Kd.N_slice HO68.out;subst eo19)|((with_reducible refine gate_callee (f:=33) rfl ?_);refine zgo 35 Tryz.func33 #[.slice Ao19 t53.length co19,.agg #[.slice A1_1 l1_1.length c1_1]] ?_;(with_reducible refine (solve_Check.calls k _ _ t53 _ _ l1_1 t59 _ ?side1 ?side2 (zD HR1_1 HB) HC1_1.out A14.out).mono ?_);(case side1=>exact zC (Kd.N_reads' HO68.out).2.2);(case side2=>exact (Kd.N_reads' HO68.out).2.1);rintro e w20 ⟨rfl,hb⟩;refine ⟨_,rfl,?_⟩;replace HO68:=zA (Kd.N_below (zN HO68) hb);replace BK43:=zw BK43 hb;replace HB:=zu hb;clear hb))
    (try simp only [Act.put,zi,zs,zt]);have H:=HC15.out;clear HC15
    by_cases c21:t59=true
    ·subst c21
     have H1:(conflict_Check.l0 k t53 l1_2 (l1_2.length:Int) 0)=some r:=by rw [if_pos rfl] at H;exact H
     clear H;have H:=H1;clear H1;have H':=zA H;clear H;have hcz22_0:=zc0 BK43;have hcz22_1:=zc1 BK43;have hcz22_2:=zc2 BK43;have hfz22_0:=zf BK43
     go_wp2
     go_loopg [40] k (fun kq v40 w'=>∃ (x40_1:Int),v40=.int .i64 x40_1∧Aside0 (conflict_Check.l0 kq t53 l1_2 (l1_2.length:Int) x40_1=some r)∧Aside0 (kq≤k)∧Aside0 (Kd.N k49 49 w' w.heap.size (fun k_=>k_≠gb43) (.slice Ao19 t53.length co19) t53)∧Aside0 (w'.heap[gb43]?=some (.cells #[(.slice A1_0 l1_0.length c1_0),(.slice A1_1 l1_1.length c1_1),(.slice A1_2 l1_2.length c1_2)] 28 (0,0)))∧Aside0 (Below w.heap.size w w'))
     case atStart=>exact ⟨(0),zT,H',⟨Nat.le_refl _⟩,⟨by (with_reducible repeat (first|apply Kd.N_alloc|apply Kd.N_drewN|apply Kd.N_drew));exact HO68.out⟩,⟨by refine zj ?_;exact BK43.out⟩,⟨zv1 HB GE43⟩⟩
     case round=>
      clear H'
      try clear c6
      try clear c6b0
      try clear c6b1
      try clear c8
      try clear c12
      try clear c12b0
      try clear c12b1
      try clear c12b2
      try clear c21
      try clear hcz11_0
      try clear hcz11_1
      try clear hcz11_2
      try clear hcz16_0
      try clear hcz16_1
      try clear hcz16_2
      try clear hcz18_0
      try clear hcz18_1
      try clear hcz18_2
      try clear hcz22_0
      try clear hcz22_1
      try clear hcz22_2
      try clear hfz11_0
      try clear hfz11_1
      try clear hfz11_2
      try clear hfz16_0
      try clear hfz16_1
      try clear hfz16_2
      try clear hfz18_0
      try clear hfz18_1
      try clear hfz18_2
      try clear hfz22_0
      try clear hfz22_1
      try clear hfz22_2
      obtain ⟨x40_1,rfl,HA,HK1,HO_5,BK43,HB⟩:=hrel
      cases gk with
      | zero=>exact absurd HA.out (by simp [conflict_Check.l0])
      | succ k1=>
       have H:=HA.out;clear HA;simp only [conflict_Check.l0] at H
       rcases ifd H with ⟨c23b0,H⟩|⟨c23b0,H⟩
       ·(first|rw [c23b0]|(simp only [i64_w,i32_w];rw [c23b0])|skip)
        obtain ⟨c24b0,H⟩:=ifd1 H;obtain ⟨c25b0,H⟩:=ifd1 H;obtain ⟨t67,A26,H⟩:=zo H;obtain ⟨t73,A27,H⟩:=zo H;obtain ⟨t80,A28,H⟩:=zo H;have HC29:=zA H;clear H;obtain ⟨p54,q54,ad54,e54,hx54_0⟩:=zp (Kd.at_int HR1_2.out x40_1)
        cases e54
        replace hx54_0:=zd HB hx54_0;replace p54:=eq_true p54;replace q54:=eq_true q54
        go_upto_if 53 with (first|((with_reducible refine gate_callee (f:=36) rfl ?_);refine zgo 46 Tryz.func36 #[.slice Ao19 t53.length co19] ?_;(with_reducible refine (api_Table_36.calls (fun k_=>k_≠gb43) _ _ t53 t67 _ ?side1 A26.out).mono ?_);(case side1=>exact Kd.N_V (HO_5.out));rintro e w30 ⟨v92,rfl,ho0,hb⟩;refine ⟨_,rfl,?_⟩;have HO81:=zA (Kd.N_lower (Kd.N_mono (ok':=fun k_=>k_≠gb43) ho0 (fun k_ hk_=>Or.elim hk_ (fun hs_=>hs_) (fun hn_=>(Kd.freshB (g:=gb43) (o:=.cells #[.slice A1_0 l1_0.length c1_0,.slice A1_1 l1_1.length c1_1,.slice (some ad54) l1_2.length c1_2] 28 (0,0)) (zk BK43) k_ hn_)))) (below_size zB));replace HO_5:=zA (Kd.N_elder' (zN HO_5) (Kd.N_base ho0) hb);replace BK43:=zw BK43 hb;replace HB:=zu hb;clear hb;(try clear ho0);obtain ⟨Ao31,co31,eo31⟩:=Kd.N_slice HO81.out;subst eo31)|((with_reducible refine gate_callee (f:=35) rfl ?_);refine zgo 50 Tryz.func35 #[.slice Ao31 t67.length co31,.int .i64 x40_1,.int .i64 (wrap64 (x40_1+1))] ?_;(with_reducible refine (api_Table_35.calls (fun k_=>k_≠gb43) (.slice Ao31 t67.length co31) t67 x40_1 (wrap64 (x40_1+1)) t73 w _ ?side1 ?side2 A27.out).mono ?_);(case side1=>repeat (first|(with_reducible first|exact HB.out|apply below_alloc|apply pw_below_drewN|apply below_drew1|refine below_set ?_ GE43.out)|exact HB.out));(case side2=>((with_reducible repeat (first|apply Kd.N_alloc|apply Kd.N_drewN|apply Kd.N_drew));exact HO81.out));rintro e w32 ⟨v88,rfl,ho0,hb,hkp,hown_⟩;refine ⟨_,rfl,?_⟩;have HO75:=zA (ho0);replace HO_5:=zA (Kd.N_mono (ok':=fun k_=>k_≠gb43∧some k_≠(v88:Value).ownBlock) (Kd.N_keptB (HO_5.out) hkp (fun k_ hk_ hs_=>(hk_.2) hs_)) (fun k_ hk_=>⟨hk_.1.1,fun e_=>(hk_.1.2) (e_.trans hown_)⟩));replace BK43:=zA (blk_kept (zk BK43) hkp (fun hs_=>(fun e_=>(Kd.N_ne HO81.out BK43.out (by decide)) e_) hs_));replace HB:=zA (hb);clear HO81;(try clear hb);(try clear hkp);(try clear hown_);(try clear ho0);obtain ⟨Ao33,co33,eo33⟩:=Kd.N_slice HO75.out;subst eo33)|((with_reducible refine gate_callee (f:=34) rfl ?_);refine zgo 52 Tryz.func34 #[.slice Ao33 t73.length co33,.int .i64 (rd l1_2 x40_1)] ?_;(with_reducible refine (solve_Holds.calls k1 _ _ t73 (rd l1_2 x40_1) t80 _ ?side1 ?side2 A28.out).mono ?_);(case side1=>exact zC (Kd.N_reads' HO75.out).2.2);(case side2=>exact (Kd.N_reads' HO75.out).2.1);rintro e w34 ⟨rfl,hb⟩;refine ⟨_,rfl,?_⟩;replace HO_5:=zA (Kd.N_below (zN HO_5) hb);replace HO75:=zA (Kd.N_below (zN HO75) hb);replace BK43:=zw BK43 hb;replace HB:=zu hb;clear hb))
        (try simp only [Act.put,zi,zs,zt]);have H:=HC29.out;clear HC29
        by_cases c35:t80=true
        ·subst c35
         have H1:(conflict_Check.l0 k1 t53 l1_2 (l1_2.length:Int) (wrap64 (x40_1+1)))=some r:=by rw [if_pos rfl] at H;exact H
         clear H;have H:=H1;clear H1;have H':=zA H;clear H
         go_wp2
         go_roundg k1
         case measure=>have:=HK1.out;omega
         case rel=>exact ⟨(wrap64 (x40_1+1)),zT,H',⟨by have:=HK1.out;omega⟩,⟨by (with_reducible repeat (first|apply Kd.N_alloc|apply Kd.N_drewN|apply Kd.N_drew));exact Kd.N_mono HO_5.out (fun _ hk=>hk.1)⟩,⟨by refine zj ?_;exact BK43.out⟩,⟨zv1 HB GE43⟩⟩
        ·replace c35:=Bool.eq_false_iff.mpr c35;subst c35
         have H1:(some false)=some r:=by rw [if_neg (show ¬ (false=true) by decide)] at H;exact H
         clear H;have H:=H1;clear H1;obtain rfl:=Option.some.inj H
         go_wp2
         go_ret
         exact ⟨ze,zv1 HB GE43⟩
       ·(first|rw [c23b0]|(simp only [i64_w,i32_w];rw [c23b0])|skip)
        obtain rfl:=Option.some.inj H
        go_wp2
        go_ret
        exact ⟨ze,zv1 HB GE43⟩
    ·replace c21:=Bool.eq_false_iff.mpr c21;subst c21
     have H1:(some false)=some r:=by rw [if_neg (show ¬ (false=true) by decide)] at H;exact H
     clear H;have H:=H1;clear H1;obtain rfl:=Option.some.inj H
     go_wp2
     go_ret
     exact ⟨ze,zv1 HB GE43⟩
   ·have c12b0:((l1_2.length:Int) == (l1_0.length:Int))=false:=beq_eq_false_iff_ne.mpr c12;have c12b1:((l1_2.length:Int) != (l1_0.length:Int))=true:=bne_iff_ne.mpr c12
    have c12b2:(l1_2.length == l1_0.length)=false:=by first|simpa using c12|(simp at c12 ⊢;omega)
    (first|rw [c12b0]|(simp only [i64_w,i32_w];rw [c12b0])|skip)
    (try rw [c12b1]);(try rw [c12b2]);obtain rfl:=Option.some.inj H
    go_wp2
    go_ret
    exact ⟨ze,zv1 HB GE43⟩
  ·replace c8:=Bool.eq_false_iff.mpr c8;subst c8
   have H1:(some false)=some r:=by rw [if_neg (show ¬ (false=true) by decide)] at H;exact H
   clear H;have H:=H1;clear H1;obtain rfl:=Option.some.inj H
   go_wp2_with (first|((with_reducible refine gate_callee (f:=30) rfl ?_);refine zgo 9 Tryz.func30 #[.slice A0 l0.length c0] ?_;(with_reducible refine (conflict_valid.calls k _ _ l0 t62 _ (zD HR0 HB) HC0.out A5.out).mono ?_);rintro e w36 ⟨rfl,hb⟩;refine ⟨_,rfl,?_⟩;replace BK43:=zw BK43 hb;replace HB:=zu hb;clear hb;have hcz37_0:=zc0 BK43;have hcz37_1:=zc1 BK43;have hcz37_2:=zc2 BK43;have hfz37_0:=zf BK43)|(go_at_call 31;(with_reducible refine (conflict_ascending.calls k _ _ l1_0 (l0.length:Int) false _ (zD HR1_0 HB) HC1_0.out A7.out).mono ?_);rintro e w' ⟨rfl,⟨nd,rfl⟩⟩))
   go_ret
   exact ⟨ze,zv1 HB GE43⟩
 ·(first|rw [c6b0]|(simp only [i64_w,i32_w];rw [c6b0])|skip)
  (try rw [c6b1]);obtain rfl:=Option.some.inj H
  go_wp2_with (first|((with_reducible refine gate_callee (f:=30) rfl ?_);refine zgo 9 Tryz.func30 #[.slice A0 l0.length c0] ?_;(with_reducible refine (conflict_valid.calls k _ _ l0 t62 _ (zD HR0 HB) HC0.out A5.out).mono ?_);rintro e w38 ⟨rfl,hb⟩;refine ⟨_,rfl,?_⟩;replace BK43:=zw BK43 hb;replace HB:=zu hb;clear hb))
  go_ret
  exact ⟨ze,zv1 HB GE43⟩
def ancepslaw42_copied.l0:Nat→List (S49)→List (S49)→Int→Int→Option ((List (S49)))
 | 0,_,_,_,_=>none
 | k+1,x3,x6,x7,x8=>if x8<x7 then (if 0≤x8 then (if x8<(x6.length:Int) then ((slices_Clone_int_int.f ((rd_T49 x6 x8).f0)).bind fun t56=>((slices_Clone_int_int.f ((rd_T49 x6 x8).f1)).bind fun t57=>(if x3.length<2932031007402 then (ancepslaw42_copied.l0 k (x3++[(⟨t56,t57⟩:S49)]) x6 x7 (wrap64 (x8+1))) else (none)))) else (none)) else (none)) else (some x3)
def ancepslaw42_copied.f (k:Nat) (l0:List (S49)):Option ((List (S49))):=ancepslaw42_copied.l0 k ([]:List (S49)) l0 (l0.length:Int) 0
def ancepslaw42_copied.T5:Bool×List (List Nat×List Nat):=(true,[([],[]),([],[]),([1],[1]),([2],[2]),([],[]),([4],[4]),([5,3],[5]),([3,6],[3,6]),([7],[7]),([0,8,6],[0,8]),([9,9,0,1,2,3,4,5,6,7,8,9],[0,9])])
def ancepslaw42_copied.B5:List Nat:=[0,0,2,6,0,16,62,126,254,511,1023]
theorem ancepslaw42_copied.tab5:rtab .any (opsOf Tryz.f9 5)=ancepslaw42_copied.T5:=by kernel_rfl
theorem ancepslaw42_copied.bits5:waitsOk ancepslaw42_copied.T5.2 ancepslaw42_copied.B5=true:=by kernel_rfl
set_option maxHeartbeats 8000000 in
set_option maxRecDepth 100000 in
theorem ancepslaw42_copied.calls (k:Nat) (A0:Option Addr) (c0:Nat) (l0:List (S49)) (r:List (S49)) (w:World) (hr0:Kd.C k49 w A0 l0.length l0) (hc0:l0.length≤c0) (h:ancepslaw42_copied.f k l0=some r) :
  Calls Tryz.prog 9 #[.slice A0 l0.length c0] w fun e w'=>∃ v0_:Value,e=.returned (v0_)∧Kd.S k49 49 w' w.heap.size (fun _=>True) v0_ r∧Below w.heap.size w w':=by
 have HR0:=zA hr0;have HC0:=zA hc0;clear hr0 hc0;have HB:=zA (Below.refl w.heap.size w);have H:(ancepslaw42_copied.l0 k ([]:List (S49)) l0 (l0.length:Int) 0)=some r:=h;clear h;have H':=zA H;clear H
 go_enter Tryz.func9,Tryz.ntmps9
 go_wp2
 go_loopg [3,8] k (fun kq v3 v8 w'=>∃ (x3_1:List (S49)) (x8_1:Int),v8=.int .i64 x8_1∧Aside0 (ancepslaw42_copied.l0 kq x3_1 l0 (l0.length:Int) x8_1=some r)∧Aside0 (kq≤k)∧Aside0 (Kd.S k49 49 w' w.heap.size (fun _=>True) v3 x3_1)∧Aside0 (Below w.heap.size w w'))
 case atStart=>exact ⟨(([]:List (S49))),(0),zT,H',⟨Nat.le_refl _⟩,⟨by first|exact Kd.S_nil _ _ _ _ _|exact Kd.N_nil _ _ _ _ _|exact Kd.V_nil _ _ _ _ _|exact Kd.Q_nil _ _ _ _ _|exact Kd.R_nil _ _ _ _ _⟩,⟨zv0 HB⟩⟩
 case round=>
  clear H';obtain ⟨x3_1,x8_1,rfl,HA,HK1,HO_3,HB⟩:=hrel
  cases gk with
  | zero=>exact absurd HA.out (by simp [ancepslaw42_copied.l0])
  | succ k1=>
   have H:=HA.out;clear HA;simp only [ancepslaw42_copied.l0] at H
   rcases ifd H with ⟨c2b0,H⟩|⟨c2b0,H⟩
   ·obtain ⟨c3b0,H⟩:=ifd1 H;obtain ⟨c4b0,H⟩:=ifd1 H;obtain ⟨t56,A5,H⟩:=zo H;obtain ⟨t57,A6,H⟩:=zo H;obtain ⟨c7,H⟩:=if1 H;have LMc7:=zA c7;clear c7
    first|(replace H:=zyb (x3_1++[(⟨t56,t57⟩:S49)]) H;obtain ⟨y58,Ny58,H⟩:=H)|(obtain ⟨y58,hy58⟩:=zY (x3_1++[(⟨t56,t57⟩:S49)]);(try rw (occs:=.pos [1]) [← hy58] at H);have Ny58:=zA hy58;clear hy58)
    have H':=zA H;clear H;obtain ⟨p41,q41,ad41,A41_0,c41_0,A41_1,c41_1,e41,hx41_0,hx41_1,hl41_0,hi41_0,hl41_1,hi41_1⟩:=zp (at_T49 HR0.out x8_1)
    cases e41
    replace hx41_0:=zd HB hx41_0;replace hx41_1:=zd HB hx41_1;have HR41_0:=zA hi41_0;have HC41_0:=zA hl41_0;clear hi41_0 hl41_0;have HR41_1:=zA hi41_1;have HC41_1:=zA hl41_1;clear hi41_1 hl41_1;replace p41:=eq_true p41;replace q41:=eq_true q41
    try go_wp2_with (first|((with_reducible refine gd 5 rfl ?_);refine zx #[.slice none 0 0,.slice none 0 0] 49 ?_;intro gb45 hg w8 BK45 hb GW45 HB1;have GE45:=GW45;replace HO_3:=zA (Kd.S_below (Kd.S_elderB (zS HO_3) gb45 (Nat.le_of_eq hg.symm)) hb);clear HB hb hg;have HB:=HB1;clear HB1;have hcz9_0:=zc0 BK45;have hcz9_1:=zc1 BK45;have hfz9_0:=zf BK45))
    have n0_:Aside0 (Kd.S k49 49 ((w8.setCell ⟨gb45,0,none⟩ (.slice A41_0 ((rd_T49 l0 x8_1).f0).length c41_0)).setCell ⟨gb45,1,none⟩ (.slice A41_1 ((rd_T49 l0 x8_1).f1).length c41_1)) w.heap.size (fun k_=>k_≠gb45) u3 x3_1):=⟨by (with_reducible repeat (first|apply Kd.S_alloc|apply Kd.S_drewN|apply Kd.S_drew));exact Kd.S_mono (Kd.S_far (p:=⟨gb45,1,none⟩) (Kd.S_far (p:=⟨gb45,0,none⟩) (Kd.S_mono HO_3.out (fun k_ hk=>(⟨hk,hk.2⟩:_∧k_≠gb45))) (fun _ hk=>hk.2) (.slice A41_0 ((rd_T49 l0 x8_1).f0).length c41_0)) (fun _ hk=>hk.2) (.slice A41_1 ((rd_T49 l0 x8_1).f1).length c41_1)) (fun _ hk=>hk.1.2)⟩
    have n1_:Aside0 (((w8.setCell ⟨gb45,0,none⟩ (.slice A41_0 ((rd_T49 l0 x8_1).f0).length c41_0)).setCell ⟨gb45,1,none⟩ (.slice A41_1 ((rd_T49 l0 x8_1).f1).length c41_1)).heap[gb45]?=some (.cells #[.slice A41_0 ((rd_T49 l0 x8_1).f0).length c41_0,.slice A41_1 ((rd_T49 l0 x8_1).f1).length c41_1] 49 (0,0))):=⟨by refine zj ?_;refine blk_put (cs:=#[.slice A41_0 ((rd_T49 l0 x8_1).f0).length c41_0,.slice none 0 0]) ?_ 1 _ rfl;refine zj ?_;refine blk_put (cs:=#[.slice none 0 0,.slice none 0 0]) ?_ 0 _ rfl;refine zj ?_;exact BK45.out⟩
    have n2_:Aside0 (Below w.heap.size w ((w8.setCell ⟨gb45,0,none⟩ (.slice A41_0 ((rd_T49 l0 x8_1).f0).length c41_0)).setCell ⟨gb45,1,none⟩ (.slice A41_1 ((rd_T49 l0 x8_1).f1).length c41_1))):=⟨zv1 HB GE45⟩
    (try clear HO_3);(try clear BK45);(try clear HB)
    generalize ((w8.setCell ⟨gb45,0,none⟩ (.slice A41_0 ((rd_T49 l0 x8_1).f0).length c41_0)).setCell ⟨gb45,1,none⟩ (.slice A41_1 ((rd_T49 l0 x8_1).f1).length c41_1))=w10 at n0_ n1_ n2_ ⊢
    have HO_3:=n0_;have BK45:=n1_;have HB:=n2_;clear n0_ n1_ n2_;replace HO_3:=zA (Kd.S_drew HO_3.out);replace BK45:=zA (blk_drew BK45.out);replace HB:=zA (below_drew1 HB.out);refine start_ (n:=11) (S:=fun w'=>w'.cell? ⟨gb45,0,none⟩=some (.slice A41_0 ((rd_T49 l0 x8_1).f0).length c41_0)∧w'.cell? ⟨gb45,1,none⟩=some (.slice A41_1 ((rd_T49 l0 x8_1).f1).length c41_1)) (ds:=[]) (bz 11 0) zK rfl rfl ⟨zc0 BK45,zc1 BK45⟩ (fun hHeld=>?_);refine with_tabW ancepslaw42_copied.tab5 ancepslaw42_copied.bits5 (fun HT_ HW_=>?_)
    generalize w10.drew=w11 at HO_3 BK45 HB hHeld ⊢
    refine zP 0 12 (bz 11 1) HT_ ?_;refine zP 1 13 (bz 11 3) HT_ ?_;refine zP 4 16 (bz 11 19) HT_ ?_;refine zQ 2 14 (bz 11 23) HT_ HW_ hHeld ?_;refine zQ 5 17 (bz 11 55) HT_ HW_ hHeld ?_;refine one_ (i:=3) (N:=some 15) (bz 11 63) rfl rfl (one_of HT_.out zK) (by decide) (fun K hK=>?_);refine goes_ Tryz.func11 zK rfl #[.slice A41_0 ((rd_T49 l0 x8_1).f0).length c41_0] (by rfl) rfl rfl zM ?_
    with_reducible refine (slices_Clone_int_int.calls _ _ ((rd_T49 l0 x8_1).f0) t56 _ ?side1 ?side2 A5.out).mono ?_
    (case side1=>exact zC (Kd.C_below HR41_0.out HB.out));(case side2=>exact HC41_0.out);rintro e w12 ⟨v94,rfl,ho0,hb⟩;refine ⟨_,rfl,?_⟩;have HO63:=zA (Kd.R_lower ho0 (below_size zB));replace HO_3:=zA (Kd.S_elder' (zS HO_3) (Kd.R_base ho0) hb);replace BK45:=zw BK45 hb;replace HB:=zu hb;(try clear hb);(try clear hb2);(try clear hk);(try clear hi);(try clear ho0);refine hK.out _ _ ⟨zc0 BK45,zc1 BK45⟩ (fun hHeld=>?_);clear hK K;refine norm_ (a':=?_) ?_ ?_;rotate_left
    ·show Act.put _ (some 15) _=_
     simp only [Act.put,zi,zs,zt,i64_w,i32_w];rfl
    refine one_ (i:=6) (N:=some 18) (bz 11 127) rfl rfl (one_of HT_.out zK) (by decide) (fun K hK=>?_);refine goes_ Tryz.func11 zK rfl #[.slice A41_1 ((rd_T49 l0 x8_1).f1).length c41_1] (by rfl) rfl rfl zM ?_
    with_reducible refine (slices_Clone_int_int.calls _ _ ((rd_T49 l0 x8_1).f1) t57 _ ?side1 ?side2 A6.out).mono ?_
    (case side1=>exact zC (Kd.C_below HR41_1.out HB.out));(case side2=>exact HC41_1.out);rintro e w13 ⟨v95,rfl,ho0,hb⟩;refine ⟨_,rfl,?_⟩;have HO82:=zA (Kd.R_lower (Kd.R_new' ho0 (Kd.R_lt (zR HO63))) (below_size zB));replace HO_3:=zA (Kd.S_elder' (zS HO_3) (Kd.R_base ho0) hb);replace HO63:=zA (Kd.R_elder' (zR HO63) (Kd.R_base ho0) hb);replace BK45:=zw BK45 hb;replace HB:=zu hb;(try clear hb);(try clear hb2);(try clear hk);(try clear hi);(try clear ho0);obtain ⟨Ao14,co14,eo14⟩:=Kd.R_slice HO82.out
    (first|subst eo14|(injection eo14 with f1_ f2_ f3_;have f4_:=f1_.symm;have f5_:=f3_.symm;clear f1_ f2_ f3_;subst f4_;subst f5_))
    obtain ⟨Ao15,co15,eo15⟩:=Kd.R_slice HO63.out
    (first|subst eo15|(injection eo15 with f1_ f2_ f3_;have f4_:=f1_.symm;have f5_:=f3_.symm;clear f1_ f2_ f3_;subst f4_;subst f5_))
    refine hK.out _ _ ⟨zc0 BK45,zc1 BK45⟩ (fun hHeld=>?_);clear hK K;refine norm_ (a':=?_) ?_ ?_;rotate_left
    ·show Act.put _ (some 18) _=_
     simp only [Act.put,zi,zs,zt,i64_w,i32_w];rfl
    refine zP 7 19 (bz 11 255) HT_ ?_;refine one_ (i:=8) (N:=some 20) (bz 11 511) rfl rfl (one_of HT_.out zK) (by decide) (fun K hK=>?_);refine value_ (w1:=?_) (v:=?_) (by rfl) rfl ?_ ?_;rotate_left 2
    ·go_simp
     constructor
     ·rfl
     ·rfl
    refine hK.out _ _ ⟨(blk_cell (blk_alloc BK45.out _) 0).trans rfl,(blk_cell (blk_alloc BK45.out _) 1).trans rfl⟩ (fun hHeld=>?_);clear hK K;refine norm_ (a':=?_) ?_ ?_;rotate_left
    ·show Act.put _ (some 20) _=_
     simp only [Act.put,zi,zs,zt,i64_w,i32_w];rfl
    refine one_ (i:=9) (N:=some 21) (bz 11 1023) rfl rfl (one_of HT_.out zK) (by decide) (fun K hK=>?_);refine Kd.S_append_step k49 (w0:=w) w.heap.size (by rfl) (.tmp 12) (.tmp 20) 22 49 (.agg #[(.slice none 0 0),(.slice none 0 0)]) 48 rfl Tryz.underlying22 info49 rfl (by decide) (by omega) u3 x3_1 (⟨t56,t57⟩:S49) [.slice Ao15 t56.length co15,.slice Ao14 t57.length co14] (fun k_=>k_≠gb45) (fun k_=>some k_=(.slice Ao15 t56.length co15:Value).ownBlock∨some k_=(.slice Ao14 t57.length co14:Value).ownBlock) rfl rfl ?aP (fun k_ hk_=>hk_.elim (fun h_=>((Kd.R_mono (ok':=fun k_=>((fun k_=>k_≠gb45)) k_∧some k_≠(u3:Value).ownBlock) (Kd.R_types (Kd.R_apart' (HO63.out) (Kd.S_typed HO_3.out) (by decide)) BK45.out (by decide)) (fun k_ hk=>⟨hk.2,hk.1.2⟩))).1 k_ h_.symm) (fun h_=>((Kd.R_mono (ok':=fun k_=>((fun k_=>k_≠gb45)) k_∧some k_≠(u3:Value).ownBlock) (Kd.R_types (Kd.R_apart' (HO82.out) (Kd.S_typed HO_3.out) (by decide)) BK45.out (by decide)) (fun k_ hk=>⟨hk.2,hk.1.2⟩))).1 k_ h_.symm)) ?aF ?aO ?aB ?aS ?aL ?_;(case aP=>exact k49_mkM _ _ _ (⟨t56,t57⟩:S49) (Kd.R_mono (Kd.R_tight rfl (Kd.R_mono (ok':=fun k_=>((fun k_=>k_≠gb45)) k_∧some k_≠(u3:Value).ownBlock) (Kd.R_types (Kd.R_apart' (HO63.out) (Kd.S_typed HO_3.out) (by decide)) BK45.out (by decide)) (fun k_ hk=>⟨hk.2,hk.1.2⟩))) (fun _ h_=>Or.inl h_)) (Kd.R_mono (Kd.R_tight rfl (Kd.R_mono (ok':=fun k_=>((fun k_=>k_≠gb45)) k_∧some k_≠(u3:Value).ownBlock) (Kd.R_types (Kd.R_apart' (HO82.out) (Kd.S_typed HO_3.out) (by decide)) BK45.out (by decide)) (fun k_ hk=>⟨hk.2,hk.1.2⟩))) (fun _ h_=>Or.inr (h_))));(case aB=>exact zB);(case aF=>exact (fun k_ hk=>Kd.freshB (g:=gb45) (o:=.cells #[.slice A41_0 ((rd_T49 l0 x8_1).f0).length c41_0,.slice A41_1 ((rd_T49 l0 x8_1).f1).length c41_1] 49 (0,0)) (zk BK45) k_ hk));(case aO=>exact (by (with_reducible repeat (first|apply Kd.S_alloc|apply Kd.S_drewN|apply Kd.S_drew));exact Kd.S_mono HO_3.out (fun k_ hk=>⟨hk.1.1,fun e_=>e_.elim (fun h_=>hk.1.2 h_) (fun h_=>hk.2 h_)⟩)));(case aS=>exact (below_size zB));(case aL=>have:=LMc7.out;omega);intro v97 w16 ho hb hg hat;rw [← Ny58.out] at ho;have HO89:=zA (ho);replace BK45:=zA (blk_grown (g:=gb45) (o:=.cells #[.slice A41_0 ((rd_T49 l0 x8_1).f0).length c41_0,.slice A41_1 ((rd_T49 l0 x8_1).f1).length c41_1] 49 (0,0)) (zk BK45) hg (Kd.S_away HO_3.out (fun _ hk=>hk.1.1)));replace HB:=zA (hb);clear HO_3 HO63 HO82;clear ho hb hg hat;refine hK.out _ _ ⟨zc0 BK45,zc1 BK45⟩ (fun hHeld=>?_);clear hK K;refine norm_ (a':=?_) ?_ ?_;rotate_left
    ·show Act.put _ (some 21) _=_
     simp only [Act.put,zi,zs,zt,i64_w,i32_w];rfl
    refine zP 10 3 (bz 11 2047) HT_ ?_;refine done_ (done_of HT_.out zK) ?_
    try go_wp2
    go_roundg k1
    case measure=>have:=HK1.out;omega
    case rel=>exact ⟨(y58),(wrap64 (x8_1+1)),zT,H',⟨by have:=HK1.out;omega⟩,⟨by (with_reducible repeat (first|apply Kd.S_alloc|apply Kd.S_drewN|apply Kd.S_drew));exact Kd.S_mono HO89.out (fun _ hk=>trivial)⟩,⟨zv1 HB GE45⟩⟩
   ·obtain rfl:=Option.some.inj H
    go_wp2
    go_ret
    exact ⟨_,ze,by (with_reducible repeat (first|apply Kd.S_alloc|apply Kd.S_drewN|apply Kd.S_drew));exact HO_3.out,zv0 HB⟩
def conflict_CheckSmallest.l0:Nat→List (S49)→List Int→List (List Int)→Int→Int→Option (Bool)
 | 0,_,_,_,_,_=>none
 | k+1,x0,x2,x32,x33,x34=>if x34<x33 then (if 0≤x34 then (if x34<(x32.length:Int) then ((conflict_system.f k x0 (rd_L1 x32 x34)).bind fun t76=>(if x34<(x2.length:Int) then ((solve_Holds.f k t76 (rd x2 x34)).bind fun t83=>(if t83=true then (conflict_CheckSmallest.l0 k x0 x2 x32 x33 (wrap64 (x34+1))) else (some false))) else (none))) else (none)) else (none)) else (some true)
def conflict_CheckSmallest.f (k:Nat) (l0:List (S49)) (l1_0:List Int) (l1_1:List (S96)) (l1_2:List Int) (l2:List Int):Option (Bool):=(conflict_Check.f k l0 l1_0 l1_1 l1_2).bind fun t77=>(if t77=true then (if (l1_0.length:Int)=0 then (some false) else ((conflict_sets.f k (l0.length:Int) (wrap64 ((l1_0.length:Int) - 1))).bind fun t50=>(if (t50.length:Int)=(l2.length:Int) then (conflict_CheckSmallest.l0 k l0 l2 t50 (t50.length:Int) 0) else (some false)))) else (some false))
def conflict_CheckSmallest.T9:Bool×List (List Nat×List Nat):=(true,[([],[]),([],[]),([0,1],[0,1]),([],[]),([],[]),([3,4],[3,4]),([5],[5]),([2,6,2],[2,6]),([7],[7])])
def conflict_CheckSmallest.B9:List Nat:=[0,0,3,0,0,24,56,127,255]
theorem conflict_CheckSmallest.tab9:rtab .any (opsOf Tryz.f10 9)=conflict_CheckSmallest.T9:=by kernel_rfl
theorem conflict_CheckSmallest.bits9:waitsOk conflict_CheckSmallest.T9.2 conflict_CheckSmallest.B9=true:=by kernel_rfl
set_option maxHeartbeats 8000000 in
set_option maxRecDepth 100000 in
theorem conflict_CheckSmallest.calls (k:Nat) (A0:Option Addr) (c0:Nat) (l0:List (S49)) (A1_0:Option Addr) (c1_0:Nat) (l1_0:List Int) (A1_1:Option Addr) (c1_1:Nat) (l1_1:List (S96)) (A1_2:Option Addr) (c1_2:Nat) (l1_2:List Int) (A2:Option Addr) (c2:Nat) (l2:List Int) (r:Bool) (w:World) (hr0:Kd.C k49 w A0 l0.length l0) (hc0:l0.length≤c0) (hr1_0:Kd.C (Kd.int .i64) w A1_0 l1_0.length l1_0) (hc1_0:l1_0.length≤c1_0) (hr1_1:Kd.C k96 w A1_1 l1_1.length l1_1) (hc1_1:l1_1.length≤c1_1) (hr1_2:Kd.C (Kd.int .i64) w A1_2 l1_2.length l1_2) (hc1_2:l1_2.length≤c1_2) (hr2:Kd.C (Kd.int .i64) w A2 l2.length l2) (hc2:l2.length≤c2) (h:conflict_CheckSmallest.f k l0 l1_0 l1_1 l1_2 l2=some r) :
  Calls Tryz.prog 10 #[.slice A0 l0.length c0,.agg #[.slice A1_0 l1_0.length c1_0,.slice A1_1 l1_1.length c1_1,.slice A1_2 l1_2.length c1_2],.slice A2 l2.length c2] w fun e w'=>e=.returned (.bool r)∧Below w.heap.size w w':=by
 have HR0:=zA hr0;have HC0:=zA hc0;clear hr0 hc0;have HR1_0:=zA hr1_0;have HC1_0:=zA hc1_0;clear hr1_0 hc1_0;have HR1_1:=zA hr1_1;have HC1_1:=zA hc1_1;clear hr1_1 hc1_1;have HR1_2:=zA hr1_2;have HC1_2:=zA hc1_2;clear hr1_2 hc1_2;have HR2:=zA hr2;have HC2:=zA hc2;clear hr2 hc2;have HB:=zA (Below.refl w.heap.size w);have H:((conflict_Check.f k l0 l1_0 l1_1 l1_2).bind fun t77=>(if t77=true then (if (l1_0.length:Int)=0 then (some false) else ((conflict_sets.f k (l0.length:Int) (wrap64 ((l1_0.length:Int) - 1))).bind fun t50=>(if (t50.length:Int)=(l2.length:Int) then (conflict_CheckSmallest.l0 k l0 l2 t50 (t50.length:Int) 0) else (some false)))) else (some false)))=some r:=h;clear h;have HC4:=zA H;clear H
 go_enter Tryz.func10,Tryz.ntmps10
 go_upto_region 1 with (first|((with_reducible refine gd 4 rfl ?_);(try (refine gate_guard (by rfl) ?_;dsimp only));refine zx #[.slice A1_0 l1_0.length c1_0,.slice A1_1 l1_1.length c1_1,.slice A1_2 l1_2.length c1_2] 28 ?_;intro gb46 hg w5 BK46 hb GW46 HB1;have GE46:=GW46;clear HB hb hg;have HB:=HB1;clear HB1))
 (try simp only [Act.put,zi,zs,zt]);have H:=HC4.out;clear HC4;obtain ⟨t77,A6,H⟩:=zo H
 by_cases c7:t77=true
 ·subst c7
  have H1:(if (l1_0.length:Int)=0 then (some false) else ((conflict_sets.f k (l0.length:Int) (wrap64 ((l1_0.length:Int) - 1))).bind fun t50=>(if (t50.length:Int)=(l2.length:Int) then (conflict_CheckSmallest.l0 k l0 l2 t50 (t50.length:Int) 0) else (some false))))=some r:=by rw [if_pos rfl] at H;exact H
  clear H;have H:=H1;clear H1;have HC8:=zA H;clear H;have hcz9_0:=zc0 BK46;have hcz9_1:=zc1 BK46;have hcz9_2:=zc2 BK46;have hfz9_0:=zf BK46
  go_upto_if 19 with (first|((with_reducible refine gate_callee (f:=8) rfl ?_);refine zgo 12 Tryz.func8 #[.slice A0 l0.length c0,.agg #[.slice A1_0 l1_0.length c1_0,.slice A1_1 l1_1.length c1_1,.slice A1_2 l1_2.length c1_2]] ?_;(with_reducible refine (conflict_Check.calls k _ _ l0 _ _ l1_0 _ _ l1_1 _ _ l1_2 true _ (zD HR0 HB) HC0.out (zD HR1_0 HB) HC1_0.out (zD HR1_1 HB) HC1_1.out (zD HR1_2 HB) HC1_2.out A6.out).mono ?_);rintro e w10 ⟨rfl,hb⟩;refine ⟨_,rfl,?_⟩;replace BK46:=zw BK46 hb;replace HB:=zu hb;clear hb;have hcz11_0:=zc0 BK46;have hcz11_1:=zc1 BK46;have hcz11_2:=zc2 BK46;have hfz11_0:=zf BK46))
  (try simp only [Act.put,zi,zs,zt]);have H:=HC8.out;clear HC8
  rcases ife H with ⟨c12b0,c12b1,H⟩|⟨c12,c12b0,c12b1,H⟩
  ·(first|rw [c12b0]|(simp only [i64_w,i32_w];rw [c12b0])|skip)
   (try rw [c12b1]);obtain rfl:=Option.some.inj H
   go_wp2
   go_ret
   exact ⟨ze,zv1 HB GE46⟩
  ·have c12b2:¬ (l1_0=[]):=fun h_=>c12 (by rw [h_];rfl)
   (first|rw [c12b0]|(simp only [i64_w,i32_w];rw [c12b0])|skip)
   (try rw [c12b1]);(try rw [c12b2]);obtain ⟨t50,A13,H⟩:=zo H;have HC14:=zA H;clear H;have hcz15_0:=zc0 BK46;have hcz15_1:=zc1 BK46;have hcz15_2:=zc2 BK46;have hfz15_0:=zf BK46
   go_upto_if 31 with (first|((with_reducible refine gate_callee (f:=37) rfl ?_);refine zgo 26 Tryz.func37 #[.int .i64 (l0.length:Int),.int .i64 (wrap64 ((l1_0.length:Int) - 1))] ?_;(with_reducible refine (conflict_sets.calls k (l0.length:Int) (wrap64 ((l1_0.length:Int) - 1)) t50 _ A13.out).mono ?_);rintro e w16 ⟨v98,rfl,ho0,hb⟩;refine ⟨_,rfl,?_⟩;have HO87:=zA (Kd.N_lower (Kd.N_mono (ok':=fun k_=>k_≠gb46) (Kd.S_N (Kd.S_bound ho0)) (fun k_ hk_=>(Kd.freshB (g:=gb46) (o:=.cells #[.slice A1_0 l1_0.length c1_0,.slice A1_1 l1_1.length c1_1,.slice A1_2 l1_2.length c1_2] 28 (0,0)) (zk BK46) k_ hk_.2.1))) (below_size zB));replace BK46:=zw BK46 hb;replace HB:=zu hb;clear hb;(try clear ho0);obtain ⟨Ao17,co17,eo17⟩:=Kd.N_slice HO87.out;subst eo17))
   (try simp only [Act.put,zi,zs,zt]);have H:=HC14.out;clear HC14
   rcases if0 H with ⟨c18,H⟩|⟨c18,H⟩
   ·have c18b0:((t50.length:Int) == (l2.length:Int))=true:=beq_iff_eq.mpr c18;have c18b1:((t50.length:Int) != (l2.length:Int))=false:=bne_eq_false_iff_eq.mpr c18
    have c18b2:(t50.length == l2.length)=true:=by first|simpa using c18|(simp at c18 ⊢;omega)
    clear c18
    (first|rw [c18b0]|(simp only [i64_w,i32_w];rw [c18b0])|skip)
    (try rw [c18b1]);(try rw [c18b2]);have H':=zA H;clear H
    go_wp2
    go_loopg [34] k (fun kq v34 w'=>∃ (x34_1:Int),v34=.int .i64 x34_1∧Aside0 (conflict_CheckSmallest.l0 kq l0 l2 t50 (t50.length:Int) x34_1=some r)∧Aside0 (kq≤k)∧Aside0 (Kd.N (Kd.slice 3 (Kd.int .i64)) 23 w' w.heap.size (fun k_=>k_≠gb46) (.slice Ao17 t50.length co17) t50)∧Aside0 (w'.heap[gb46]?=some (.cells #[(.slice A1_0 l1_0.length c1_0),(.slice A1_1 l1_1.length c1_1),(.slice A1_2 l1_2.length c1_2)] 28 (0,0)))∧Aside0 (Below w.heap.size w w'))
    case atStart=>exact ⟨(0),zT,H',⟨Nat.le_refl _⟩,⟨by (with_reducible repeat (first|apply Kd.N_alloc|apply Kd.N_drewN|apply Kd.N_drew));exact HO87.out⟩,⟨by refine zj ?_;exact BK46.out⟩,⟨zv1 HB GE46⟩⟩
    case round=>
     clear H'
     try clear c7
     try clear c12
     try clear c12b0
     try clear c12b1
     try clear c12b2
     try clear c18
     try clear c18b0
     try clear c18b1
     try clear c18b2
     try clear hcz11_0
     try clear hcz11_1
     try clear hcz11_2
     try clear hcz15_0
     try clear hcz15_1
     try clear hcz15_2
     try clear hcz9_0
     try clear hcz9_1
     try clear hcz9_2
     try clear hfz11_0
     try clear hfz11_1
     try clear hfz11_2
     try clear hfz15_0
     try clear hfz15_1
     try clear hfz15_2
     try clear hfz9_0
     try clear hfz9_1
     try clear hfz9_2
     obtain ⟨x34_1,rfl,HA,HK1,HO_32,BK46,HB⟩:=hrel
     cases gk with
     | zero=>exact absurd HA.out (by simp [conflict_CheckSmallest.l0])
     | succ k1=>
      have H:=HA.out;clear HA;simp only [conflict_CheckSmallest.l0] at H
      rcases ifd H with ⟨c19b0,H⟩|⟨c19b0,H⟩
      ·obtain ⟨c20b0,H⟩:=ifd1 H;obtain ⟨c21b0,H⟩:=ifd1 H;obtain ⟨t76,A22,H⟩:=zo H;obtain ⟨c23b0,H⟩:=ifd1 H;obtain ⟨t83,A24,H⟩:=zo H;have HC25:=zA H;clear H;obtain ⟨p44,q44,ad44,A44_0,c44_0,e44,hx44_0,hl44_0,hi44_0⟩:=zp (at_L1 (Kd.N_reads' HO_32.out).2.2 x34_1)
       cases e44
       obtain ⟨ce44,hce44,hMe44,hcc44⟩:=Kd.N_get HO_32.out [] x34_1 p44 (by first|exact q44|exact of_decide_eq_true zh|(have e_:=(Kd.N_reads' HO_32.out).1;omega));obtain ⟨ua44_0,uc44_0,rfl,ul44_0,ge44_0⟩:=Kd.FK_slice_open hMe44;have hv44_0:=hcc44 0 _ rfl;rw [Nat.add_zero,show ((Kd.slice 3 (Kd.int .i64))).sz=1 from rfl,Nat.mul_one] at hv44_0;replace hv44_0:=Option.some.inj (hv44_0.symm.trans hx44_0)
       injection hv44_0 with hva_ hvn_ hvc_
       rw [hva_] at ge44_0;rw [hvc_] at ul44_0;have HL44_0:=zA (show Kd.V (Kd.int .i64) 3 _ w.heap.size _ _ (rd_L1 t50 x34_1) from Kd.V_mk ul44_0 ge44_0);clear hva_ hvn_ hvc_ ge44_0 ul44_0;clear hcc44 hce44;have HR44_0:=zA hi44_0;have HC44_0:=zA hl44_0;clear hi44_0 hl44_0;replace p44:=eq_true p44;replace q44:=eq_true q44
       try go_wp2
       replace HO_32:=zA (Kd.N_drew HO_32.out);replace HL44_0:=zA (Kd.V_drew HL44_0.out);replace BK46:=zA (blk_drew BK46.out);replace HR44_0:=zA (Kd.C_drew HR44_0.out);replace HB:=zA (below_drew1 HB.out);obtain ⟨p52,q52,ad52,e52,hx52_0⟩:=zp (Kd.at_int HR2.out x34_1);have hw52_0:=hx52_0
       cases e52
       replace hx52_0:=zd HB hx52_0;replace p52:=eq_true p52;replace q52:=eq_true q52;refine start_ (n:=9) (S:=fun w'=>w'.cell? (ad52.add (x34_1).toNat)=some (.int .i64 (rd l2 x34_1))) (ds:=[]) (bz 9 0) zK rfl rfl (((HB.out.cell (World.block_lt_of_cell? w _ hw52_0)).trans hw52_0)) (fun hHeld=>?_);refine with_tabW conflict_CheckSmallest.tab9 conflict_CheckSmallest.bits9 (fun HT_ HW_=>?_)
       generalize wr.drew=w26 at HO_32 HL44_0 BK46 HR44_0 HB hx52_0 hHeld ⊢
       refine zP 0 39 (bz 9 1) HT_ ?_;refine zP 1 40 (bz 9 3) HT_ ?_;refine zP 3 42 (bz 9 11) HT_ ?_;refine zP 4 43 (bz 9 27) HT_ ?_;refine zP 5 44 (bz 9 59) HT_ ?_;refine take_ (i:=6) (N:=some 45) (v:=?_) (a':=?_) (bz 9 123) rfl rfl (take_ofW HT_.out HW_.out zK) (fun _ _ _ h=>h) (Or.inl ⟨by rfl,?_⟩) hHeld ?_ ?_;rotate_left
       ·intro w' s0
        go_simp
        with_reducible rfl
       rotate_left
       ·simp only [Act.put,zi,zs,zt,i64_w,i32_w];rfl
       refine one_ (i:=2) (N:=some 41) (bz 9 127) rfl rfl (one_of HT_.out zK) (by decide) (fun K hK=>?_);refine goes_ Tryz.func32 zK rfl #[.slice A0 l0.length c0,.slice A44_0 (rd_L1 t50 x34_1).length c44_0] (by rfl) rfl rfl zM ?_
       with_reducible refine (conflict_system.calls k1 (fun k_=>k_<w.heap.size) _ _ l0 _ _ (rd_L1 t50 x34_1) t76 _ ?side1 ?side2 ?side3 A22.out).mono ?_
       (case side1=>exact Kd.V_mk HC0.out (Kd.F_below (Kd.C_F k49_heap HR0.out) zB));(case side2=>exact zC ((Kd.V_reads' HL44_0.out).2.2));(case side3=>exact HC44_0.out);rintro e w27 ⟨v99,rfl,ho0,hb⟩;refine ⟨_,rfl,?_⟩;have HO78:=zA (Kd.N_lower (Kd.N_mono (ok':=fun k_=>some k_≠(.slice (some ad44) t50.length co17:Value).ownBlock∧k_≠gb46) ho0 (fun k_ hk_=>⟨Or.elim hk_ (fun hs_=>fun e_=>Nat.not_le.2 hs_ (Kd.N_base HO_32.out k_ e_.symm)) (fun hn_=>(Kd.fresh' (Kd.N_lt (zN HO_32)) k_ hn_)),Or.elim hk_ (fun hs_=>fun e_=>Nat.not_le.2 hs_ (by rw [e_];exact GW46.out)) (fun hn_=>(Kd.freshB (g:=gb46) (o:=.cells #[.slice A1_0 l1_0.length c1_0,.slice A1_1 l1_1.length c1_1,.slice A1_2 l1_2.length c1_2] 28 (0,0)) (zk BK46) k_ hn_))⟩)) (below_size zB));replace HO_32:=zA (Kd.N_elder' (zN HO_32) (Kd.N_base ho0) hb);replace BK46:=zw BK46 hb;replace HR44_0:=zA (Kd.C_below ((Kd.V_reads' HL44_0.out).2.2) hb);replace HL44_0:=zA (Kd.V_elder' (by (with_reducible repeat (first|apply Kd.V_alloc|apply Kd.V_drewN|apply Kd.V_drew));exact HL44_0.out) (Kd.N_base ho0) hb);replace HB:=zu hb;(try clear hb);(try clear hb2);(try clear hk);(try clear hi);(try clear ho0);obtain ⟨Ao28,co28,eo28⟩:=Kd.N_slice HO78.out
       (first|subst eo28|(injection eo28 with f1_ f2_ f3_;have f4_:=f1_.symm;have f5_:=f3_.symm;clear f1_ f2_ f3_;subst f4_;subst f5_))
       refine hK.out _ _ (((HB.out.cell (World.block_lt_of_cell? w _ hw52_0)).trans hw52_0)) (fun hHeld=>?_);clear hK K;refine norm_ (a':=?_) ?_ ?_;rotate_left
       ·show Act.put _ (some 41) _=_
        simp only [Act.put,zi,zs,zt,i64_w,i32_w];rfl
       refine one_ (i:=7) (N:=some 46) (bz 9 255) rfl rfl (one_of HT_.out zK) (by decide) (fun K hK=>?_);refine goes_ Tryz.func34 zK rfl #[.slice Ao28 t76.length co28,.int .i64 (rd l2 x34_1)] (by rfl) rfl rfl zM ?_
       with_reducible refine (solve_Holds.calls k1 _ _ t76 (rd l2 x34_1) t83 _ ?side1 ?side2 A24.out).mono ?_
       (case side1=>exact zC (Kd.N_reads' HO78.out).2.2);(case side2=>exact (Kd.N_reads' HO78.out).2.1);rintro e w29 ⟨rfl,hb⟩;refine ⟨_,rfl,?_⟩;replace HO_32:=zA (Kd.N_below (zN HO_32) hb);replace HO78:=zA (Kd.N_below (zN HO78) hb);replace BK46:=zw BK46 hb;replace HR44_0:=zA (Kd.C_below ((Kd.V_reads' HL44_0.out).2.2) hb);replace HL44_0:=zA (Kd.V_below (by (with_reducible repeat (first|apply Kd.V_alloc|apply Kd.V_drewN|apply Kd.V_drew));exact HL44_0.out) hb);replace HB:=zu hb;(try clear hb);(try clear hb2);(try clear hk);(try clear hi);refine hK.out _ _ (((HB.out.cell (World.block_lt_of_cell? w _ hw52_0)).trans hw52_0)) (fun hHeld=>?_);clear hK K;refine norm_ (a':=?_) ?_ ?_;rotate_left
       ·show Act.put _ (some 46) _=_
        simp only [Act.put,zi,zs,zt,i64_w,i32_w];rfl
       refine zP 8 47 (bz 9 511) HT_ ?_;refine done_ (done_of HT_.out zK) ?_
       go_upto_if 47 with (fail)
       (try simp only [Act.put,zi,zs,zt]);have H:=HC25.out;clear HC25
       by_cases c30:t83=true
       ·subst c30
        have H1:(conflict_CheckSmallest.l0 k1 l0 l2 t50 (t50.length:Int) (wrap64 (x34_1+1)))=some r:=by rw [if_pos rfl] at H;exact H
        clear H;have H:=H1;clear H1;have H':=zA H;clear H
        go_wp2
        go_roundg k1
        case measure=>have:=HK1.out;omega
        case rel=>exact ⟨(wrap64 (x34_1+1)),zT,H',⟨by have:=HK1.out;omega⟩,⟨by (with_reducible repeat (first|apply Kd.N_alloc|apply Kd.N_drewN|apply Kd.N_drew));exact Kd.N_mono HO_32.out (fun _ hk=>hk.1)⟩,⟨by refine zj ?_;exact BK46.out⟩,⟨zv1 HB GE46⟩⟩
       ·replace c30:=Bool.eq_false_iff.mpr c30;subst c30
        have H1:(some false)=some r:=by rw [if_neg (show ¬ (false=true) by decide)] at H;exact H
        clear H;have H:=H1;clear H1;obtain rfl:=Option.some.inj H
        go_wp2
        go_ret
        exact ⟨ze,zv1 HB GE46⟩
      ·obtain rfl:=Option.some.inj H
       go_wp2
       go_ret
       exact ⟨ze,zv1 HB GE46⟩
   ·have c18b0:((t50.length:Int) == (l2.length:Int))=false:=beq_eq_false_iff_ne.mpr c18;have c18b1:((t50.length:Int) != (l2.length:Int))=true:=bne_iff_ne.mpr c18
    have c18b2:(t50.length == l2.length)=false:=by first|simpa using c18|(simp at c18 ⊢;omega)
    (first|rw [c18b0]|(simp only [i64_w,i32_w];rw [c18b0])|skip)
    (try rw [c18b1]);(try rw [c18b2]);obtain rfl:=Option.some.inj H
    go_wp2
    go_ret
    exact ⟨ze,zv1 HB GE46⟩
 ·replace c7:=Bool.eq_false_iff.mpr c7;subst c7
  have H1:(some false)=some r:=by rw [if_neg (show ¬ (false=true) by decide)] at H;exact H
  clear H;have H:=H1;clear H1;obtain rfl:=Option.some.inj H;have hcz31_0:=zc0 BK46;have hcz31_1:=zc1 BK46;have hcz31_2:=zc2 BK46;have hfz31_0:=zf BK46
  go_wp2_with (first|((with_reducible refine gate_callee (f:=8) rfl ?_);refine zgo 12 Tryz.func8 #[.slice A0 l0.length c0,.agg #[.slice A1_0 l1_0.length c1_0,.slice A1_1 l1_1.length c1_1,.slice A1_2 l1_2.length c1_2]] ?_;(with_reducible refine (conflict_Check.calls k _ _ l0 _ _ l1_0 _ _ l1_1 _ _ l1_2 false _ (zD HR0 HB) HC0.out (zD HR1_0 HB) HC1_0.out (zD HR1_1 HB) HC1_1.out (zD HR1_2 HB) HC1_2.out A6.out).mono ?_);rintro e w32 ⟨rfl,hb⟩;refine ⟨_,rfl,?_⟩;replace BK46:=zw BK46 hb;replace HB:=zu hb;clear hb))
  go_ret
  exact ⟨ze,zv1 HB GE46⟩
end Go.Proofs.YtkjghablbeaioaaGreat.B
