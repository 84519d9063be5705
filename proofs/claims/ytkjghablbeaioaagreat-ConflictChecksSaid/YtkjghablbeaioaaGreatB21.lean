import Derived.Test.YtkjghablbeaioaaGreatB0
import Derived.Test.YtkjghablbeaioaaGreatB10
import Derived.Test.YtkjghablbeaioaaGreatB14
import Derived.Test.YtkjghablbeaioaaGreatB20
namespace Go.Proofs.YtkjghablbeaioaaGreat.B
open Go.RowKit Go.Proofs.YtkjghablbeaioaaGreatW.PrintWords Go.Proofs.YtkjghablbeaioaaGreatW.PrintLast Go.Proofs.YtkjghablbeaioaaGreatW.PrintMore
attribute [local go_sem] max2_int min2_int max_two min_two max_three min_three max_four min_four Tryz.underlying24 Tryz.underlying26 Tryz.underlying4 Tryz.underlying49 Tryz.underlying86
set_option linter.unusedVariables false
set_option linter.unusedSimpArgs false
def ancepsref40_Check.l0:Nat→List Bool→Int→Option (Bool)
 | 0,_,_=>none
 | k+1,x5,x6=>if x6<(x5.length:Int) then (if 0≤x6 then (if rdOf false x5 x6=true then (ancepsref40_Check.l0 k x5 (wrap64 (x6+1))) else (some false)) else (none)) else (some true)
def ancepsref40_Check.f (k:Nat) (l0:List (S49)) (l1_0:List (S96)):Option (Bool):=(ancepsref40_Valid.f k l0).bind fun t42=>(if t42=0 then (if (l1_0.length:Int)=0 then (some false) else (if (l1_0.length:Int)>2000 then (some false) else (if 0≤(l1_0.length:Int) then (if ((l1_0.length:Int):Int).toNat≤281474976710656 then ((ancepsref40_below.f k l0 l1_0 0 0 0 (List.replicate ((l1_0.length:Int):Int).toNat false)).bind fun bt36=>(if bt36.1=true then (ancepsref40_Check.l0 k bt36.2 0) else (some false))) else (none)) else (none)))) else (some false))
set_option maxHeartbeats 8000000 in
set_option maxRecDepth 100000 in
theorem ancepsref40_Check.calls (k:Nat) (A0:Option Addr) (c0:Nat) (l0:List (S49)) (A1_0:Option Addr) (c1_0:Nat) (l1_0:List (S96)) (r:Bool) (w:World) (hr0:Kd.C k49 w A0 l0.length l0) (hc0:l0.length≤c0) (hr1_0:Kd.C k96 w A1_0 l1_0.length l1_0) (hc1_0:l1_0.length≤c1_0) (h:ancepsref40_Check.f k l0 l1_0=some r) :
  Calls Tryz.prog 39 #[.slice A0 l0.length c0,.agg #[.slice A1_0 l1_0.length c1_0]] w fun e w'=>e=.returned (.bool r)∧Below w.heap.size w w':=by
 have HR0:=zA hr0;have HC0:=zA hc0;clear hr0 hc0;have HR1_0:=zA hr1_0;have HC1_0:=zA hc1_0;clear hr1_0 hc1_0;have HB:=zA (Below.refl w.heap.size w);have H:((ancepsref40_Valid.f k l0).bind fun t42=>(if t42=0 then (if (l1_0.length:Int)=0 then (some false) else (if (l1_0.length:Int)>2000 then (some false) else (if 0≤(l1_0.length:Int) then (if ((l1_0.length:Int):Int).toNat≤281474976710656 then ((ancepsref40_below.f k l0 l1_0 0 0 0 (List.replicate ((l1_0.length:Int):Int).toNat false)).bind fun bt36=>(if bt36.1=true then (ancepsref40_Check.l0 k bt36.2 0) else (some false))) else (none)) else (none)))) else (some false)))=some r:=h;clear h;have HC3:=zA H;clear H
 go_enter Tryz.func39,Tryz.ntmps39
 go_upto_region 1 with (first|((with_reducible refine gd 3 rfl ?_);(try (refine gate_guard (by rfl) ?_;dsimp only));refine zx #[.slice A1_0 l1_0.length c1_0] 26 ?_;intro gb31 hg w4 BK31 hb GW31 HB1;have GE31:=GW31;clear HB hb hg;have HB:=HB1;clear HB1))
 (try simp only [Act.put,zi,zs,zt]);have H:=HC3.out;clear HC3;obtain ⟨t42,A5,H⟩:=zo H
 rcases ife H with ⟨c6b0,c6b1,H⟩|⟨c6,c6b0,c6b1,H⟩
 ·(first|rw [c6b0]|(simp only [i64_w,i32_w];rw [c6b0])|skip)
  (try rw [c6b1])
  rcases ife H with ⟨c7b0,c7b1,H⟩|⟨c7,c7b0,c7b1,H⟩
  ·obtain rfl:=Option.some.inj H
   go_wp2_with (first|((with_reducible refine gate_callee (f:=64) rfl ?_);refine zgo 8 Tryz.func64 #[.slice A0 l0.length c0] ?_;(with_reducible refine (ancepsref40_Valid.calls k _ _ l0 t42 _ (zD HR0 HB) HC0.out A5.out).mono ?_);rintro e w8 ⟨rfl,hb⟩;refine ⟨_,rfl,?_⟩;replace BK31:=zw BK31 hb;replace HB:=zu hb;clear hb;have hcz9_0:=zc0 BK31;have hfz9_0:=zf BK31 0))
   go_ret
   exact ⟨ze,zv1 HB GE31⟩
  ·have c7b2:¬ (l1_0=[]):=fun h_=>c7 (by rw [h_];rfl)
   have HC10:=zA H;clear H
   go_upto_if 21 with (first|((with_reducible refine gate_callee (f:=64) rfl ?_);refine zgo 8 Tryz.func64 #[.slice A0 l0.length c0] ?_;(with_reducible refine (ancepsref40_Valid.calls k _ _ l0 t42 _ (zD HR0 HB) HC0.out A5.out).mono ?_);rintro e w11 ⟨rfl,hb⟩;refine ⟨_,rfl,?_⟩;replace BK31:=zw BK31 hb;replace HB:=zu hb;clear hb;have hcz12_0:=zc0 BK31;have hfz12_0:=zf BK31 0))
   (try simp only [Act.put,zi,zs,zt]);have H:=HC10.out;clear HC10
   rcases if0 H with ⟨c13,H⟩|⟨c13,H⟩
   ·have c13b0:decide (2000<(l1_0.length:Int))=true:=decide_eq_true c13;have c13b1:decide (2000<l1_0.length)=true:=decide_eq_true (by omega);clear c13
    (first|rw [c13b0]|(simp only [i64_w,i32_w];rw [c13b0])|skip)
    (try rw [c13b1]);obtain rfl:=Option.some.inj H
    go_wp2
    go_ret
    exact ⟨ze,zv1 HB GE31⟩
   ·have c13b0:decide (2000<(l1_0.length:Int))=false:=decide_eq_false c13;have c13b1:decide (2000<l1_0.length)=false:=decide_eq_false (by omega);clear c13
    (first|rw [c13b0]|(simp only [i64_w,i32_w];rw [c13b0])|skip)
    (try rw [c13b1]);obtain ⟨c14,H⟩:=if1 H;have c14b0:=eq_true c14;have c14b1:decide (0≤(l1_0.length:Int))=true:=decide_eq_true c14;clear c14;obtain ⟨c15,H⟩:=if1 H;have c15b0:=eq_true c15;have c15b1:decide (((l1_0.length:Int):Int).toNat≤281474976710656)=true:=decide_eq_true c15;clear c15
    first|(replace H:=zyb (List.replicate ((l1_0.length:Int):Int).toNat false) H;obtain ⟨y34,Ny34,H⟩:=H)|(obtain ⟨y34,hy34⟩:=zY (List.replicate ((l1_0.length:Int):Int).toNat false);(try rw (occs:=.pos [1]) [← hy34] at H);have Ny34:=zA hy34;clear hy34)
    obtain ⟨t36,t43,A16,H⟩:=zO H
    dsimp only at H
    have HC17:=zA H;clear H;have hcz18_0:=zc0 BK31;have hfz18_0:=zf BK31 0
    go_upto_if 32 with (first|((with_reducible refine gate_dst (N:=25) rfl ?_);(try (refine gate_guard (by rfl) ?_;dsimp only));refine Kd.R_make Kd.bool _ 4 rfl (N:=25) rfl 83 _ _ rfl (l1_0.length:Int) rfl rfl Tryz.underlying83 (.bool false) 1 info4 rfl (by decide) (by omega) false (ok:=fun _=>True) (okp:=fun _=>True) rfl (fun _ hk=>hk) trivial (of_decide_eq_true zh) (Nat.le_trans (Nat.mul_le_mul_right _ (of_decide_eq_true zh:(l1_0.length:Int).toNat≤281474976710656)) (by omega)) (Below.refl _ _) (Nat.le_refl _) ?_;intro v50 w19 ho20 hb hg_ hnew_;clear hg_ hnew_;(first|rw [← Ny34.out] at ho20|(simp only [Int.reduceToNat] at ho20;rw [← Ny34.out] at ho20));have HO37:=zA (Kd.R_lower ho20 (below_size zB));replace BK31:=zw BK31 hb;replace HB:=zu hb;clear hb ho20;have hcz21_0:=zc0 BK31;have hfz21_0:=zf BK31 0;obtain ⟨Ao22,co22,eo22⟩:=Kd.R_slice HO37.out;subst eo22)|((with_reducible refine gate_callee (f:=74) rfl ?_);refine zgo 31 Tryz.func74 #[.slice A0 l0.length c0,.slice A1_0 l1_0.length c1_0,.int .i64 0,.agg #[.int .i64 0,.int .i64 0],.slice Ao22 y34.length co22] ?_;(with_reducible refine (ancepsref40_below.calls k _ _ l0 _ _ l1_0 0 0 0 (fun k_=>some k_=(.slice Ao22 y34.length co22:Value).ownBlock) (.slice Ao22 y34.length co22) y34 t36 t43 w _ ?side1 ?side2 HC0.out ?side4 HC1_0.out ?side6 A16.out).mono ?_);(case side1=>repeat (first|(with_reducible first|exact HB.out|apply below_alloc|apply pw_below_drewN|apply below_drew1|refine below_set ?_ GE31.out)|exact HB.out));(case side2=>exact Kd.C_kept_came k49_heap HR0.out zB (fun k_ hs_=>(fun e_=>Kd.R_base HO37.out k_ e_.symm) hs_));(case side4=>exact Kd.C_kept_came k96_heap HR1_0.out zB (fun k_ hs_=>(fun e_=>Kd.R_base HO37.out k_ e_.symm) hs_));(case side6=>exact Kd.R_tight rfl HO37.out);rintro e w23 ⟨rfl,hy0,hb,hkp⟩;refine ⟨_,rfl,?_⟩;replace BK31:=zA (blk_kept (zk BK31) hkp (fun hs_=>(fun e_=>(Kd.R_ne HO37.out BK31.out (by decide)) e_) hs_));replace HO37:=zA (Kd.R_reok rfl hy0 (fun k_ e_=>HO37.out.1 k_ e_));replace HB:=zA (hb);(try clear hb);(try clear hkp);(try clear hy0)))
    (try simp only [Act.put,zi,zs,zt]);have H:=HC17.out;clear HC17
    by_cases c24:t36=true
    ·subst c24
     have H1:(ancepsref40_Check.l0 k t43 0)=some r:=by rw [if_pos rfl] at H;exact H
     clear H;have H:=H1;clear H1;have H':=zA H;clear H
     go_wp2
     go_loopg [6] k (fun kq v6 w'=>∃ (x6_1:Int),v6=.int .i64 x6_1∧Aside0 (ancepsref40_Check.l0 kq t43 x6_1=some r)∧Aside0 (kq≤k)∧Aside0 (Kd.R Kd.bool 4 w' w.heap.size (fun _=>True) (.slice Ao22 y34.length co22) t43)∧Aside0 (w'.heap[gb31]?=some (.cells #[(.slice A1_0 l1_0.length c1_0)] 26 (0,0)))∧Aside0 (Below w.heap.size w w'))
     case atStart=>exact ⟨(0),zT,H',⟨Nat.le_refl _⟩,⟨by refine zr ?_;exact HO37.out⟩,⟨by refine zj ?_;exact BK31.out⟩,⟨zv1 HB GE31⟩⟩
     case round=>
      clear H'
      try clear c6
      try clear c6b0
      try clear c6b1
      try clear c7
      try clear c7b0
      try clear c7b1
      try clear c7b2
      try clear c13
      try clear c13b0
      try clear c13b1
      try clear c14
      try clear c14b0
      try clear c14b1
      try clear c15
      try clear c15b0
      try clear c15b1
      try clear c24
      try clear hcz12_0
      try clear hcz18_0
      try clear hcz21_0
      try clear hfz12_0
      try clear hfz18_0
      try clear hfz21_0
      obtain ⟨x6_1,rfl,HA,HK1,HO_5,BK31,HB⟩:=hrel;have hl5_1:=(Kd.R_reads' HO_5.out).1;rw [hl5_1] at HO_5;(try simp only [hl5_1]);(try simp only [hl5_1] at BK31)
      cases gk with
      | zero=>exact absurd HA.out (by simp [ancepsref40_Check.l0])
      | succ k1=>
       have H:=HA.out;clear HA;simp only [ancepsref40_Check.l0] at H
       rcases ifd H with ⟨c25b0,H⟩|⟨c25b0,H⟩
       ·(first|rw [c25b0]|(simp only [i64_w,i32_w];rw [c25b0])|skip)
        obtain ⟨c26b0,H⟩:=ifd1 H
        obtain ⟨bq27,hbq27⟩:∃ b_:Bool,b_=(rdOf false t43 x6_1):=⟨_,rfl⟩
        replace H:(if bq27=true then (ancepsref40_Check.l0 k1 t43 (wrap64 (x6_1+1))) else (some false))=some r:=by rw [← hbq27] at H;exact H
        have Nbq27:=zA hbq27;clear hbq27
        by_cases c28:bq27=true
        ·subst c28
         have H1:(ancepsref40_Check.l0 k1 t43 (wrap64 (x6_1+1)))=some r:=by rw [if_pos rfl] at H;exact H
         clear H;have H:=H1;clear H1;have H':=zA H;clear H;obtain ⟨p33,q33,ad33,e33,hx33_0⟩:=zp (Kd.at_bool (Kd.R_reads' HO_5.out).2.2 x6_1);(try rw [← Nbq27.out] at hx33_0)
         cases e33
         replace p33:=eq_true p33;replace q33:=eq_true q33
         go_wp2
         (try simp only [← hl5_1])
         go_roundg k1
         case measure=>have:=HK1.out;omega
         case rel=>exact ⟨(wrap64 (x6_1+1)),zT,H',⟨by have:=HK1.out;omega⟩,⟨by (try simp only [hl5_1]);refine zr ?_;exact HO_5.out⟩,⟨by (try simp only [hl5_1]);refine zj ?_;exact BK31.out⟩,⟨zv1 HB GE31⟩⟩
        ·replace c28:=Bool.eq_false_iff.mpr c28;subst c28
         have H1:(some false)=some r:=by rw [if_neg (show ¬ (false=true) by decide)] at H;exact H
         clear H;have H:=H1;clear H1;obtain rfl:=Option.some.inj H;obtain ⟨p33,q33,ad33,e33,hx33_0⟩:=zp (Kd.at_bool (Kd.R_reads' HO_5.out).2.2 x6_1);(try rw [← Nbq27.out] at hx33_0)
         cases e33
         replace p33:=eq_true p33;replace q33:=eq_true q33
         go_wp2
         go_ret
         exact ⟨ze,zv1 HB GE31⟩
       ·(first|rw [c25b0]|(simp only [i64_w,i32_w];rw [c25b0])|skip)
        obtain rfl:=Option.some.inj H
        go_wp2
        go_ret
        exact ⟨ze,zv1 HB GE31⟩
    ·replace c24:=Bool.eq_false_iff.mpr c24;subst c24
     have H1:(some false)=some r:=by rw [if_neg (show ¬ (false=true) by decide)] at H;exact H
     clear H;have H:=H1;clear H1;obtain rfl:=Option.some.inj H
     go_wp2
     go_ret
     exact ⟨ze,zv1 HB GE31⟩
 ·(first|rw [c6b0]|(simp only [i64_w,i32_w];rw [c6b0])|skip)
  (try rw [c6b1]);obtain rfl:=Option.some.inj H
  go_wp2_with (first|((with_reducible refine gate_callee (f:=64) rfl ?_);refine zgo 8 Tryz.func64 #[.slice A0 l0.length c0] ?_;(with_reducible refine (ancepsref40_Valid.calls k _ _ l0 t42 _ (zD HR0 HB) HC0.out A5.out).mono ?_);rintro e w29 ⟨rfl,hb⟩;refine ⟨_,rfl,?_⟩;replace BK31:=zw BK31 hb;replace HB:=zu hb;clear hb))
  go_ret
  exact ⟨ze,zv1 HB GE31⟩
def ancepsref40_Holds.l0:Nat→List (S49)→Int→Int→Option (Bool)
 | 0,_,_,_=>none
 | k+1,x0,x1,x6=>if x6<(x0.length:Int) then (if 0≤x6 then ((ancepsref38_Holds.f k ((rd_T49 x0 x6).f0) ((rd_T49 x0 x6).f1) x1).bind fun t48=>(if t48=true then (ancepsref40_Holds.l0 k x0 x1 (wrap64 (x6+1))) else (some false))) else (none)) else (some true)
def ancepsref40_Holds.f (k:Nat) (l0:List (S49)) (a1:Int):Option (Bool):=(ancepsref40_Valid.f k l0).bind fun t44=>(if t44=0 then (if a1<0 then (some false) else (if a1≥16777216 then (some false) else ((ancepsref40_Vars.f k l0).bind fun t35=>((ancepsref38_Row.f k t35 a1).bind fun t45=>((ancepsref38_Assignment.f k t35 t45).bind fun t46=>(if t46=a1 then (ancepsref40_Holds.l0 k l0 a1 0) else (some false))))))) else (some false))
set_option maxHeartbeats 8000000 in
set_option maxRecDepth 100000 in
theorem ancepsref40_Holds.calls (k:Nat) (A0:Option Addr) (c0:Nat) (l0:List (S49)) (a1:Int) (r:Bool) (w:World) (hr0:Kd.C k49 w A0 l0.length l0) (hc0:l0.length≤c0) (h:ancepsref40_Holds.f k l0 a1=some r) :
  Calls Tryz.prog 41 #[.slice A0 l0.length c0,.int .i64 a1] w fun e w'=>e=.returned (.bool r)∧Below w.heap.size w w':=by
 have HR0:=zA hr0;have HC0:=zA hc0;clear hr0 hc0;have HB:=zA (Below.refl w.heap.size w);have H:((ancepsref40_Valid.f k l0).bind fun t44=>(if t44=0 then (if a1<0 then (some false) else (if a1≥16777216 then (some false) else ((ancepsref40_Vars.f k l0).bind fun t35=>((ancepsref38_Row.f k t35 a1).bind fun t45=>((ancepsref38_Assignment.f k t35 t45).bind fun t46=>(if t46=a1 then (ancepsref40_Holds.l0 k l0 a1 0) else (some false))))))) else (some false)))=some r:=h;clear h;obtain ⟨t44,A3,H⟩:=zo H
 rcases ife H with ⟨c4b0,c4b1,H⟩|⟨c4,c4b0,c4b1,H⟩
 ·rcases ifd H with ⟨c5b0,H⟩|⟨c5b0,H⟩
  ·obtain rfl:=Option.some.inj H
   go_enter Tryz.func41,Tryz.ntmps41
   go_wp2_with (first|((with_reducible refine gate_callee (f:=64) rfl ?_);refine zgo 8 Tryz.func64 #[.slice A0 l0.length c0] ?_;(with_reducible refine (ancepsref40_Valid.calls k _ _ l0 t44 _ ?side1 HC0.out A3.out).mono ?_);(case side1=>repeat (first|exact HR0.out|(with_reducible refine Kd.C_alloc ?_ _)|(with_reducible refine Kd.C_drewN ?_ _)|(with_reducible refine Kd.C_drew ?_)));rintro e w6 ⟨rfl,hb⟩;refine ⟨_,rfl,?_⟩;replace HB:=zu hb;clear hb))
   go_ret
   exact ⟨ze,zv0 HB⟩
  ·have HC7:=zA H;clear H
   go_enter Tryz.func41,Tryz.ntmps41
   go_upto_if 17 with (first|((with_reducible refine gate_callee (f:=64) rfl ?_);refine zgo 8 Tryz.func64 #[.slice A0 l0.length c0] ?_;(with_reducible refine (ancepsref40_Valid.calls k _ _ l0 t44 _ ?side1 HC0.out A3.out).mono ?_);(case side1=>repeat (first|exact HR0.out|(with_reducible refine Kd.C_alloc ?_ _)|(with_reducible refine Kd.C_drewN ?_ _)|(with_reducible refine Kd.C_drew ?_)));rintro e w8 ⟨rfl,hb⟩;refine ⟨_,rfl,?_⟩;replace HB:=zu hb;clear hb))
   (try simp only [Act.put,zi,zs,zt]);have H:=HC7.out;clear HC7
   rcases if0 H with ⟨c9,H⟩|⟨c9,H⟩
   ·have c9b0:decide (16777216≤a1)=true:=decide_eq_true c9;clear c9
    (first|rw [c9b0]|(simp only [i64_w,i32_w];rw [c9b0])|skip)
    obtain rfl:=Option.some.inj H
    go_wp2
    go_ret
    exact ⟨ze,zv0 HB⟩
   ·have c9b0:decide (16777216≤a1)=false:=decide_eq_false c9;clear c9
    (first|rw [c9b0]|(simp only [i64_w,i32_w];rw [c9b0])|skip)
    obtain ⟨t35,A10,H⟩:=zo H;obtain ⟨t45,A11,H⟩:=zo H;obtain ⟨t46,A12,H⟩:=zo H;have HC13:=zA H;clear H
    go_upto_if 26 with (first|((with_reducible refine gate_callee (f:=29) rfl ?_);refine zgo 19 Tryz.func29 #[.slice A0 l0.length c0] ?_;(with_reducible refine (ancepsref40_Vars.calls k _ _ l0 t35 _ (zD HR0 HB) HC0.out A10.out).mono ?_);rintro e w14 ⟨v51,rfl,ho0,hb⟩;refine ⟨_,rfl,?_⟩;have HO47:=zA (Kd.R_lower ho0 (below_size zB));replace HB:=zu hb;clear hb;(try clear ho0);obtain ⟨Ao15,co15,eo15⟩:=Kd.R_slice HO47.out;subst eo15)|((with_reducible refine gate_callee (f:=76) rfl ?_);refine zgo 23 Tryz.func76 #[.slice Ao15 t35.length co15,.int .i64 a1] ?_;(with_reducible refine (ancepsref38_Row.calls k _ _ t35 a1 t45 _ ?side1 ?side2 A11.out).mono ?_);(case side1=>exact zC (Kd.R_reads' HO47.out).2.2);(case side2=>exact (Kd.R_reads' HO47.out).2.1);rintro e w' ⟨rfl,⟨nd,rfl⟩⟩;refine ⟨_,rfl,?_⟩)|((with_reducible refine gate_callee (f:=75) rfl ?_);refine zgo 24 Tryz.func75 #[.slice Ao15 t35.length co15,.int .i64 t45] ?_;(with_reducible refine (ancepsref38_Assignment.calls k _ _ t35 t45 t46 _ ?side1 ?side2 A12.out).mono ?_);(case side1=>exact zC (Kd.R_reads' HO47.out).2.2);(case side2=>exact (Kd.R_reads' HO47.out).2.1);rintro e w' ⟨rfl,⟨nd,rfl⟩⟩;refine ⟨_,rfl,?_⟩))
    (try simp only [Act.put,zi,zs,zt]);have H:=HC13.out;clear HC13
    rcases ife H with ⟨c16b0,c16b1,H⟩|⟨c16,c16b0,c16b1,H⟩
    ·(first|rw [c16b0]|(simp only [i64_w,i32_w];rw [c16b0])|skip)
     (try rw [c16b1]);have H':=zA H;clear H
     go_wp2
     go_loopg [6] k (fun kq v6 w'=>∃ (x6_1:Int),v6=.int .i64 x6_1∧Aside0 (ancepsref40_Holds.l0 kq l0 a1 x6_1=some r)∧Aside0 (kq≤k)∧Aside0 (Below w.heap.size w w'))
     case atStart=>exact ⟨(0),zT,H',⟨Nat.le_refl _⟩,⟨zv0 HB⟩⟩
     case round=>
      clear H'
      try clear c4
      try clear c4b0
      try clear c4b1
      try clear c5
      try clear c5b0
      try clear c9
      try clear c9b0
      try clear c16
      try clear c16b0
      try clear c16b1
      obtain ⟨x6_1,rfl,HA,HK1,HB⟩:=hrel
      cases gk with
      | zero=>exact absurd HA.out (by simp [ancepsref40_Holds.l0])
      | succ k1=>
       have H:=HA.out;clear HA;simp only [ancepsref40_Holds.l0] at H
       rcases ifd H with ⟨c17b0,H⟩|⟨c17b0,H⟩
       ·obtain ⟨c18b0,H⟩:=ifd1 H;obtain ⟨t48,A19,H⟩:=zo H;have HC20:=zA H;clear H;obtain ⟨p30,q30,ad30,A30_0,c30_0,A30_1,c30_1,e30,hx30_0,hx30_1,hl30_0,hi30_0,hl30_1,hi30_1⟩:=zp (at_T49 HR0.out x6_1)
        cases e30
        replace hx30_0:=zd HB hx30_0;replace hx30_1:=zd HB hx30_1;have HR30_0:=zA hi30_0;have HC30_0:=zA hl30_0;clear hi30_0 hl30_0;have HR30_1:=zA hi30_1;have HC30_1:=zA hl30_1;clear hi30_1 hl30_1;replace p30:=eq_true p30;replace q30:=eq_true q30
        go_upto_if 39 with (first|((with_reducible refine gate_callee (f:=77) rfl ?_);refine zgo 38 Tryz.func77 #[.agg #[.slice A30_0 ((rd_T49 l0 x6_1).f0).length c30_0,.slice A30_1 ((rd_T49 l0 x6_1).f1).length c30_1],.int .i64 a1] ?_;(with_reducible refine (ancepsref38_Holds.calls k1 _ _ ((rd_T49 l0 x6_1).f0) _ _ ((rd_T49 l0 x6_1).f1) a1 t48 _ (zD HR30_0 HB) HC30_0.out (zD HR30_1 HB) HC30_1.out A19.out).mono ?_);rintro e w21 ⟨rfl,hb⟩;refine ⟨_,rfl,?_⟩;replace HB:=zu hb;clear hb))
        (try simp only [Act.put,zi,zs,zt]);have H:=HC20.out;clear HC20
        by_cases c22:t48=true
        ·subst c22
         have H1:(ancepsref40_Holds.l0 k1 l0 a1 (wrap64 (x6_1+1)))=some r:=by rw [if_pos rfl] at H;exact H
         clear H;have H:=H1;clear H1;have H':=zA H;clear H
         go_wp2
         go_roundg k1
         case measure=>have:=HK1.out;omega
         case rel=>exact ⟨(wrap64 (x6_1+1)),zT,H',⟨by have:=HK1.out;omega⟩,⟨zv0 HB⟩⟩
        ·replace c22:=Bool.eq_false_iff.mpr c22;subst c22
         have H1:(some false)=some r:=by rw [if_neg (show ¬ (false=true) by decide)] at H;exact H
         clear H;have H:=H1;clear H1;obtain rfl:=Option.some.inj H
         go_wp2
         go_ret
         exact ⟨ze,zv0 HB⟩
       ·obtain rfl:=Option.some.inj H
        go_wp2
        go_ret
        exact ⟨ze,zv0 HB⟩
    ·(first|rw [c16b0]|(simp only [i64_w,i32_w];rw [c16b0])|skip)
     (try rw [c16b1]);obtain rfl:=Option.some.inj H
     go_wp2
     go_ret
     exact ⟨ze,zv0 HB⟩
 ·obtain rfl:=Option.some.inj H
  go_enter Tryz.func41,Tryz.ntmps41
  go_wp2_with (first|((with_reducible refine gate_callee (f:=64) rfl ?_);refine zgo 8 Tryz.func64 #[.slice A0 l0.length c0] ?_;(with_reducible refine (ancepsref40_Valid.calls k _ _ l0 t44 _ ?side1 HC0.out A3.out).mono ?_);(case side1=>repeat (first|exact HR0.out|(with_reducible refine Kd.C_alloc ?_ _)|(with_reducible refine Kd.C_drewN ?_ _)|(with_reducible refine Kd.C_drew ?_)));rintro e w23 ⟨rfl,hb⟩;refine ⟨_,rfl,?_⟩;replace HB:=zu hb;clear hb))
  go_ret
  exact ⟨ze,zv0 HB⟩
end Go.Proofs.YtkjghablbeaioaaGreat.B
