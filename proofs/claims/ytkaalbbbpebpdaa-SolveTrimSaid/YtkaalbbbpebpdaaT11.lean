import Derived.Test.YtkaalbbbpebpdaaT0
import Derived.Test.YtkaalbbbpebpdaaT9
import Derived.Test.YtkaalbbbpebpdaaT10
namespace Go.Proofs.Ytkaalbbbpebpdaa.T
open Go.RowKit Go.Proofs.YtkaalbbbpebpdaaW.PrintWords Go.Proofs.YtkaalbbbpebpdaaW.PrintLast Go.Proofs.YtkaalbbbpebpdaaW.PrintMore
attribute [local go_sem] max2_int min2_int max_two min_two max_three min_three max_four min_four Try.underlying23 Try.underlying25 Try.underlying3 Try.underlying35 Try.underlying4 Try.underlying53 Try.underlying55
set_option linter.unusedVariables false
set_option linter.unusedSimpArgs false
def ancepsref40_Check.l0:Nat→List Bool→Int→Option (Bool)
 | 0,_,_=>none
 | k+1,x5,x6=>if x6<(x5.length:Int) then (if 0≤x6 then (if rdOf false x5 x6=true then (ancepsref40_Check.l0 k x5 (wrap64 (x6+1))) else (some false)) else (none)) else (some true)
def ancepsref40_Check.f (k:Nat) (l0:List (S35)) (l1_0:List (S55)):Option (Bool):=(ancepsref40_Valid.f k l0).bind fun t52=>(if t52=0 then (if (l1_0.length:Int)=0 then (some false) else (if (l1_0.length:Int)>2000 then (some false) else (if 0≤(l1_0.length:Int) then (if ((l1_0.length:Int):Int).toNat≤281474976710656 then ((ancepsref40_below.f k l0 l1_0 0 0 0 (List.replicate ((l1_0.length:Int):Int).toNat false)).bind fun bt50=>(if bt50.1=true then (ancepsref40_Check.l0 k bt50.2 0) else (some false))) else (none)) else (none)))) else (some false))
set_option maxHeartbeats 8000000 in
set_option maxRecDepth 100000 in
theorem ancepsref40_Check.calls (k:Nat) (A0:Option Addr) (c0:Nat) (l0:List (S35)) (A1_0:Option Addr) (c1_0:Nat) (l1_0:List (S55)) (r:Bool) (w:World) (hr0:Kd.C k35 w A0 l0.length l0) (hc0:l0.length≤c0) (hr1_0:Kd.C k55 w A1_0 l1_0.length l1_0) (hc1_0:l1_0.length≤c1_0) (h:ancepsref40_Check.f k l0 l1_0=some r) :
  Calls Try.prog 19 #[.slice A0 l0.length c0,.agg #[.slice A1_0 l1_0.length c1_0]] w fun e w'=>e=.returned (.bool r)∧Below w.heap.size w w':=by
 have HR0:=zA hr0;have HC0:=zA hc0;clear hr0 hc0;have HR1_0:=zA hr1_0;have HC1_0:=zA hc1_0;clear hr1_0 hc1_0;have HB:=zA (Below.refl w.heap.size w);have H:((ancepsref40_Valid.f k l0).bind fun t52=>(if t52=0 then (if (l1_0.length:Int)=0 then (some false) else (if (l1_0.length:Int)>2000 then (some false) else (if 0≤(l1_0.length:Int) then (if ((l1_0.length:Int):Int).toNat≤281474976710656 then ((ancepsref40_below.f k l0 l1_0 0 0 0 (List.replicate ((l1_0.length:Int):Int).toNat false)).bind fun bt50=>(if bt50.1=true then (ancepsref40_Check.l0 k bt50.2 0) else (some false))) else (none)) else (none)))) else (some false)))=some r:=h;clear h;have HC3:=zA H;clear H
 go_enter Try.func19,Try.ntmps19
 go_upto_region 1 with (first|((with_reducible refine gd 3 rfl ?_);(try (refine gate_guard (by rfl) ?_;dsimp only));refine zx #[.slice A1_0 l1_0.length c1_0] 25 ?_;intro gb39 hg w4 BK39 hb GW39 HB1;have GE39:=GW39;clear HB hb hg;have HB:=HB1;clear HB1))
 (try simp only [Act.put,zi,zs,zt]);have H:=HC3.out;clear HC3;obtain ⟨t52,A5,H⟩:=zo H
 rcases ife H with ⟨c6b0,c6b1,H⟩|⟨c6,c6b0,c6b1,H⟩
 ·(first|rw [c6b0]|(simp only [i64_w,i32_w];rw [c6b0])|skip)
  (try rw [c6b1])
  rcases ife H with ⟨c7b0,c7b1,H⟩|⟨c7,c7b0,c7b1,H⟩
  ·obtain rfl:=Option.some.inj H
   go_wp2_with (first|((with_reducible refine gate_callee (f:=18) rfl ?_);refine zgo 8 Try.func18 #[.slice A0 l0.length c0] ?_;(with_reducible refine (ancepsref40_Valid.calls k _ _ l0 t52 _ (zD HR0 HB) HC0.out A5.out).mono ?_);rintro e w8 ⟨rfl,hb⟩;refine ⟨_,rfl,?_⟩;replace BK39:=zw BK39 hb;replace HB:=zu hb;clear hb;have hcz9_0:=zc0 BK39;have hfz9_0:=zf BK39 0))
   go_ret
   exact ⟨ze,zv1 HB GE39⟩
  ·have c7b2:¬ (l1_0=[]):=fun h_=>c7 (by rw [h_];rfl)
   have HC10:=zA H;clear H
   go_upto_if 21 with (first|((with_reducible refine gate_callee (f:=18) rfl ?_);refine zgo 8 Try.func18 #[.slice A0 l0.length c0] ?_;(with_reducible refine (ancepsref40_Valid.calls k _ _ l0 t52 _ (zD HR0 HB) HC0.out A5.out).mono ?_);rintro e w11 ⟨rfl,hb⟩;refine ⟨_,rfl,?_⟩;replace BK39:=zw BK39 hb;replace HB:=zu hb;clear hb;have hcz12_0:=zc0 BK39;have hfz12_0:=zf BK39 0))
   (try simp only [Act.put,zi,zs,zt]);have H:=HC10.out;clear HC10
   rcases if0 H with ⟨c13,H⟩|⟨c13,H⟩
   ·have c13b0:decide (2000<(l1_0.length:Int))=true:=decide_eq_true c13;have c13b1:decide (2000<l1_0.length)=true:=decide_eq_true (by omega);clear c13
    (first|rw [c13b0]|(simp only [i64_w,i32_w];rw [c13b0])|skip)
    (try rw [c13b1]);obtain rfl:=Option.some.inj H
    go_wp2
    go_ret
    exact ⟨ze,zv1 HB GE39⟩
   ·have c13b0:decide (2000<(l1_0.length:Int))=false:=decide_eq_false c13;have c13b1:decide (2000<l1_0.length)=false:=decide_eq_false (by omega);clear c13
    (first|rw [c13b0]|(simp only [i64_w,i32_w];rw [c13b0])|skip)
    (try rw [c13b1]);obtain ⟨c14,H⟩:=if1 H;have c14b0:=eq_true c14;have c14b1:decide (0≤(l1_0.length:Int))=true:=decide_eq_true c14;clear c14;obtain ⟨c15,H⟩:=if1 H;have c15b0:=eq_true c15;have c15b1:decide (((l1_0.length:Int):Int).toNat≤281474976710656)=true:=decide_eq_true c15;clear c15
    first|(replace H:=zyb (List.replicate ((l1_0.length:Int):Int).toNat false) H;obtain ⟨y45,Ny45,H⟩:=H)|(obtain ⟨y45,hy45⟩:=zY (List.replicate ((l1_0.length:Int):Int).toNat false);(try rw (occs:=.pos [1]) [← hy45] at H);have Ny45:=zA hy45;clear hy45)
    obtain ⟨t50,t54,A16,H⟩:=zO H
    dsimp only at H
    have HC17:=zA H;clear H;have hcz18_0:=zc0 BK39;have hfz18_0:=zf BK39 0
    go_upto_if 32 with (first|((with_reducible refine gate_dst (N:=25) rfl ?_);(try (refine gate_guard (by rfl) ?_;dsimp only));refine Kd.R_make Kd.bool _ 4 rfl (N:=25) rfl 67 _ _ rfl (l1_0.length:Int) rfl rfl Try.underlying67 (.bool false) 1 info4 rfl (by decide) (by omega) false (ok:=fun _=>True) (okp:=fun _=>True) rfl (fun _ hk=>hk) trivial (of_decide_eq_true zh) (Nat.le_trans (Nat.mul_le_mul_right _ (of_decide_eq_true zh:(l1_0.length:Int).toNat≤281474976710656)) (by omega)) (Below.refl _ _) (Nat.le_refl _) ?_;intro v63 w19 ho20 hb hg_ hnew_;clear hg_ hnew_;(first|rw [← Ny45.out] at ho20|(simp only [Int.reduceToNat] at ho20;rw [← Ny45.out] at ho20));have HO51:=zA (Kd.R_lower ho20 (below_size zB));replace BK39:=zw BK39 hb;replace HB:=zu hb;clear hb ho20;have hcz21_0:=zc0 BK39;have hfz21_0:=zf BK39 0;obtain ⟨Ao22,co22,eo22⟩:=Kd.R_slice HO51.out;subst eo22)|((with_reducible refine gate_callee (f:=30) rfl ?_);refine zgo 31 Try.func30 #[.slice A0 l0.length c0,.slice A1_0 l1_0.length c1_0,.int .i64 0,.agg #[.int .i64 0,.int .i64 0],.slice Ao22 y45.length co22] ?_;(with_reducible refine (ancepsref40_below.calls k _ _ l0 _ _ l1_0 0 0 0 (fun k_=>some k_=(.slice Ao22 y45.length co22:Value).ownBlock) (.slice Ao22 y45.length co22) y45 t50 t54 w _ ?side1 ?side2 HC0.out ?side4 HC1_0.out ?side6 A16.out).mono ?_);(case side1=>repeat (first|(with_reducible first|exact HB.out|apply below_alloc|apply pw_below_drewN|apply below_drew1|refine below_set ?_ GE39.out)|exact HB.out));(case side2=>exact Kd.C_kept_came k35_heap HR0.out zB (fun k_ hs_=>(fun e_=>Kd.R_base HO51.out k_ e_.symm) hs_));(case side4=>exact Kd.C_kept_came k55_heap HR1_0.out zB (fun k_ hs_=>(fun e_=>Kd.R_base HO51.out k_ e_.symm) hs_));(case side6=>exact Kd.R_tight rfl HO51.out);rintro e w23 ⟨rfl,hy0,hb,hkp⟩;refine ⟨_,rfl,?_⟩;replace BK39:=zA (blk_kept (zk BK39) hkp (fun hs_=>(fun e_=>(Kd.R_ne HO51.out BK39.out (by decide)) e_) hs_));replace HO51:=zA (Kd.R_reok rfl hy0 (fun k_ e_=>HO51.out.1 k_ e_));replace HB:=zA (hb);(try clear hb);(try clear hkp);(try clear hy0)))
    (try simp only [Act.put,zi,zs,zt]);have H:=HC17.out;clear HC17
    by_cases c24:t50=true
    ·subst c24
     have H1:(ancepsref40_Check.l0 k t54 0)=some r:=by rw [if_pos rfl] at H;exact H
     clear H;have H:=H1;clear H1;have H':=zA H;clear H
     go_wp2
     go_loopg [6] k (fun kq v6 w'=>∃ (x6_1:Int),v6=.int .i64 x6_1∧Aside0 (ancepsref40_Check.l0 kq t54 x6_1=some r)∧Aside0 (kq≤k)∧Aside0 (Kd.R Kd.bool 4 w' w.heap.size (fun _=>True) (.slice Ao22 y45.length co22) t54)∧Aside0 (w'.heap[gb39]?=some (.cells #[(.slice A1_0 l1_0.length c1_0)] 25 (0,0)))∧Aside0 (Below w.heap.size w w'))
     case atStart=>exact ⟨(0),zT,H',⟨Nat.le_refl _⟩,⟨by refine zr ?_;exact HO51.out⟩,⟨by refine zj ?_;exact BK39.out⟩,⟨zv1 HB GE39⟩⟩
     case round=>
      clear H'
      try clear c6
      try clear c6b0
      try clear c6b1
      try clear c7
      try clear c7b0
      try clear c7b1
      try clear c7b2
      try clear c13
      try clear c13b0
      try clear c13b1
      try clear c14
      try clear c14b0
      try clear c14b1
      try clear c15
      try clear c15b0
      try clear c15b1
      try clear c24
      try clear hcz12_0
      try clear hcz18_0
      try clear hcz21_0
      try clear hfz12_0
      try clear hfz18_0
      try clear hfz21_0
      obtain ⟨x6_1,rfl,HA,HK1,HO_5,BK39,HB⟩:=hrel;have hl5_1:=(Kd.R_reads' HO_5.out).1;rw [hl5_1] at HO_5;(try simp only [hl5_1]);(try simp only [hl5_1] at BK39)
      cases gk with
      | zero=>exact absurd HA.out (by simp [ancepsref40_Check.l0])
      | succ k1=>
       have H:=HA.out;clear HA;simp only [ancepsref40_Check.l0] at H
       rcases ifd H with ⟨c25b0,H⟩|⟨c25b0,H⟩
       ·(first|rw [c25b0]|(simp only [i64_w,i32_w];rw [c25b0])|skip)
        obtain ⟨c26b0,H⟩:=ifd1 H
        obtain ⟨bq27,hbq27⟩:∃ b_:Bool,b_=(rdOf false t54 x6_1):=⟨_,rfl⟩
        replace H:(if bq27=true then (ancepsref40_Check.l0 k1 t54 (wrap64 (x6_1+1))) else (some false))=some r:=by rw [← hbq27] at H;exact H
        have Nbq27:=zA hbq27;clear hbq27
        by_cases c28:bq27=true
        ·subst c28
         have H1:(ancepsref40_Check.l0 k1 t54 (wrap64 (x6_1+1)))=some r:=by rw [if_pos rfl] at H;exact H
         clear H;have H:=H1;clear H1;have H':=zA H;clear H;obtain ⟨p42,q42,ad42,e42,hx42_0⟩:=zp (Kd.at_bool (Kd.R_reads' HO_5.out).2.2 x6_1);(try rw [← Nbq27.out] at hx42_0)
         cases e42
         replace p42:=eq_true p42;replace q42:=eq_true q42
         go_wp2
         (try simp only [← hl5_1])
         go_roundg k1
         case measure=>have:=HK1.out;omega
         case rel=>exact ⟨(wrap64 (x6_1+1)),zT,H',⟨by have:=HK1.out;omega⟩,⟨by (try simp only [hl5_1]);refine zr ?_;exact HO_5.out⟩,⟨by (try simp only [hl5_1]);refine zj ?_;exact BK39.out⟩,⟨zv1 HB GE39⟩⟩
        ·replace c28:=Bool.eq_false_iff.mpr c28;subst c28
         have H1:(some false)=some r:=by rw [if_neg (show ¬ (false=true) by decide)] at H;exact H
         clear H;have H:=H1;clear H1;obtain rfl:=Option.some.inj H;obtain ⟨p42,q42,ad42,e42,hx42_0⟩:=zp (Kd.at_bool (Kd.R_reads' HO_5.out).2.2 x6_1);(try rw [← Nbq27.out] at hx42_0)
         cases e42
         replace p42:=eq_true p42;replace q42:=eq_true q42
         go_wp2
         go_ret
         exact ⟨ze,zv1 HB GE39⟩
       ·(first|rw [c25b0]|(simp only [i64_w,i32_w];rw [c25b0])|skip)
        obtain rfl:=Option.some.inj H
        go_wp2
        go_ret
        exact ⟨ze,zv1 HB GE39⟩
    ·replace c24:=Bool.eq_false_iff.mpr c24;subst c24
     have H1:(some false)=some r:=by rw [if_neg (show ¬ (false=true) by decide)] at H;exact H
     clear H;have H:=H1;clear H1;obtain rfl:=Option.some.inj H
     go_wp2
     go_ret
     exact ⟨ze,zv1 HB GE39⟩
 ·(first|rw [c6b0]|(simp only [i64_w,i32_w];rw [c6b0])|skip)
  (try rw [c6b1]);obtain rfl:=Option.some.inj H
  go_wp2_with (first|((with_reducible refine gate_callee (f:=18) rfl ?_);refine zgo 8 Try.func18 #[.slice A0 l0.length c0] ?_;(with_reducible refine (ancepsref40_Valid.calls k _ _ l0 t52 _ (zD HR0 HB) HC0.out A5.out).mono ?_);rintro e w29 ⟨rfl,hb⟩;refine ⟨_,rfl,?_⟩;replace BK39:=zw BK39 hb;replace HB:=zu hb;clear hb))
  go_ret
  exact ⟨ze,zv1 HB GE39⟩
def ancepsref40_without.f:Nat→List (S35)→List (S55)→Int→Int→Int→Option (Bool)
 | 0,_,_,_,_,_=>none
 | k+1,l0,l1,a2,a3_0,a3_1=>if 0≤a2 then (if a2<(l1.length:Int) then (if ((rd_T55 l1 a2).f0)<0 then (if 0≤((rd_T55 l1 a2).f3) then (if ((rd_T55 l1 a2).f3)<(l0.length:Int) then ((ancepsref40_fails.f k ((rd_T35 l0 ((rd_T55 l1 a2).f3)).f0) ((rd_T35 l0 ((rd_T55 l1 a2).f3)).f1) a3_0 a3_1).bind fun t58=>(some t58)) else (none)) else (none)) else ((ancepsref40_choices_with.f a3_0 a3_1 ((rd_T55 l1 a2).f0) 0).bind fun bt46=>((ancepsref40_without.f k l0 l1 ((rd_T55 l1 a2).f1) bt46.1 bt46.2).bind fun t59=>(if t59=true then ((ancepsref40_choices_with.f a3_0 a3_1 ((rd_T55 l1 a2).f0) 1).bind fun bt47=>((ancepsref40_without.f k l0 l1 ((rd_T55 l1 a2).f2) bt47.1 bt47.2).bind fun t56=>(some t56))) else (some false))))) else (none)) else (none)
def ancepsref40_without.T3:Bool×List (List Nat×List Nat):=(true,[([],[]),([],[]),([1],[1]),([0,2],[0,2]),([3],[3]),([],[]),([4,5],[4,5]),([6,6,0,1,2,3,4,5,6],[6])])
def ancepsref40_without.B3:List Nat:=[0,0,2,7,15,0,63,127]
theorem ancepsref40_without.tab3:rtab .any (opsOf Try.f32 3)=ancepsref40_without.T3:=by kernel_rfl
theorem ancepsref40_without.bits3:waitsOk ancepsref40_without.T3.2 ancepsref40_without.B3=true:=by kernel_rfl
def ancepsref40_without.T4:Bool×List (List Nat×List Nat):=(true,[([],[]),([],[]),([],[]),([2],[2]),([],[]),([],[]),([5],[5]),([4,6],[4,6]),([0,1,3,7,7],[0,1,3,7]),([8,8],[8]),([9],[9]),([9],[9]),([9],[9]),([12,9],[9,12]),([9],[9]),([9],[9]),([15,9],[9,15]),([14,16,9,9],[9,14,16]),([10,11,13,17,17,9],[9,10,11,13,17]),([9,18],[9,18]),([19,18,0,1,2,3,4,5,6,7,8,9,10,11,12,13,14,15,16,17,18,19],[19])])
def ancepsref40_without.B4:List Nat:=[0,0,0,4,0,0,32,112,255,511,1023,1023,1023,5119,1023,1023,33791,115711,262143,524287,1048575]
theorem ancepsref40_without.tab4:rtab .any (opsOf Try.f32 4)=ancepsref40_without.T4:=by kernel_rfl
theorem ancepsref40_without.bits4:waitsOk ancepsref40_without.T4.2 ancepsref40_without.B4=true:=by kernel_rfl
set_option maxHeartbeats 8000000 in
set_option maxRecDepth 100000 in
theorem ancepsref40_without.calls (k:Nat):∀ (A0:Option Addr) (c0:Nat) (l0:List (S35)) (A1:Option Addr) (c1:Nat) (l1:List (S55)) (a2:Int) (a3_0:Int) (a3_1:Int) (r:Bool) (w:World) (hr0:Kd.C k35 w A0 l0.length l0) (hc0:l0.length≤c0) (hr1:Kd.C k55 w A1 l1.length l1) (hc1:l1.length≤c1) (h:ancepsref40_without.f k l0 l1 a2 a3_0 a3_1=some r),
  Calls Try.prog 32 #[.slice A0 l0.length c0,.slice A1 l1.length c1,.int .i64 a2,.agg #[.int .i64 a3_0,.int .i64 a3_1]] w fun e w'=>e=.returned (.bool r)∧Below w.heap.size w w':=by
 induction k using Nat.strongRecOn with
 | _ k ih=>
 intro A0 c0 l0 A1 c1 l1 a2 a3_0 a3_1 r w hr0 hc0 hr1 hc1 h
 cases k with
 | zero=>exact absurd h (by simp [ancepsref40_without.f])
 | succ k=>
 simp only [ancepsref40_without.f] at h;have HR0:=zA hr0;have HC0:=zA hc0;clear hr0 hc0;have HR1:=zA hr1;have HC1:=zA hc1;clear hr1 hc1;have HB:=zA (Below.refl w.heap.size w);have H:(if 0≤a2 then (if a2<(l1.length:Int) then (if ((rd_T55 l1 a2).f0)<0 then (if 0≤((rd_T55 l1 a2).f3) then (if ((rd_T55 l1 a2).f3)<(l0.length:Int) then ((ancepsref40_fails.f k ((rd_T35 l0 ((rd_T55 l1 a2).f3)).f0) ((rd_T35 l0 ((rd_T55 l1 a2).f3)).f1) a3_0 a3_1).bind fun t58=>(some t58)) else (none)) else (none)) else ((ancepsref40_choices_with.f a3_0 a3_1 ((rd_T55 l1 a2).f0) 0).bind fun bt46=>((ancepsref40_without.f k l0 l1 ((rd_T55 l1 a2).f1) bt46.1 bt46.2).bind fun t59=>(if t59=true then ((ancepsref40_choices_with.f a3_0 a3_1 ((rd_T55 l1 a2).f0) 1).bind fun bt47=>((ancepsref40_without.f k l0 l1 ((rd_T55 l1 a2).f2) bt47.1 bt47.2).bind fun t56=>(some t56))) else (some false))))) else (none)) else (none))=some r:=h;clear h;obtain ⟨c5b0,H⟩:=ifd1 H;obtain ⟨c6b0,H⟩:=ifd1 H;have HC7:=zA H;clear H
 go_enter Try.func32,Try.ntmps32
 go_upto_if 16 with (first|((with_reducible refine gd 7 rfl ?_);refine zx #[.int .i64 a3_0,.int .i64 a3_1] 53 ?_;intro gb36 hg w8 BK36 hb GW36 HB1;have GE36:=GW36;clear HB hb hg;have HB:=HB1;clear HB1;obtain ⟨p41,q41,ad41,e41,hx41_0,hx41_1,hx41_2,hx41_3⟩:=zp (at_T55 HR1.out a2);cases e41;replace hx41_0:=zd HB hx41_0;replace hx41_1:=zd HB hx41_1;replace hx41_2:=zd HB hx41_2;replace hx41_3:=zd HB hx41_3;replace p41:=eq_true p41;replace q41:=eq_true q41)|((with_reducible refine gd 9 rfl ?_);refine zx #[.int .i64 0,.int .i64 0,.int .i64 0,.int .i64 0] 55 ?_;intro gb34 hg w9 BK34 hb GW34 HB1;have GE34:=GW34;have NB36_34:=zL hg BK36;have NB34_36:=zLs NB36_34;replace BK36:=zw BK36 hb;clear HB hb hg;have HB:=HB1;clear HB1;have hnb10:=NB34_36.out;have hnc10:=NB36_34.out;have hcz11_0:=zc0 BK34;have hcz11_1:=zc1 BK34;have hcz11_2:=zc2 BK34;have hcz11_3:=zc3 BK34;have hfz11_0:=zf BK34))
 (try simp only [Act.put,zi,zs,zt]);have H:=HC7.out;clear HC7
 rcases ifd H with ⟨c12b0,H⟩|⟨c12b0,H⟩
 ·(first|rw [c12b0]|(simp only [i64_w,i32_w];rw [c12b0])|skip)
  obtain ⟨c13b0,H⟩:=ifd1 H;obtain ⟨c14b0,H⟩:=ifd1 H;obtain ⟨t58,A15,H⟩:=zo H;obtain rfl:=Option.some.inj H
  try go_wp2
  have n0_:Aside0 (((((w9.setCell ⟨gb34,0,none⟩ (.int .i64 ((rd_T55 l1 a2).f0))).setCell ⟨gb34,1,none⟩ (.int .i64 ((rd_T55 l1 a2).f1))).setCell ⟨gb34,2,none⟩ (.int .i64 ((rd_T55 l1 a2).f2))).setCell ⟨gb34,3,none⟩ (.int .i64 ((rd_T55 l1 a2).f3))).heap[gb36]?=some (.cells #[.int .i64 a3_0,.int .i64 a3_1] 53 (0,0))):=⟨by refine zj ?_;refine blk_far ?_ NB36_34.out _;refine zj ?_;refine blk_far ?_ NB36_34.out _;refine zj ?_;refine blk_far ?_ NB36_34.out _;refine zj ?_;refine blk_far ?_ NB36_34.out _;refine zj ?_;exact BK36.out⟩
  have n1_:Aside0 (((((w9.setCell ⟨gb34,0,none⟩ (.int .i64 ((rd_T55 l1 a2).f0))).setCell ⟨gb34,1,none⟩ (.int .i64 ((rd_T55 l1 a2).f1))).setCell ⟨gb34,2,none⟩ (.int .i64 ((rd_T55 l1 a2).f2))).setCell ⟨gb34,3,none⟩ (.int .i64 ((rd_T55 l1 a2).f3))).heap[gb34]?=some (.cells #[.int .i64 ((rd_T55 l1 a2).f0),.int .i64 ((rd_T55 l1 a2).f1),.int .i64 ((rd_T55 l1 a2).f2),.int .i64 ((rd_T55 l1 a2).f3)] 55 (0,0))):=⟨by refine zj ?_;refine blk_put (cs:=#[.int .i64 ((rd_T55 l1 a2).f0),.int .i64 ((rd_T55 l1 a2).f1),.int .i64 ((rd_T55 l1 a2).f2),.int .i64 0]) ?_ 3 _ rfl;refine zj ?_;refine blk_put (cs:=#[.int .i64 ((rd_T55 l1 a2).f0),.int .i64 ((rd_T55 l1 a2).f1),.int .i64 0,.int .i64 0]) ?_ 2 _ rfl;refine zj ?_;refine blk_put (cs:=#[.int .i64 ((rd_T55 l1 a2).f0),.int .i64 0,.int .i64 0,.int .i64 0]) ?_ 1 _ rfl;refine zj ?_;refine blk_put (cs:=#[.int .i64 0,.int .i64 0,.int .i64 0,.int .i64 0]) ?_ 0 _ rfl;refine zj ?_;exact BK34.out⟩
  have n2_:Aside0 (Below w.heap.size w ((((w9.setCell ⟨gb34,0,none⟩ (.int .i64 ((rd_T55 l1 a2).f0))).setCell ⟨gb34,1,none⟩ (.int .i64 ((rd_T55 l1 a2).f1))).setCell ⟨gb34,2,none⟩ (.int .i64 ((rd_T55 l1 a2).f2))).setCell ⟨gb34,3,none⟩ (.int .i64 ((rd_T55 l1 a2).f3)))):=⟨zv2 HB GE36 GE34⟩
  (try clear BK36);(try clear BK34);(try clear HB)
  generalize ((((w9.setCell ⟨gb34,0,none⟩ (.int .i64 ((rd_T55 l1 a2).f0))).setCell ⟨gb34,1,none⟩ (.int .i64 ((rd_T55 l1 a2).f1))).setCell ⟨gb34,2,none⟩ (.int .i64 ((rd_T55 l1 a2).f2))).setCell ⟨gb34,3,none⟩ (.int .i64 ((rd_T55 l1 a2).f3)))=w16 at n0_ n1_ n2_ ⊢
  have BK36:=n0_;have BK34:=n1_;have HB:=n2_;clear n0_ n1_ n2_;replace BK36:=zA (blk_drew BK36.out);replace BK34:=zA (blk_drew BK34.out);replace HB:=zA (below_drew1 HB.out);obtain ⟨p38,q38,ad38,A38_0,c38_0,A38_1,c38_1,e38,hx38_0,hx38_1,hl38_0,hi38_0,hl38_1,hi38_1⟩:=zp (at_T35 HR0.out ((rd_T55 l1 a2).f3));have hw38_1:=hx38_1;have hw38_0:=hx38_0
  cases e38
  replace hx38_0:=zd HB hx38_0;replace hx38_1:=zd HB hx38_1;have HR38_0:=zA hi38_0;have HC38_0:=zA hl38_0;clear hi38_0 hl38_0;have HR38_1:=zA hi38_1;have HC38_1:=zA hl38_1;clear hi38_1 hl38_1;replace p38:=eq_true p38;replace q38:=eq_true q38;refine start_ (n:=8) (S:=fun w'=>w'.cell? ⟨gb34,0,none⟩=some (.int .i64 ((rd_T55 l1 a2).f0))∧w'.cell? ⟨gb34,1,none⟩=some (.int .i64 ((rd_T55 l1 a2).f1))∧w'.cell? ⟨gb34,2,none⟩=some (.int .i64 ((rd_T55 l1 a2).f2))∧w'.cell? ⟨gb34,3,none⟩=some (.int .i64 ((rd_T55 l1 a2).f3))∧w'.cell? ⟨gb36,0,none⟩=some (.int .i64 a3_0)∧w'.cell? ⟨gb36,1,none⟩=some (.int .i64 a3_1)∧w'.cell? (ad38.add ((((rd_T55 l1 a2).f3)).toNat * 2))=some (.slice A38_0 ((rd_T35 l0 ((rd_T55 l1 a2).f3)).f0).length c38_0)∧w'.cell? ⟨(ad38.add ((((rd_T55 l1 a2).f3)).toNat * 2)).block,(ad38.add ((((rd_T55 l1 a2).f3)).toNat * 2)).off+1,none⟩=some (.slice A38_1 ((rd_T35 l0 ((rd_T55 l1 a2).f3)).f1).length c38_1)) (ds:=[]) (bz 8 0) zK rfl rfl ⟨zc0 BK34,zc1 BK34,zc2 BK34,zc3 BK34,zc0 BK36,zc1 BK36,((HB.out.cell (World.block_lt_of_cell? w _ hw38_0)).trans hw38_0),((HB.out.cell (World.block_lt_of_cell? w _ hw38_1)).trans hw38_1)⟩ (fun hHeld=>?_);refine with_tabW ancepsref40_without.tab3 ancepsref40_without.bits3 (fun HT_ HW_=>?_)
  generalize w16.drew=w17 at BK36 BK34 HB HR38_0 HR38_1 hx38_0 hx38_1 hHeld ⊢
  refine zP 0 17 (bz 8 1) HT_ ?_;refine zP 1 18 (bz 8 3) HT_ ?_;refine zQ 2 19 (bz 8 7) HT_ HW_ hHeld ?_;refine zP 3 20 (bz 8 15) HT_ ?_;refine zQ 4 21 (bz 8 31) HT_ HW_ hHeld ?_;refine zQ 5 22 (bz 8 63) HT_ HW_ hHeld ?_;refine one_ (i:=6) (N:=some 23) (bz 8 127) rfl rfl (one_of HT_.out zK) (by decide) (fun K hK=>?_);refine goes_ Try.func43 zK rfl #[.agg #[.slice A38_0 ((rd_T35 l0 ((rd_T55 l1 a2).f3)).f0).length c38_0,.slice A38_1 ((rd_T35 l0 ((rd_T55 l1 a2).f3)).f1).length c38_1],.agg #[.int .i64 a3_0,.int .i64 a3_1]] (by rfl) rfl rfl zM ?_
  with_reducible refine (ancepsref40_fails.calls k _ _ ((rd_T35 l0 ((rd_T55 l1 a2).f3)).f0) _ _ ((rd_T35 l0 ((rd_T55 l1 a2).f3)).f1) a3_0 a3_1 t58 _ ?side1 ?side2 ?side3 ?side4 A15.out).mono ?_
  (case side1=>exact zC (Kd.C_below HR38_0.out HB.out));(case side2=>exact HC38_0.out);(case side3=>exact zC (Kd.C_below HR38_1.out HB.out));(case side4=>exact HC38_1.out);rintro e w18 ⟨rfl,hb⟩;refine ⟨_,rfl,?_⟩;replace BK36:=zw BK36 hb;replace BK34:=zw BK34 hb;replace HB:=zu hb;(try clear hb);(try clear hb2);(try clear hk);(try clear hi);refine hK.out _ _ ⟨zc0 BK34,zc1 BK34,zc2 BK34,zc3 BK34,zc0 BK36,zc1 BK36,((HB.out.cell (World.block_lt_of_cell? w _ hw38_0)).trans hw38_0),((HB.out.cell (World.block_lt_of_cell? w _ hw38_1)).trans hw38_1)⟩ (fun hHeld=>?_);clear hK K;refine norm_ (a':=?_) ?_ ?_;rotate_left
  ·show Act.put _ (some 23) _=_
   simp only [Act.put,zi,zs,zt,i64_w,i32_w];rfl
  refine zP 7 8 (bz 8 255) HT_ ?_;refine done_ (done_of HT_.out zK) ?_
  try go_wp2
  go_ret
  exact ⟨ze,zv2 HB GE36 GE34⟩
 ·(first|rw [c12b0]|(simp only [i64_w,i32_w];rw [c12b0])|skip)
  obtain ⟨t46,t57,A19,H⟩:=zO H
  dsimp only at H
  obtain ⟨t59,A20,H⟩:=zo H
  by_cases c21:t59=true
  ·subst c21
   have H1:((ancepsref40_choices_with.f a3_0 a3_1 ((rd_T55 l1 a2).f0) 1).bind fun bt47=>((ancepsref40_without.f k l0 l1 ((rd_T55 l1 a2).f2) bt47.1 bt47.2).bind fun t56=>(some t56)))=some r:=by rw [if_pos rfl] at H;exact H
   clear H;have H:=H1;clear H1;obtain ⟨t47,t60,A22,H⟩:=zO H
   dsimp only at H
   obtain ⟨t56,A23,H⟩:=zo H;obtain rfl:=Option.some.inj H
   try go_wp2
   have n0_:Aside0 (((((w9.setCell ⟨gb34,0,none⟩ (.int .i64 ((rd_T55 l1 a2).f0))).setCell ⟨gb34,1,none⟩ (.int .i64 ((rd_T55 l1 a2).f1))).setCell ⟨gb34,2,none⟩ (.int .i64 ((rd_T55 l1 a2).f2))).setCell ⟨gb34,3,none⟩ (.int .i64 ((rd_T55 l1 a2).f3))).heap[gb36]?=some (.cells #[.int .i64 a3_0,.int .i64 a3_1] 53 (0,0))):=⟨by refine zj ?_;refine blk_far ?_ NB36_34.out _;refine zj ?_;refine blk_far ?_ NB36_34.out _;refine zj ?_;refine blk_far ?_ NB36_34.out _;refine zj ?_;refine blk_far ?_ NB36_34.out _;refine zj ?_;exact BK36.out⟩
   have n1_:Aside0 (((((w9.setCell ⟨gb34,0,none⟩ (.int .i64 ((rd_T55 l1 a2).f0))).setCell ⟨gb34,1,none⟩ (.int .i64 ((rd_T55 l1 a2).f1))).setCell ⟨gb34,2,none⟩ (.int .i64 ((rd_T55 l1 a2).f2))).setCell ⟨gb34,3,none⟩ (.int .i64 ((rd_T55 l1 a2).f3))).heap[gb34]?=some (.cells #[.int .i64 ((rd_T55 l1 a2).f0),.int .i64 ((rd_T55 l1 a2).f1),.int .i64 ((rd_T55 l1 a2).f2),.int .i64 ((rd_T55 l1 a2).f3)] 55 (0,0))):=⟨by refine zj ?_;refine blk_put (cs:=#[.int .i64 ((rd_T55 l1 a2).f0),.int .i64 ((rd_T55 l1 a2).f1),.int .i64 ((rd_T55 l1 a2).f2),.int .i64 0]) ?_ 3 _ rfl;refine zj ?_;refine blk_put (cs:=#[.int .i64 ((rd_T55 l1 a2).f0),.int .i64 ((rd_T55 l1 a2).f1),.int .i64 0,.int .i64 0]) ?_ 2 _ rfl;refine zj ?_;refine blk_put (cs:=#[.int .i64 ((rd_T55 l1 a2).f0),.int .i64 0,.int .i64 0,.int .i64 0]) ?_ 1 _ rfl;refine zj ?_;refine blk_put (cs:=#[.int .i64 0,.int .i64 0,.int .i64 0,.int .i64 0]) ?_ 0 _ rfl;refine zj ?_;exact BK34.out⟩
   have n2_:Aside0 (Below w.heap.size w ((((w9.setCell ⟨gb34,0,none⟩ (.int .i64 ((rd_T55 l1 a2).f0))).setCell ⟨gb34,1,none⟩ (.int .i64 ((rd_T55 l1 a2).f1))).setCell ⟨gb34,2,none⟩ (.int .i64 ((rd_T55 l1 a2).f2))).setCell ⟨gb34,3,none⟩ (.int .i64 ((rd_T55 l1 a2).f3)))):=⟨zv2 HB GE36 GE34⟩
   (try clear BK36);(try clear BK34);(try clear HB)
   generalize ((((w9.setCell ⟨gb34,0,none⟩ (.int .i64 ((rd_T55 l1 a2).f0))).setCell ⟨gb34,1,none⟩ (.int .i64 ((rd_T55 l1 a2).f1))).setCell ⟨gb34,2,none⟩ (.int .i64 ((rd_T55 l1 a2).f2))).setCell ⟨gb34,3,none⟩ (.int .i64 ((rd_T55 l1 a2).f3)))=w24 at n0_ n1_ n2_ ⊢
   have BK36:=n0_;have BK34:=n1_;have HB:=n2_;clear n0_ n1_ n2_;replace BK36:=zA (blk_drew BK36.out);replace BK34:=zA (blk_drew BK34.out);replace HB:=zA (below_drew1 HB.out);refine start_ (n:=21) (S:=fun w'=>w'.cell? ⟨gb34,0,none⟩=some (.int .i64 ((rd_T55 l1 a2).f0))∧w'.cell? ⟨gb34,1,none⟩=some (.int .i64 ((rd_T55 l1 a2).f1))∧w'.cell? ⟨gb34,2,none⟩=some (.int .i64 ((rd_T55 l1 a2).f2))∧w'.cell? ⟨gb34,3,none⟩=some (.int .i64 ((rd_T55 l1 a2).f3))∧w'.cell? ⟨gb36,0,none⟩=some (.int .i64 a3_0)∧w'.cell? ⟨gb36,1,none⟩=some (.int .i64 a3_1)) (ds:=[]) (bz 21 0) zK rfl rfl ⟨zc0 BK34,zc1 BK34,zc2 BK34,zc3 BK34,zc0 BK36,zc1 BK36⟩ (fun hHeld=>?_);refine with_tabW ancepsref40_without.tab4 ancepsref40_without.bits4 (fun HT_ HW_=>?_)
   generalize w24.drew=w25 at BK36 BK34 HB hHeld ⊢
   refine zP 0 24 (bz 21 1) HT_ ?_;refine zP 1 25 (bz 21 3) HT_ ?_;refine zP 2 26 (bz 21 7) HT_ ?_;refine zP 5 29 (bz 21 39) HT_ ?_;refine zQ 3 27 (bz 21 47) HT_ HW_ hHeld ?_;refine zQ 4 28 (bz 21 63) HT_ HW_ hHeld ?_;refine zQ 6 30 (bz 21 127) HT_ HW_ hHeld ?_;refine one_ (i:=7) (N:=some 31) (bz 21 255) rfl rfl (one_of HT_.out zK) (by decide) (fun K hK=>?_);refine goes_ Try.func31 zK rfl #[.agg #[.int .i64 a3_0,.int .i64 a3_1],.int .i64 ((rd_T55 l1 a2).f0),.int .i64 0] (by rfl) rfl rfl zM ?_
   with_reducible refine (ancepsref40_choices_with.calls a3_0 a3_1 ((rd_T55 l1 a2).f0) 0 t46 t57 _ A19.out).mono ?_
   rintro e w26 ⟨rfl,hb⟩;refine ⟨_,rfl,?_⟩;replace BK36:=zw BK36 hb;replace BK34:=zw BK34 hb;replace HB:=zu hb;(try clear hb);(try clear hb2);(try clear hk);(try clear hi);refine hK.out _ _ ⟨zc0 BK34,zc1 BK34,zc2 BK34,zc3 BK34,zc0 BK36,zc1 BK36⟩ (fun hHeld=>?_);clear hK K;refine norm_ (a':=?_) ?_ ?_;rotate_left
   ·show Act.put _ (some 31) _=_
    simp only [Act.put,zi,zs,zt,i64_w,i32_w];rfl
   refine one_ (i:=8) (N:=some 32) (bz 21 511) rfl rfl (one_of HT_.out zK) (by decide) (fun K hK=>?_);refine goes_ Try.func32 zK rfl #[.slice A0 l0.length c0,.slice (some ad41) l1.length c1,.int .i64 ((rd_T55 l1 a2).f1),.agg #[.int .i64 t46,.int .i64 t57]] (by rfl) rfl rfl zM ?_
   with_reducible refine (ih k (by omega) _ _ l0 _ _ l1 ((rd_T55 l1 a2).f1) t46 t57 true _ ?side1 ?side2 ?side3 ?side4 A20.out).mono ?_
   (case side1=>exact zC (Kd.C_below HR0.out HB.out));(case side2=>exact HC0.out);(case side3=>exact zC (Kd.C_below HR1.out HB.out));(case side4=>exact HC1.out);rintro e w27 ⟨rfl,hb⟩;refine ⟨_,rfl,?_⟩;replace BK36:=zw BK36 hb;replace BK34:=zw BK34 hb;replace HB:=zu hb;(try clear hb);(try clear hb2);(try clear hk);(try clear hi);refine hK.out _ _ ⟨zc0 BK34,zc1 BK34,zc2 BK34,zc3 BK34,zc0 BK36,zc1 BK36⟩ (fun hHeld=>?_);clear hK K;refine norm_ (a':=?_) ?_ ?_;rotate_left
   ·show Act.put _ (some 32) _=_
    simp only [Act.put,zi,zs,zt,i64_w,i32_w];rfl
   refine zP 9 33 (bz 21 1023) HT_ ?_;refine zP 10 34 (bz 21 2047) HT_ ?_;refine zP 11 35 (bz 21 4095) HT_ ?_;refine zP 12 36 (bz 21 8191) HT_ ?_;refine zP 15 39 (bz 21 40959) HT_ ?_;refine zQ 13 37 (bz 21 49151) HT_ HW_ hHeld ?_;refine zQ 14 38 (bz 21 65535) HT_ HW_ hHeld ?_;refine zQ 16 40 (bz 21 131071) HT_ HW_ hHeld ?_;refine one_ (i:=17) (N:=some 41) (bz 21 262143) rfl rfl (one_of HT_.out zK) (by decide) (fun K hK=>?_);refine goes_ Try.func31 zK rfl #[.agg #[.int .i64 a3_0,.int .i64 a3_1],.int .i64 ((rd_T55 l1 a2).f0),.int .i64 1] (by rfl) rfl rfl zM ?_
   with_reducible refine (ancepsref40_choices_with.calls a3_0 a3_1 ((rd_T55 l1 a2).f0) 1 t47 t60 _ A22.out).mono ?_
   rintro e w28 ⟨rfl,hb⟩;refine ⟨_,rfl,?_⟩;replace BK36:=zw BK36 hb;replace BK34:=zw BK34 hb;replace HB:=zu hb;(try clear hb);(try clear hb2);(try clear hk);(try clear hi);refine hK.out _ _ ⟨zc0 BK34,zc1 BK34,zc2 BK34,zc3 BK34,zc0 BK36,zc1 BK36⟩ (fun hHeld=>?_);clear hK K;refine norm_ (a':=?_) ?_ ?_;rotate_left
   ·show Act.put _ (some 41) _=_
    simp only [Act.put,zi,zs,zt,i64_w,i32_w];rfl
   refine one_ (i:=18) (N:=some 42) (bz 21 524287) rfl rfl (one_of HT_.out zK) (by decide) (fun K hK=>?_);refine goes_ Try.func32 zK rfl #[.slice A0 l0.length c0,.slice (some ad41) l1.length c1,.int .i64 ((rd_T55 l1 a2).f2),.agg #[.int .i64 t47,.int .i64 t60]] (by rfl) rfl rfl zM ?_
   with_reducible refine (ih k (by omega) _ _ l0 _ _ l1 ((rd_T55 l1 a2).f2) t47 t60 t56 _ ?side1 ?side2 ?side3 ?side4 A23.out).mono ?_
   (case side1=>exact zC (Kd.C_below HR0.out HB.out));(case side2=>exact HC0.out);(case side3=>exact zC (Kd.C_below HR1.out HB.out));(case side4=>exact HC1.out);rintro e w29 ⟨rfl,hb⟩;refine ⟨_,rfl,?_⟩;replace BK36:=zw BK36 hb;replace BK34:=zw BK34 hb;replace HB:=zu hb;(try clear hb);(try clear hb2);(try clear hk);(try clear hi);refine hK.out _ _ ⟨zc0 BK34,zc1 BK34,zc2 BK34,zc3 BK34,zc0 BK36,zc1 BK36⟩ (fun hHeld=>?_);clear hK K;refine norm_ (a':=?_) ?_ ?_;rotate_left
   ·show Act.put _ (some 42) _=_
    simp only [Act.put,zi,zs,zt,i64_w,i32_w];rfl
   refine zP 19 43 (bz 21 1048575) HT_ ?_;refine zP 20 8 (bz 21 2097151) HT_ ?_;refine done_ (done_of HT_.out zK) ?_
   try go_wp2
   go_ret
   exact ⟨ze,zv2 HB GE36 GE34⟩
  ·replace c21:=Bool.eq_false_iff.mpr c21;subst c21
   have H1:(some false)=some r:=by rw [if_neg (show ¬ (false=true) by decide)] at H;exact H
   clear H;have H:=H1;clear H1;obtain rfl:=Option.some.inj H
   try go_wp2
   have n0_:Aside0 (((((w9.setCell ⟨gb34,0,none⟩ (.int .i64 ((rd_T55 l1 a2).f0))).setCell ⟨gb34,1,none⟩ (.int .i64 ((rd_T55 l1 a2).f1))).setCell ⟨gb34,2,none⟩ (.int .i64 ((rd_T55 l1 a2).f2))).setCell ⟨gb34,3,none⟩ (.int .i64 ((rd_T55 l1 a2).f3))).heap[gb36]?=some (.cells #[.int .i64 a3_0,.int .i64 a3_1] 53 (0,0))):=⟨by refine zj ?_;refine blk_far ?_ NB36_34.out _;refine zj ?_;refine blk_far ?_ NB36_34.out _;refine zj ?_;refine blk_far ?_ NB36_34.out _;refine zj ?_;refine blk_far ?_ NB36_34.out _;refine zj ?_;exact BK36.out⟩
   have n1_:Aside0 (((((w9.setCell ⟨gb34,0,none⟩ (.int .i64 ((rd_T55 l1 a2).f0))).setCell ⟨gb34,1,none⟩ (.int .i64 ((rd_T55 l1 a2).f1))).setCell ⟨gb34,2,none⟩ (.int .i64 ((rd_T55 l1 a2).f2))).setCell ⟨gb34,3,none⟩ (.int .i64 ((rd_T55 l1 a2).f3))).heap[gb34]?=some (.cells #[.int .i64 ((rd_T55 l1 a2).f0),.int .i64 ((rd_T55 l1 a2).f1),.int .i64 ((rd_T55 l1 a2).f2),.int .i64 ((rd_T55 l1 a2).f3)] 55 (0,0))):=⟨by refine zj ?_;refine blk_put (cs:=#[.int .i64 ((rd_T55 l1 a2).f0),.int .i64 ((rd_T55 l1 a2).f1),.int .i64 ((rd_T55 l1 a2).f2),.int .i64 0]) ?_ 3 _ rfl;refine zj ?_;refine blk_put (cs:=#[.int .i64 ((rd_T55 l1 a2).f0),.int .i64 ((rd_T55 l1 a2).f1),.int .i64 0,.int .i64 0]) ?_ 2 _ rfl;refine zj ?_;refine blk_put (cs:=#[.int .i64 ((rd_T55 l1 a2).f0),.int .i64 0,.int .i64 0,.int .i64 0]) ?_ 1 _ rfl;refine zj ?_;refine blk_put (cs:=#[.int .i64 0,.int .i64 0,.int .i64 0,.int .i64 0]) ?_ 0 _ rfl;refine zj ?_;exact BK34.out⟩
   have n2_:Aside0 (Below w.heap.size w ((((w9.setCell ⟨gb34,0,none⟩ (.int .i64 ((rd_T55 l1 a2).f0))).setCell ⟨gb34,1,none⟩ (.int .i64 ((rd_T55 l1 a2).f1))).setCell ⟨gb34,2,none⟩ (.int .i64 ((rd_T55 l1 a2).f2))).setCell ⟨gb34,3,none⟩ (.int .i64 ((rd_T55 l1 a2).f3)))):=⟨zv2 HB GE36 GE34⟩
   (try clear BK36);(try clear BK34);(try clear HB)
   generalize ((((w9.setCell ⟨gb34,0,none⟩ (.int .i64 ((rd_T55 l1 a2).f0))).setCell ⟨gb34,1,none⟩ (.int .i64 ((rd_T55 l1 a2).f1))).setCell ⟨gb34,2,none⟩ (.int .i64 ((rd_T55 l1 a2).f2))).setCell ⟨gb34,3,none⟩ (.int .i64 ((rd_T55 l1 a2).f3)))=w30 at n0_ n1_ n2_ ⊢
   have BK36:=n0_;have BK34:=n1_;have HB:=n2_;clear n0_ n1_ n2_;replace BK36:=zA (blk_drew BK36.out);replace BK34:=zA (blk_drew BK34.out);replace HB:=zA (below_drew1 HB.out);refine start_ (n:=21) (S:=fun w'=>w'.cell? ⟨gb34,0,none⟩=some (.int .i64 ((rd_T55 l1 a2).f0))∧w'.cell? ⟨gb34,1,none⟩=some (.int .i64 ((rd_T55 l1 a2).f1))∧w'.cell? ⟨gb34,2,none⟩=some (.int .i64 ((rd_T55 l1 a2).f2))∧w'.cell? ⟨gb34,3,none⟩=some (.int .i64 ((rd_T55 l1 a2).f3))∧w'.cell? ⟨gb36,0,none⟩=some (.int .i64 a3_0)∧w'.cell? ⟨gb36,1,none⟩=some (.int .i64 a3_1)) (ds:=[]) (bz 21 0) zK rfl rfl ⟨zc0 BK34,zc1 BK34,zc2 BK34,zc3 BK34,zc0 BK36,zc1 BK36⟩ (fun hHeld=>?_);refine with_tabW ancepsref40_without.tab4 ancepsref40_without.bits4 (fun HT_ HW_=>?_)
   generalize w30.drew=w31 at BK36 BK34 HB hHeld ⊢
   refine zP 0 24 (bz 21 1) HT_ ?_;refine zP 1 25 (bz 21 3) HT_ ?_;refine zP 2 26 (bz 21 7) HT_ ?_;refine zP 5 29 (bz 21 39) HT_ ?_;refine zQ 3 27 (bz 21 47) HT_ HW_ hHeld ?_;refine zQ 4 28 (bz 21 63) HT_ HW_ hHeld ?_;refine zQ 6 30 (bz 21 127) HT_ HW_ hHeld ?_;refine one_ (i:=7) (N:=some 31) (bz 21 255) rfl rfl (one_of HT_.out zK) (by decide) (fun K hK=>?_);refine goes_ Try.func31 zK rfl #[.agg #[.int .i64 a3_0,.int .i64 a3_1],.int .i64 ((rd_T55 l1 a2).f0),.int .i64 0] (by rfl) rfl rfl zM ?_
   with_reducible refine (ancepsref40_choices_with.calls a3_0 a3_1 ((rd_T55 l1 a2).f0) 0 t46 t57 _ A19.out).mono ?_
   rintro e w32 ⟨rfl,hb⟩;refine ⟨_,rfl,?_⟩;replace BK36:=zw BK36 hb;replace BK34:=zw BK34 hb;replace HB:=zu hb;(try clear hb);(try clear hb2);(try clear hk);(try clear hi);refine hK.out _ _ ⟨zc0 BK34,zc1 BK34,zc2 BK34,zc3 BK34,zc0 BK36,zc1 BK36⟩ (fun hHeld=>?_);clear hK K;refine norm_ (a':=?_) ?_ ?_;rotate_left
   ·show Act.put _ (some 31) _=_
    simp only [Act.put,zi,zs,zt,i64_w,i32_w];rfl
   refine one_ (i:=8) (N:=some 32) (bz 21 511) rfl rfl (one_of HT_.out zK) (by decide) (fun K hK=>?_);refine goes_ Try.func32 zK rfl #[.slice A0 l0.length c0,.slice (some ad41) l1.length c1,.int .i64 ((rd_T55 l1 a2).f1),.agg #[.int .i64 t46,.int .i64 t57]] (by rfl) rfl rfl zM ?_
   with_reducible refine (ih k (by omega) _ _ l0 _ _ l1 ((rd_T55 l1 a2).f1) t46 t57 false _ ?side1 ?side2 ?side3 ?side4 A20.out).mono ?_
   (case side1=>exact zC (Kd.C_below HR0.out HB.out));(case side2=>exact HC0.out);(case side3=>exact zC (Kd.C_below HR1.out HB.out));(case side4=>exact HC1.out);rintro e w33 ⟨rfl,hb⟩;refine ⟨_,rfl,?_⟩;replace BK36:=zw BK36 hb;replace BK34:=zw BK34 hb;replace HB:=zu hb;(try clear hb);(try clear hb2);(try clear hk);(try clear hi);refine hK.out _ _ ⟨zc0 BK34,zc1 BK34,zc2 BK34,zc3 BK34,zc0 BK36,zc1 BK36⟩ (fun hHeld=>?_);clear hK K;refine norm_ (a':=?_) ?_ ?_;rotate_left
   ·show Act.put _ (some 32) _=_
    simp only [Act.put,zi,zs,zt,i64_w,i32_w];rfl
   refine zP 9 33 (bz 21 1023) HT_ ?_;refine zU 10 34 (bz 21 2047) HT_ ?_;refine zU 11 35 (bz 21 4095) HT_ ?_;refine zU 12 36 (bz 21 8191) HT_ ?_;refine zU 13 37 (bz 21 16383) HT_ ?_;refine zU 14 38 (bz 21 32767) HT_ ?_;refine zU 15 39 (bz 21 65535) HT_ ?_;refine zU 16 40 (bz 21 131071) HT_ ?_;refine zU 17 41 (bz 21 262143) HT_ ?_;refine zU 18 42 (bz 21 524287) HT_ ?_;refine zP 19 43 (bz 21 1048575) HT_ ?_;refine zP 20 8 (bz 21 2097151) HT_ ?_;refine done_ (done_of HT_.out zK) ?_
   try go_wp2
   go_ret
   exact ⟨ze,zv2 HB GE36 GE34⟩
def ancepsref40_moved.l0:Nat→List (S55)→Int→List (S55)→Int→Option ((List (S55)))
 | 0,_,_,_,_=>none
 | k+1,x0,x1,x5,x6=>if x6<(x0.length:Int) then (if 0≤x6 then (if ((rd_T55 x0 x6).f0)≥0 then (if x5.length<4398046511104 then (ancepsref40_moved.l0 k x0 x1 (x5++[(⟨(rd_T55 x0 x6).f0,wrap64 (((rd_T55 x0 x6).f1)+x1),wrap64 (((rd_T55 x0 x6).f2)+x1),(rd_T55 x0 x6).f3⟩:S55)]) (wrap64 (x6+1))) else (none)) else (if x5.length<4398046511104 then (ancepsref40_moved.l0 k x0 x1 (x5++[(⟨(rd_T55 x0 x6).f0,(rd_T55 x0 x6).f1,(rd_T55 x0 x6).f2,(rd_T55 x0 x6).f3⟩:S55)]) (wrap64 (x6+1))) else (none))) else (none)) else (some x5)
def ancepsref40_moved.f (k:Nat) (l0:List (S55)) (a1:Int):Option ((List (S55))):=ancepsref40_moved.l0 k l0 a1 ([]:List (S55)) 0
set_option maxHeartbeats 8000000 in
set_option maxRecDepth 100000 in
theorem ancepsref40_moved.calls (k:Nat) (A0:Option Addr) (c0:Nat) (l0:List (S55)) (a1:Int) (r:List (S55)) (w:World) (hr0:Kd.C k55 w A0 l0.length l0) (hc0:l0.length≤c0) (h:ancepsref40_moved.f k l0 a1=some r) :
  Calls Try.prog 33 #[.slice A0 l0.length c0,.int .i64 a1] w fun e w'=>∃ v0_:Value,e=.returned (v0_)∧Kd.R k55 55 w' w.heap.size (fun _=>True) v0_ r∧Below w.heap.size w w':=by
 have HR0:=zA hr0;have HC0:=zA hc0;clear hr0 hc0;have HB:=zA (Below.refl w.heap.size w);have H:(ancepsref40_moved.l0 k l0 a1 ([]:List (S55)) 0)=some r:=h;clear h;have H':=zA H;clear H
 go_enter Try.func33,Try.ntmps33
 go_wp2
 go_loopg [5,6] k (fun kq v5 v6 w'=>∃ (x5_1:List (S55)) (x6_1:Int),v6=.int .i64 x6_1∧Aside0 (ancepsref40_moved.l0 kq l0 a1 x5_1 x6_1=some r)∧Aside0 (kq≤k)∧Aside0 (Kd.R k55 55 w' w.heap.size (fun _=>True) v5 x5_1)∧Aside0 (Below w.heap.size w w'))
 case atStart=>exact ⟨(([]:List (S55))),(0),zT,H',⟨Nat.le_refl _⟩,⟨by first|exact Kd.R_nil _ _ _ _ _|exact Kd.N_nil _ _ _ _ _|exact Kd.V_nil _ _ _ _ _|exact Kd.Q_nil _ _ _ _ _|exact Kd.S_nil _ _ _ _ _⟩,⟨zv0 HB⟩⟩
 case round=>
  clear H';obtain ⟨x5_1,x6_1,rfl,HA,HK1,HO_5,HB⟩:=hrel
  cases gk with
  | zero=>exact absurd HA.out (by simp [ancepsref40_moved.l0])
  | succ k1=>
   have H:=HA.out;clear HA;simp only [ancepsref40_moved.l0] at H
   rcases ifd H with ⟨c3b0,H⟩|⟨c3b0,H⟩
   ·obtain ⟨c4b0,H⟩:=ifd1 H;have HC5:=zA H;clear H;obtain ⟨p44,q44,ad44,e44,hx44_0,hx44_1,hx44_2,hx44_3⟩:=zp (at_T55 HR0.out x6_1)
    cases e44
    replace hx44_0:=zd HB hx44_0;replace hx44_1:=zd HB hx44_1;replace hx44_2:=zd HB hx44_2;replace hx44_3:=zd HB hx44_3;replace p44:=eq_true p44;replace q44:=eq_true q44
    go_upto_if 20 with (first|((with_reducible refine gd 7 rfl ?_);refine zx #[.int .i64 0,.int .i64 0,.int .i64 0,.int .i64 0] 55 ?_;intro gb37 hg w6 BK37 hb GW37 HB1;have GE37:=GW37;replace HO_5:=zA (Kd.R_below (Kd.R_elderB (zR HO_5) gb37 (Nat.le_of_eq hg.symm)) hb);clear HB hb hg;have HB:=HB1;clear HB1;have hcz7_0:=zc0 BK37;have hcz7_1:=zc1 BK37;have hcz7_2:=zc2 BK37;have hcz7_3:=zc3 BK37;have hfz7_0:=zf BK37))
    (try simp only [Act.put,zi,zs,zt]);have H:=HC5.out;clear HC5
    have n0_:Aside0 (Kd.R k55 55 ((((w6.setCell ⟨gb37,0,none⟩ (.int .i64 ((rd_T55 l0 x6_1).f0))).setCell ⟨gb37,1,none⟩ (.int .i64 ((rd_T55 l0 x6_1).f1))).setCell ⟨gb37,2,none⟩ (.int .i64 ((rd_T55 l0 x6_1).f2))).setCell ⟨gb37,3,none⟩ (.int .i64 ((rd_T55 l0 x6_1).f3))) w.heap.size (fun k_=>k_≠gb37) u5 x5_1):=⟨by refine zr ?_;exact Kd.R_mono (Kd.R_far (p:=⟨gb37,3,none⟩) (Kd.R_far (p:=⟨gb37,2,none⟩) (Kd.R_far (p:=⟨gb37,1,none⟩) (Kd.R_far (p:=⟨gb37,0,none⟩) (Kd.R_mono HO_5.out (fun k_ hk=>(⟨hk,hk.2⟩:_∧k_≠gb37))) (fun _ hk=>hk.2) (.int .i64 ((rd_T55 l0 x6_1).f0))) (fun _ hk=>hk.2) (.int .i64 ((rd_T55 l0 x6_1).f1))) (fun _ hk=>hk.2) (.int .i64 ((rd_T55 l0 x6_1).f2))) (fun _ hk=>hk.2) (.int .i64 ((rd_T55 l0 x6_1).f3))) (fun _ hk=>hk.1.2)⟩
    have n1_:Aside0 (((((w6.setCell ⟨gb37,0,none⟩ (.int .i64 ((rd_T55 l0 x6_1).f0))).setCell ⟨gb37,1,none⟩ (.int .i64 ((rd_T55 l0 x6_1).f1))).setCell ⟨gb37,2,none⟩ (.int .i64 ((rd_T55 l0 x6_1).f2))).setCell ⟨gb37,3,none⟩ (.int .i64 ((rd_T55 l0 x6_1).f3))).heap[gb37]?=some (.cells #[.int .i64 ((rd_T55 l0 x6_1).f0),.int .i64 ((rd_T55 l0 x6_1).f1),.int .i64 ((rd_T55 l0 x6_1).f2),.int .i64 ((rd_T55 l0 x6_1).f3)] 55 (0,0))):=⟨by refine zj ?_;refine blk_put (cs:=#[.int .i64 ((rd_T55 l0 x6_1).f0),.int .i64 ((rd_T55 l0 x6_1).f1),.int .i64 ((rd_T55 l0 x6_1).f2),.int .i64 0]) ?_ 3 _ rfl;refine zj ?_;refine blk_put (cs:=#[.int .i64 ((rd_T55 l0 x6_1).f0),.int .i64 ((rd_T55 l0 x6_1).f1),.int .i64 0,.int .i64 0]) ?_ 2 _ rfl;refine zj ?_;refine blk_put (cs:=#[.int .i64 ((rd_T55 l0 x6_1).f0),.int .i64 0,.int .i64 0,.int .i64 0]) ?_ 1 _ rfl;refine zj ?_;refine blk_put (cs:=#[.int .i64 0,.int .i64 0,.int .i64 0,.int .i64 0]) ?_ 0 _ rfl;refine zj ?_;exact BK37.out⟩
    have n2_:Aside0 (Below w.heap.size w ((((w6.setCell ⟨gb37,0,none⟩ (.int .i64 ((rd_T55 l0 x6_1).f0))).setCell ⟨gb37,1,none⟩ (.int .i64 ((rd_T55 l0 x6_1).f1))).setCell ⟨gb37,2,none⟩ (.int .i64 ((rd_T55 l0 x6_1).f2))).setCell ⟨gb37,3,none⟩ (.int .i64 ((rd_T55 l0 x6_1).f3)))):=⟨zv1 HB GE37⟩
    (try clear HO_5);(try clear BK37);(try clear HB)
    generalize ((((w6.setCell ⟨gb37,0,none⟩ (.int .i64 ((rd_T55 l0 x6_1).f0))).setCell ⟨gb37,1,none⟩ (.int .i64 ((rd_T55 l0 x6_1).f1))).setCell ⟨gb37,2,none⟩ (.int .i64 ((rd_T55 l0 x6_1).f2))).setCell ⟨gb37,3,none⟩ (.int .i64 ((rd_T55 l0 x6_1).f3)))=w8 at n0_ n1_ n2_ ⊢
    have HO_5:=n0_;have BK37:=n1_;have HB:=n2_;clear n0_ n1_ n2_
    rcases if0 H with ⟨c9,H⟩|⟨c9,H⟩
    ·have c9b0:decide (0≤((rd_T55 l0 x6_1).f0))=true:=decide_eq_true c9;clear c9
     (first|rw [c9b0]|(simp only [i64_w,i32_w];rw [c9b0])|skip)
     obtain ⟨c10,H⟩:=if1 H;have LMc10:=zA c10;clear c10
     first|(replace H:=zyb (x5_1++[(⟨(rd_T55 l0 x6_1).f0,wrap64 (((rd_T55 l0 x6_1).f1)+a1),wrap64 (((rd_T55 l0 x6_1).f2)+a1),(rd_T55 l0 x6_1).f3⟩:S55)]) H;obtain ⟨y48,Ny48,H⟩:=H)|(obtain ⟨y48,hy48⟩:=zY (x5_1++[(⟨(rd_T55 l0 x6_1).f0,wrap64 (((rd_T55 l0 x6_1).f1)+a1),wrap64 (((rd_T55 l0 x6_1).f2)+a1),(rd_T55 l0 x6_1).f3⟩:S55)]);(try rw (occs:=.pos [1]) [← hy48] at H);have Ny48:=zA hy48;clear hy48)
     have H':=zA H;clear H;have hcz11_0:=zc0 BK37;have hcz11_1:=zc1 BK37;have hcz11_2:=zc2 BK37;have hcz11_3:=zc3 BK37;have hfz11_0:=zf BK37
     go_wp2_with (first|((with_reducible refine gate_builtin (b:=.append) (xs:=#[.tmp 31,.tmp 33]) rfl ?_);at_builtin;refine Kd.R_append k55 (w0:=w) w.heap.size rfl (.tmp 31) (.tmp 33) 23 55 (.agg #[(.int .i64 0),(.int .i64 0),(.int .i64 0),(.int .i64 0)]) 32 rfl Try.underlying23 info55 rfl (by decide) (by omega) u5 x5_1 (⟨(rd_T55 l0 x6_1).f0,wrap64 (((rd_T55 l0 x6_1).f1)+a1),wrap64 (((rd_T55 l0 x6_1).f2)+a1),(rd_T55 l0 x6_1).f3⟩:S55) [.int .i64 ((rd_T55 l0 x6_1).f0),.int .i64 (wrap64 (((rd_T55 l0 x6_1).f1)+a1)),.int .i64 (wrap64 (((rd_T55 l0 x6_1).f2)+a1)),.int .i64 ((rd_T55 l0 x6_1).f3)] (fun k_=>k_≠gb37) (fun _=>False) rfl (by first|(go_simp;done)|(go_simp;rfl)) ?aP (fun _ hk=>hk.elim) ?aF ?aO ?aB ?aS ?aL ?_;(case aP=>exact k55_mkM _ _ _ (⟨(rd_T55 l0 x6_1).f0,wrap64 (((rd_T55 l0 x6_1).f1)+a1),wrap64 (((rd_T55 l0 x6_1).f2)+a1),(rd_T55 l0 x6_1).f3⟩:S55));(case aB=>exact zB);(case aF=>exact (fun k_ hk=>Kd.freshB (g:=gb37) (o:=.cells #[.int .i64 ((rd_T55 l0 x6_1).f0),.int .i64 (wrap64 (((rd_T55 l0 x6_1).f1)+a1)),.int .i64 (wrap64 (((rd_T55 l0 x6_1).f2)+a1)),.int .i64 ((rd_T55 l0 x6_1).f3)] 55 (0,0)) (by refine zj ?_;refine blk_put (cs:=#[.int .i64 ((rd_T55 l0 x6_1).f0),.int .i64 (wrap64 (((rd_T55 l0 x6_1).f1)+a1)),.int .i64 ((rd_T55 l0 x6_1).f2),.int .i64 ((rd_T55 l0 x6_1).f3)]) ?_ 2 _ rfl;refine zj ?_;refine blk_put (cs:=#[.int .i64 ((rd_T55 l0 x6_1).f0),.int .i64 ((rd_T55 l0 x6_1).f1),.int .i64 ((rd_T55 l0 x6_1).f2),.int .i64 ((rd_T55 l0 x6_1).f3)]) ?_ 1 _ rfl;refine zj ?_;exact BK37.out) k_ hk));(case aO=>exact (by refine zr ?_;exact Kd.R_mono (Kd.R_far (p:=⟨gb37,2,none⟩) (Kd.R_far (p:=⟨gb37,1,none⟩) (Kd.R_mono HO_5.out (fun k_ hk=>(⟨hk,hk⟩:_∧k_≠gb37))) (fun _ hk=>hk.2) (.int .i64 (wrap64 (((rd_T55 l0 x6_1).f1)+a1)))) (fun _ hk=>hk.2) (.int .i64 (wrap64 (((rd_T55 l0 x6_1).f2)+a1)))) (fun _ hk=>hk.1)));(case aS=>exact (below_size zB));(case aL=>have:=LMc10.out;omega);intro v65 w12 ho hb hg hat;rw [← Ny48.out] at ho;have HO61:=zA (ho);replace BK37:=zA (blk_grown (g:=gb37) (o:=.cells #[.int .i64 ((rd_T55 l0 x6_1).f0),.int .i64 (wrap64 (((rd_T55 l0 x6_1).f1)+a1)),.int .i64 (wrap64 (((rd_T55 l0 x6_1).f2)+a1)),.int .i64 ((rd_T55 l0 x6_1).f3)] 55 (0,0)) (by refine zj ?_;refine blk_put (cs:=#[.int .i64 ((rd_T55 l0 x6_1).f0),.int .i64 (wrap64 (((rd_T55 l0 x6_1).f1)+a1)),.int .i64 ((rd_T55 l0 x6_1).f2),.int .i64 ((rd_T55 l0 x6_1).f3)]) ?_ 2 _ rfl;refine zj ?_;refine blk_put (cs:=#[.int .i64 ((rd_T55 l0 x6_1).f0),.int .i64 ((rd_T55 l0 x6_1).f1),.int .i64 ((rd_T55 l0 x6_1).f2),.int .i64 ((rd_T55 l0 x6_1).f3)]) ?_ 1 _ rfl;refine zj ?_;exact BK37.out) hg (Kd.R_away HO_5.out (fun _ hk=>hk)));replace HB:=zA (hb);clear HO_5;clear ho hb hg hat))
     go_roundg k1
     case measure=>have:=HK1.out;omega
     case rel=>exact ⟨(y48),(wrap64 (x6_1+1)),zT,H',⟨by have:=HK1.out;omega⟩,⟨by refine zr ?_;exact Kd.R_mono HO61.out (fun _ hk=>trivial)⟩,⟨zv1 HB GE37⟩⟩
    ·have c9b0:decide (0≤((rd_T55 l0 x6_1).f0))=false:=decide_eq_false c9;clear c9
     (first|rw [c9b0]|(simp only [i64_w,i32_w];rw [c9b0])|skip)
     obtain ⟨c13,H⟩:=if1 H;have LMc13:=zA c13;clear c13
     first|(replace H:=zyb (x5_1++[(⟨(rd_T55 l0 x6_1).f0,(rd_T55 l0 x6_1).f1,(rd_T55 l0 x6_1).f2,(rd_T55 l0 x6_1).f3⟩:S55)]) H;obtain ⟨y49,Ny49,H⟩:=H)|(obtain ⟨y49,hy49⟩:=zY (x5_1++[(⟨(rd_T55 l0 x6_1).f0,(rd_T55 l0 x6_1).f1,(rd_T55 l0 x6_1).f2,(rd_T55 l0 x6_1).f3⟩:S55)]);(try rw (occs:=.pos [1]) [← hy49] at H);have Ny49:=zA hy49;clear hy49)
     have H':=zA H;clear H;have hcz14_0:=zc0 BK37;have hcz14_1:=zc1 BK37;have hcz14_2:=zc2 BK37;have hcz14_3:=zc3 BK37;have hfz14_0:=zf BK37
     go_wp2_with (first|((with_reducible refine gate_builtin (b:=.append) (xs:=#[.tmp 31,.tmp 33]) rfl ?_);at_builtin;refine Kd.R_append k55 (w0:=w) w.heap.size rfl (.tmp 31) (.tmp 33) 23 55 (.agg #[(.int .i64 0),(.int .i64 0),(.int .i64 0),(.int .i64 0)]) 32 rfl Try.underlying23 info55 rfl (by decide) (by omega) u5 x5_1 (⟨(rd_T55 l0 x6_1).f0,(rd_T55 l0 x6_1).f1,(rd_T55 l0 x6_1).f2,(rd_T55 l0 x6_1).f3⟩:S55) [.int .i64 ((rd_T55 l0 x6_1).f0),.int .i64 ((rd_T55 l0 x6_1).f1),.int .i64 ((rd_T55 l0 x6_1).f2),.int .i64 ((rd_T55 l0 x6_1).f3)] (fun k_=>k_≠gb37) (fun _=>False) rfl rfl ?aP (fun _ hk=>hk.elim) ?aF ?aO ?aB ?aS ?aL ?_;(case aP=>exact k55_mkM _ _ _ (⟨(rd_T55 l0 x6_1).f0,(rd_T55 l0 x6_1).f1,(rd_T55 l0 x6_1).f2,(rd_T55 l0 x6_1).f3⟩:S55));(case aB=>exact zB);(case aF=>exact (fun k_ hk=>Kd.freshB (g:=gb37) (o:=.cells #[.int .i64 ((rd_T55 l0 x6_1).f0),.int .i64 ((rd_T55 l0 x6_1).f1),.int .i64 ((rd_T55 l0 x6_1).f2),.int .i64 ((rd_T55 l0 x6_1).f3)] 55 (0,0)) (zk BK37) k_ hk));(case aO=>exact (zR HO_5));(case aS=>exact (below_size zB));(case aL=>have:=LMc13.out;omega);intro v66 w15 ho hb hg hat;rw [← Ny49.out] at ho;have HO62:=zA (ho);replace BK37:=zA (blk_grown (g:=gb37) (o:=.cells #[.int .i64 ((rd_T55 l0 x6_1).f0),.int .i64 ((rd_T55 l0 x6_1).f1),.int .i64 ((rd_T55 l0 x6_1).f2),.int .i64 ((rd_T55 l0 x6_1).f3)] 55 (0,0)) (zk BK37) hg (Kd.R_away HO_5.out (fun _ hk=>hk)));replace HB:=zA (hb);clear HO_5;clear ho hb hg hat))
     go_roundg k1
     case measure=>have:=HK1.out;omega
     case rel=>exact ⟨(y49),(wrap64 (x6_1+1)),zT,H',⟨by have:=HK1.out;omega⟩,⟨by refine zr ?_;exact Kd.R_mono HO62.out (fun _ hk=>trivial)⟩,⟨zv1 HB GE37⟩⟩
   ·obtain rfl:=Option.some.inj H
    go_wp2
    go_ret
    exact ⟨_,ze,by refine zr ?_;exact HO_5.out,zv0 HB⟩
end Go.Proofs.Ytkaalbbbpebpdaa.T
