import Derived.Test.YtkjghablbeaioaaGreatB0
import Derived.Test.YtkjghablbeaioaaGreatB10
import Derived.Test.YtkjghablbeaioaaGreatB14
namespace Go.Proofs.YtkjghablbeaioaaGreat.B
open Go.RowKit Go.Proofs.YtkjghablbeaioaaGreatW.PrintWords Go.Proofs.YtkjghablbeaioaaGreatW.PrintLast Go.Proofs.YtkjghablbeaioaaGreatW.PrintMore
attribute [local go_sem] max2_int min2_int max_two min_two max_three min_three max_four min_four Tryz.underlying23 Tryz.underlying3 Tryz.underlying49 Tryz.underlying86
set_option linter.unusedVariables false
set_option linter.unusedSimpArgs false
mutual
def ancepsref42_Cores.l0:Nat→List (S49)→List (List Int)→Int→Option ((List (List Int))×Int)
 | 0,_,_,_=>none
 | k+1,x0,x5,x6=>if x6≤(x0.length:Int) then ((ancepsref42_Sets.f k (x0.length:Int) x6).bind fun t46=>(ancepsref42_Cores.l1 k x0 x5 x6 t46 0)) else (some (x5,0))
def ancepsref42_Cores.l1:Nat→List (S49)→List (List Int)→Int→List (List Int)→Int→Option ((List (List Int))×Int)
 | 0,_,_,_,_,_=>none
 | k+1,x0,x5,x6,x7,x8=>if x8<(x7.length:Int) then (if 0≤x8 then ((ancepsref42_core.f k x0 (rd_L1 x7 x8)).bind fun t55=>(if t55=true then (if x5.length<5864062014805 then (ancepsref42_Cores.l1 k x0 (x5++[rd_L1 x7 x8]) x6 x7 (wrap64 (x8+1))) else (none)) else (ancepsref42_Cores.l1 k x0 x5 x6 x7 (wrap64 (x8+1))))) else (none)) else (ancepsref42_Cores.l0 k x0 x5 (wrap64 (x6+1)))
end
def ancepsref42_Cores.f (k:Nat) (l0:List (S49)):Option ((List (List Int))×Int):=(ancepsref42_Valid.f k l0).bind fun t54=>(if t54=0 then (ancepsref42_Cores.l0 k l0 ([]:List (List Int)) 0) else (some (([]:List (List Int)),t54)))
set_option maxHeartbeats 8000000 in
set_option maxRecDepth 100000 in
theorem ancepsref42_Cores.calls (k:Nat) (A0:Option Addr) (c0:Nat) (l0:List (S49)) (r1:List (List Int)) (r2:Int) (w:World) (hr0:Kd.C k49 w A0 l0.length l0) (hc0:l0.length≤c0) (h:ancepsref42_Cores.f k l0=some (r1,r2)) :
  Calls Tryz.prog 14 #[.slice A0 l0.length c0] w fun e w'=>∃ v0_:Value,e=.returned (.tuple #[v0_,.int .i64 r2])∧Kd.N (Kd.slice 3 (Kd.int .i64)) 23 w' w.heap.size (fun k_=>(w.heap.size≤k_)) v0_ r1∧Below w.heap.size w w':=by
 have HR0:=zA hr0;have HC0:=zA hc0;clear hr0 hc0;have HB:=zA (Below.refl w.heap.size w);have H:((ancepsref42_Valid.f k l0).bind fun t54=>(if t54=0 then (ancepsref42_Cores.l0 k l0 ([]:List (List Int)) 0) else (some (([]:List (List Int)),t54))))=some (r1,r2):=h;clear h;obtain ⟨t54,A2,H⟩:=zo H;have HC3:=zA H;clear H
 go_enter Tryz.func14,Tryz.ntmps14
 go_upto_if 12 with (first|((with_reducible refine gate_callee (f:=28) rfl ?_);refine zgo 10 Tryz.func28 #[.slice A0 l0.length c0] ?_;(with_reducible refine (ancepsref42_Valid.calls k _ _ l0 t54 _ ?side1 HC0.out A2.out).mono ?_);(case side1=>repeat (first|exact HR0.out|(with_reducible refine Kd.C_alloc ?_ _)|(with_reducible refine Kd.C_drewN ?_ _)|(with_reducible refine Kd.C_drew ?_)));rintro e w4 ⟨rfl,hb⟩;refine ⟨_,rfl,?_⟩;replace HB:=zu hb;clear hb))
 (try simp only [Act.put,zi,zs,zt]);have H:=HC3.out;clear HC3
 rcases ife H with ⟨c5b0,c5b1,H⟩|⟨c5,c5b0,c5b1,H⟩
 ·(first|rw [c5b0]|(simp only [i64_w,i32_w];rw [c5b0])|skip)
  (try rw [c5b1]);have H':=zA H;clear H
  go_wp2
  go_loopg [5,6] k (fun kq v5 v6 w'=>∃ (x5_1:List (List Int)) (x6_1:Int),v6=.int .i64 x6_1∧Aside0 (ancepsref42_Cores.l0 kq l0 x5_1 x6_1=some (r1,r2))∧Aside0 (kq≤k)∧Aside0 (Kd.N (Kd.slice 3 (Kd.int .i64)) 23 w' w.heap.size (fun k_=>(w.heap.size≤k_)) v5 x5_1)∧Aside0 (Below w.heap.size w w'))
  case atStart=>exact ⟨(([]:List (List Int))),(0),zT,H',⟨Nat.le_refl _⟩,⟨by first|exact Kd.S_nil _ _ _ _ _|exact Kd.N_nil _ _ _ _ _|exact Kd.V_nil _ _ _ _ _|exact Kd.Q_nil _ _ _ _ _|exact Kd.R_nil _ _ _ _ _⟩,⟨zv0 HB⟩⟩
  case round=>
   clear H'
   try clear c5
   try clear c5b0
   try clear c5b1
   obtain ⟨x5_1,x6_1,rfl,HA,HK1,HO_5,HB⟩:=hrel
   cases gk with
   | zero=>exact absurd HA.out (by simp [ancepsref42_Cores.l0])
   | succ k1=>
    have H:=HA.out;clear HA;simp only [ancepsref42_Cores.l0] at H
    rcases ifd H with ⟨c6b0,H⟩|⟨c6b0,H⟩
    ·obtain ⟨t46,A7,H⟩:=zo H;have H':=zA H;clear H
     go_wp2_with (first|((with_reducible refine gate_callee (f:=43) rfl ?_);refine zgo 23 Tryz.func43 #[.int .i64 (l0.length:Int),.int .i64 x6_1] ?_;(with_reducible refine (ancepsref42_Sets.calls k1 (l0.length:Int) x6_1 t46 _ A7.out).mono ?_);rintro e w8 ⟨v56,rfl,ho0,hb⟩;refine ⟨_,rfl,?_⟩;have HO57:=zA (Kd.N_lower (Kd.N_mono (ok':=fun k_=>(w.heap.size≤k_)∧some k_≠(u5:Value).ownBlock) (Kd.S_N (Kd.S_bound ho0)) (fun k_ hk_=>⟨(Nat.le_trans (below_size zB) hk_.2.1),(Kd.fresh' (Kd.N_lt (zN HO_5)) k_ hk_.2.1)⟩)) (below_size zB));replace HO_5:=zA (Kd.N_elder' (zN HO_5) (Kd.N_base (Kd.S_N ho0)) hb);replace HB:=zu hb;clear hb;(try clear ho0)))
     go_loopg [5,8] k1 (fun kq v5 v8 w'=>∃ (x5_2:List (List Int)) (x8_2:Int),v8=.int .i64 x8_2∧Aside0 (ancepsref42_Cores.l1 kq l0 x5_2 x6_1 t46 x8_2=some (r1,r2))∧Aside0 (kq≤k1)∧Aside0 (Kd.N (Kd.slice 3 (Kd.int .i64)) 23 w' w.heap.size (fun k_=>(w.heap.size≤k_)∧some k_≠(v56:Value).ownBlock) v5 x5_2)∧Aside0 (Kd.N (Kd.slice 3 (Kd.int .i64)) 23 w' w.heap.size (fun k_=>(w.heap.size≤k_)∧some k_≠(v5:Value).ownBlock) v56 t46)∧Aside0 (Below w.heap.size w w'))
     case atStart=>exact ⟨(x5_1),(0),zT,H',⟨Nat.le_refl _⟩,⟨by (with_reducible repeat (first|apply Kd.N_alloc|apply Kd.N_drewN|apply Kd.N_drew));exact HO_5.out⟩,⟨by (with_reducible repeat (first|apply Kd.N_alloc|apply Kd.N_drewN|apply Kd.N_drew));exact HO57.out⟩,⟨zv0 HB⟩⟩
     case round=>
      clear H'
      try clear c5
      try clear c5b0
      try clear c5b1
      try clear c6
      try clear c6b0
      obtain ⟨x5_2,x8_2,rfl,HA,HK2,HO_5,HO_7,HB⟩:=hrel
      cases gk with
      | zero=>exact absurd HA.out (by simp [ancepsref42_Cores.l1])
      | succ k2=>
       have H:=HA.out;clear HA;simp only [ancepsref42_Cores.l1] at H
       rcases ifd H with ⟨c9b0,H⟩|⟨c9b0,H⟩
       ·obtain ⟨c10b0,H⟩:=ifd1 H;obtain ⟨t55,A11,H⟩:=zo H;have HC12:=zA H;clear H;obtain ⟨Ao13,co13,eo13⟩:=Kd.N_slice HO_7.out;subst eo13;obtain ⟨p33,q33,ad33,A33_0,c33_0,e33,hx33_0,hl33_0,hi33_0⟩:=zp (at_L1 (Kd.N_reads' HO_7.out).2.2 x8_2)
        cases e33
        obtain ⟨ce33,hce33,hMe33,hcc33⟩:=Kd.N_get HO_7.out [] x8_2 p33 (by first|exact q33|exact of_decide_eq_true zh|(have e_:=(Kd.N_reads' HO_7.out).1;omega));obtain ⟨ua33_0,uc33_0,rfl,ul33_0,ge33_0⟩:=Kd.FK_slice_open hMe33;have hv33_0:=hcc33 0 _ rfl;rw [Nat.add_zero,show ((Kd.slice 3 (Kd.int .i64))).sz=1 from rfl,Nat.mul_one] at hv33_0;replace hv33_0:=Option.some.inj (hv33_0.symm.trans hx33_0)
        injection hv33_0 with hva_ hvn_ hvc_
        rw [hva_] at ge33_0;rw [hvc_] at ul33_0;have HL33_0:=zA (show Kd.V (Kd.int .i64) 3 _ w.heap.size _ _ (rd_L1 t46 x8_2) from Kd.V_mk ul33_0 ge33_0);clear hva_ hvn_ hvc_ ge33_0 ul33_0;clear hcc33 hce33;have HR33_0:=zA hi33_0;have HC33_0:=zA hl33_0;clear hi33_0 hl33_0;replace p33:=eq_true p33;replace q33:=eq_true q33
        go_upto_if 35 with (first|((with_reducible refine gate_callee (f:=44) rfl ?_);refine zgo 35 Tryz.func44 #[.slice A0 l0.length c0,.slice A33_0 (rd_L1 t46 x8_2).length c33_0] ?_;(with_reducible refine (ancepsref42_core.calls k2 _ _ l0 _ _ (rd_L1 t46 x8_2) t55 _ (zD HR0 HB) HC0.out ?side3 HC33_0.out A11.out).mono ?_);(case side3=>exact zC ((Kd.V_reads' HL33_0.out).2.2));rintro e w14 ⟨rfl,hb⟩;refine ⟨_,rfl,?_⟩;replace HO_5:=zA (Kd.N_below (zN HO_5) hb);replace HO_7:=zA (Kd.N_below (zN HO_7) hb);replace HR33_0:=zA (Kd.C_below ((Kd.V_reads' HL33_0.out).2.2) hb);replace HL33_0:=zA (Kd.V_below (by (with_reducible repeat (first|apply Kd.V_alloc|apply Kd.V_drewN|apply Kd.V_drew));exact HL33_0.out) hb);replace HB:=zu hb;clear hb))
        (try simp only [Act.put,zi,zs,zt]);have H:=HC12.out;clear HC12
        by_cases c15:t55=true
        ·subst c15
         have H1:(if x5_2.length<5864062014805 then (ancepsref42_Cores.l1 k2 l0 (x5_2++[rd_L1 t46 x8_2]) x6_1 t46 (wrap64 (x8_2+1))) else (none))=some (r1,r2):=by rw [if_pos rfl] at H;exact H
         clear H;have H:=H1;clear H1;obtain ⟨c16,H⟩:=if1 H;have LMc16:=zA c16;clear c16
         first|(replace H:=zyb (x5_2++[rd_L1 t46 x8_2]) H;obtain ⟨y53,Ny53,H⟩:=H)|(obtain ⟨y53,hy53⟩:=zY (x5_2++[rd_L1 t46 x8_2]);(try rw (occs:=.pos [1]) [← hy53] at H);have Ny53:=zA hy53;clear hy53)
         have H':=zA H;clear H;obtain ⟨p35,q35,ad35,A35_0,c35_0,e35,hx35_0,hl35_0,hi35_0⟩:=zp (at_L1 (Kd.N_reads' HO_7.out).2.2 x8_2)
         obtain rfl:ad33=ad35:=(by injection e35)
         obtain ⟨ce35,hce35,hMe35,hcc35⟩:=Kd.N_get HO_7.out [] x8_2 p35 (by first|exact q35|exact of_decide_eq_true zh|(have e_:=(Kd.N_reads' HO_7.out).1;omega));obtain ⟨ua35_0,uc35_0,rfl,ul35_0,ge35_0⟩:=Kd.FK_slice_open hMe35;have hv35_0:=hcc35 0 _ rfl;rw [Nat.add_zero,show ((Kd.slice 3 (Kd.int .i64))).sz=1 from rfl,Nat.mul_one] at hv35_0;replace hv35_0:=Option.some.inj (hv35_0.symm.trans hx35_0)
         injection hv35_0 with hva_ hvn_ hvc_
         rw [hva_] at ge35_0;rw [hvc_] at ul35_0;have HL35_0:=zA (show Kd.V (Kd.int .i64) 3 _ w.heap.size _ _ (rd_L1 t46 x8_2) from Kd.V_mk ul35_0 ge35_0);clear hva_ hvn_ hvc_ ge35_0 ul35_0;clear hcc35 hce35;have HR35_0:=zA hi35_0;have HC35_0:=zA hl35_0;clear hi35_0 hl35_0;replace p35:=eq_true p35;replace q35:=eq_true q35
         go_wp2_with (first|((with_reducible refine gate_builtin (b:=.append) (xs:=#[.tmp 36,.tmp 41]) rfl ?_);at_builtin;refine Kd.N_append (Kd.slice 3 (Kd.int .i64)) (w0:=w) w.heap.size rfl (.tmp 36) (.tmp 41) 36 23 (.slice none 0 0) 24 rfl Tryz.underlying36 info23 rfl (by decide) (by omega) u5 x5_2 (rd_L1 t46 x8_2) [.slice A35_0 (rd_L1 t46 x8_2).length c35_0] (fun k_=>(w.heap.size≤k_)∧some k_≠(.slice (some ad33) t46.length co13:Value).ownBlock) (fun k_=>((fun k_=>(w.heap.size≤k_)∧some k_≠(.slice (some ad33) t46.length co13:Value).ownBlock)) k_∧some k_≠(u5:Value).ownBlock) rfl rfl ?aP (fun _ hk=>hk) ?aF ?aO ?aB ?aS ?aL ?_;(case aP=>exact (Kd.FK_slice_mk (Kd.V_reads' (Kd.V_mono (ok':=(fun k_=>((fun k_=>(w.heap.size≤k_)∧some k_≠(.slice (some ad33) t46.length co13:Value).ownBlock)) k_∧some k_≠(u5:Value).ownBlock)) (HL35_0.out) (fun k_ hk=>⟨⟨hk.1.1,hk.2⟩,hk.1.2⟩))).2.1 (Kd.V_F (Kd.V_mono (ok':=(fun k_=>((fun k_=>(w.heap.size≤k_)∧some k_≠(.slice (some ad33) t46.length co13:Value).ownBlock)) k_∧some k_≠(u5:Value).ownBlock)) (HL35_0.out) (fun k_ hk=>⟨⟨hk.1.1,hk.2⟩,hk.1.2⟩)))));(case aB=>exact zB);(case aF=>exact (fun k_ hk=>⟨(Nat.le_trans (below_size zB) hk),Kd.fresh' (Kd.N_lt (zN HO_7)) k_ hk⟩));(case aO=>exact (zN HO_5));(case aS=>exact (below_size zB));(case aL=>have:=LMc16.out;omega);intro v59 w17 ho hb hg hat;rw [← Ny53.out] at ho;have HO58:=zA (ho);replace HO_7:=zA (Kd.N_afterv (ok:=(fun k_=>(w.heap.size≤k_))) (zN HO_7) hg hat);replace HL33_0:=zA (Kd.V_afterv (ok:=(fun k_=>(w.heap.size≤k_)∧some k_≠(.slice (some ad33) t46.length co13:Value).ownBlock)) (by (with_reducible repeat (first|apply Kd.V_alloc|apply Kd.V_drewN|apply Kd.V_drew));exact Kd.V_mono HL33_0.out (fun _ hk=>⟨⟨hk.1.1,hk.2⟩,hk.1.2⟩)) hg hat);replace HL35_0:=zA (Kd.V_afterv (ok:=(fun k_=>(w.heap.size≤k_)∧some k_≠(.slice (some ad33) t46.length co13:Value).ownBlock)) (by (with_reducible repeat (first|apply Kd.V_alloc|apply Kd.V_drewN|apply Kd.V_drew));exact Kd.V_mono HL35_0.out (fun _ hk=>⟨⟨hk.1.1,hk.2⟩,hk.1.2⟩)) hg hat);replace HB:=zA (hb);clear HO_5;clear ho hb hg hat))
         go_roundg k2
         case measure=>have:=HK1.out;have:=HK2.out;omega
         case rel=>exact ⟨(y53),(wrap64 (x8_2+1)),zT,H',⟨by have:=HK1.out;have:=HK2.out;omega⟩,⟨by (with_reducible repeat (first|apply Kd.N_alloc|apply Kd.N_drewN|apply Kd.N_drew));exact HO58.out⟩,⟨by (with_reducible repeat (first|apply Kd.N_alloc|apply Kd.N_drewN|apply Kd.N_drew));exact HO_7.out⟩,⟨zv0 HB⟩⟩
        ·replace c15:=Bool.eq_false_iff.mpr c15;subst c15
         have H1:(ancepsref42_Cores.l1 k2 l0 x5_2 x6_1 t46 (wrap64 (x8_2+1)))=some (r1,r2):=by rw [if_neg (show ¬ (false=true) by decide)] at H;exact H
         clear H;have H:=H1;clear H1;have H':=zA H;clear H
         go_wp2
         go_roundg k2
         case measure=>have:=HK1.out;have:=HK2.out;omega
         case rel=>exact ⟨(x5_2),(wrap64 (x8_2+1)),zT,H',⟨by have:=HK1.out;have:=HK2.out;omega⟩,⟨by (with_reducible repeat (first|apply Kd.N_alloc|apply Kd.N_drewN|apply Kd.N_drew));exact HO_5.out⟩,⟨by (with_reducible repeat (first|apply Kd.N_alloc|apply Kd.N_drewN|apply Kd.N_drew));exact HO_7.out⟩,⟨zv0 HB⟩⟩
       ·have H':=zA H;clear H;obtain ⟨Ao18,co18,eo18⟩:=Kd.N_slice HO_7.out;subst eo18
        go_wp2
        go_roundg k2
        case measure=>have:=HK1.out;have:=HK2.out;omega
        case rel=>exact ⟨(x5_2),(wrap64 (x6_1+1)),zT,H',⟨by have:=HK1.out;have:=HK2.out;omega⟩,⟨by (with_reducible repeat (first|apply Kd.N_alloc|apply Kd.N_drewN|apply Kd.N_drew));exact Kd.N_mono HO_5.out (fun _ hk=>hk.1)⟩,⟨zv0 HB⟩⟩
    ·simp only [Option.some.injEq,Prod.mk.injEq] at H;obtain ⟨rfl,rfl⟩:=H
     go_wp2
     go_ret2
     exact ⟨_,ze,by (with_reducible repeat (first|apply Kd.N_alloc|apply Kd.N_drewN|apply Kd.N_drew));exact HO_5.out,zv0 HB⟩
 ·(first|rw [c5b0]|(simp only [i64_w,i32_w];rw [c5b0])|skip)
  (try rw [c5b1]);simp only [Option.some.injEq,Prod.mk.injEq] at H;obtain ⟨rfl,rfl⟩:=H
  go_wp2
  go_ret2
  exact ⟨_,ze,by first|exact Kd.S_nil _ _ _ _ _|exact Kd.N_nil _ _ _ _ _|exact Kd.V_nil _ _ _ _ _|exact Kd.Q_nil _ _ _ _ _|exact Kd.R_nil _ _ _ _ _,zv0 HB⟩
mutual
def ancepsref40_fails.l0:Nat→Int→List Int→List Int→Int→Int→Option (Bool)
 | 0,_,_,_,_,_=>none
 | k+1,x5,x45,x47,x48,x50=>if x5<(x47.length:Int) then (if 0≤x5 then ((ancepsref38_Assignment.f k x45 (rd x47 x5)).bind fun t52=>(ancepsref40_fails.l1 k x5 t52 true 0 x45 x47 x48 x50)) else (none)) else (some true)
def ancepsref40_fails.l1:Nat→Int→Int→Bool→Int→List Int→List Int→Int→Int→Option (Bool)
 | 0,_,_,_,_,_,_,_,_=>none
 | k+1,x5,x6,x7,x8,x45,x47,x48,x50=>if x8<(x45.length:Int) then (if 0≤x8 then (if 0≤(rd x45 x8) then (if x7=true then (if (Go.bits .and .i64 x48 (shl .i64 1 (rd x45 x8)))=0 then (ancepsref40_fails.l1 k x5 x6 true (wrap64 (x8+1)) x45 x47 x48 x50) else (ancepsref40_fails.l1 k x5 x6 ((Go.bits .and .i64 x6 (shl .i64 1 (rd x45 x8))) == (Go.bits .and .i64 x50 (shl .i64 1 (rd x45 x8)))) (wrap64 (x8+1)) x45 x47 x48 x50)) else (ancepsref40_fails.l1 k x5 x6 false (wrap64 (x8+1)) x45 x47 x48 x50)) else (none)) else (none)) else (if x7=true then (some false) else (ancepsref40_fails.l0 k (wrap64 (x5+1)) x45 x47 x48 x50))
end
def ancepsref40_fails.f (k:Nat) (l0_0:List Int) (l0_1:List Int) (a1_0:Int) (a1_1:Int):Option (Bool):=ancepsref40_fails.l0 k 0 l0_0 l0_1 a1_0 a1_1
set_option maxHeartbeats 8000000 in
set_option maxRecDepth 100000 in
theorem ancepsref40_fails.calls (k:Nat) (A0_0:Option Addr) (c0_0:Nat) (l0_0:List Int) (A0_1:Option Addr) (c0_1:Nat) (l0_1:List Int) (a1_0:Int) (a1_1:Int) (r:Bool) (w:World) (hr0_0:Kd.C (Kd.int .i64) w A0_0 l0_0.length l0_0) (hc0_0:l0_0.length≤c0_0) (hr0_1:Kd.C (Kd.int .i64) w A0_1 l0_1.length l0_1) (hc0_1:l0_1.length≤c0_1) (h:ancepsref40_fails.f k l0_0 l0_1 a1_0 a1_1=some r) :
  Calls Tryz.prog 94 #[.agg #[.slice A0_0 l0_0.length c0_0,.slice A0_1 l0_1.length c0_1],.agg #[.int .i64 a1_0,.int .i64 a1_1]] w fun e w'=>e=.returned (.bool r)∧Below w.heap.size w w':=by
 have HR0_0:=zA hr0_0;have HC0_0:=zA hc0_0;clear hr0_0 hc0_0;have HR0_1:=zA hr0_1;have HC0_1:=zA hc0_1;clear hr0_1 hc0_1;have HB:=zA (Below.refl w.heap.size w);have H:(ancepsref40_fails.l0 k 0 l0_0 l0_1 a1_0 a1_1)=some r:=h;clear h;have H':=zA H;clear H
 go_enter Tryz.func94,Tryz.ntmps94
 go_wp2_with (first|((with_reducible refine gd 2 rfl ?_);refine zx #[.slice A0_0 l0_0.length c0_0,.slice A0_1 l0_1.length c0_1] 49 ?_;intro gb31 hg w3 BK31 hb GW31 HB1;have GE31:=GW31;clear HB hb hg;have HB:=HB1;clear HB1)|((with_reducible refine gd 3 rfl ?_);refine zx #[.int .i64 a1_0,.int .i64 a1_1] 86 ?_;intro gb34 hg w4 BK34 hb GW34 HB1;have GE34:=GW34;have NB31_34:=zL hg BK31;have NB34_31:=zLs NB31_34;replace BK31:=zw BK31 hb;clear HB hb hg;have HB:=HB1;clear HB1))
 repeat (go_quiet (first|((with_reducible refine gd 2 rfl ?_);refine zx #[.slice A0_0 l0_0.length c0_0,.slice A0_1 l0_1.length c0_1] 49 ?_;intro gb31 hg w3 BK31 hb GW31 HB1;have GE31:=GW31;clear HB hb hg;have HB:=HB1;clear HB1)|((with_reducible refine gd 3 rfl ?_);refine zx #[.int .i64 a1_0,.int .i64 a1_1] 86 ?_;intro gb34 hg w4 BK34 hb GW34 HB1;have GE34:=GW34;have NB31_34:=zL hg BK31;have NB34_31:=zLs NB31_34;replace BK31:=zw BK31 hb;clear HB hb hg;have HB:=HB1;clear HB1));try go_wp2_with (first|((with_reducible refine gd 2 rfl ?_);refine zx #[.slice A0_0 l0_0.length c0_0,.slice A0_1 l0_1.length c0_1] 49 ?_;intro gb31 hg w3 BK31 hb GW31 HB1;have GE31:=GW31;clear HB hb hg;have HB:=HB1;clear HB1)|((with_reducible refine gd 3 rfl ?_);refine zx #[.int .i64 a1_0,.int .i64 a1_1] 86 ?_;intro gb34 hg w4 BK34 hb GW34 HB1;have GE34:=GW34;have NB31_34:=zL hg BK31;have NB34_31:=zLs NB31_34;replace BK31:=zw BK31 hb;clear HB hb hg;have HB:=HB1;clear HB1)))
 go_loopg [5] k (fun kq v5 w'=>∃ (x5_1:Int),v5=.int .i64 x5_1∧Aside0 (ancepsref40_fails.l0 kq x5_1 l0_0 l0_1 a1_0 a1_1=some r)∧Aside0 (kq≤k)∧Aside0 (w'.heap[gb31]?=some (.cells #[(.slice A0_0 l0_0.length c0_0),(.slice A0_1 l0_1.length c0_1)] 49 (0,0)))∧Aside0 (w'.heap[gb34]?=some (.cells #[.int .i64 a1_0,.int .i64 a1_1] 86 (0,0)))∧Aside0 (Below w.heap.size w w'))
 case atStart=>exact ⟨(0),zT,H',⟨Nat.le_refl _⟩,⟨by refine zj ?_;exact BK31.out⟩,⟨by refine zj ?_;exact BK34.out⟩,⟨zv2 HB GE31 GE34⟩⟩
 case round=>
  clear H';obtain ⟨x5_1,rfl,HA,HK1,BK31,BK34,HB⟩:=hrel
  cases gk with
  | zero=>exact absurd HA.out (by simp [ancepsref40_fails.l0])
  | succ k1=>
   have H:=HA.out;clear HA;simp only [ancepsref40_fails.l0] at H
   rcases ifd H with ⟨c5b0,H⟩|⟨c5b0,H⟩
   ·obtain ⟨c6b0,H⟩:=ifd1 H;obtain ⟨t52,A7,H⟩:=zo H;have H':=zA H;clear H;have hnb8:=NB31_34.out;have hnc8:=NB34_31.out;have hcz9_0:=zc0 BK31;have hcz9_1:=zc1 BK31;have hfz9_0:=zf BK31;obtain ⟨p51,q51,ad51,e51,hx51_0⟩:=zp (Kd.at_int HR0_1.out x5_1)
    cases e51
    replace hx51_0:=zd HB hx51_0;replace p51:=eq_true p51;replace q51:=eq_true q51
    go_wp2_with (first|(go_at_call 75;(with_reducible refine (ancepsref38_Assignment.calls k1 _ _ l0_0 (rd l0_1 x5_1) t52 _ (zD HR0_0 HB) HC0_0.out A7.out).mono ?_);rintro e w' ⟨rfl,⟨nd,rfl⟩⟩;(try first|exact ⟨rfl,_,World.drewN_drewN _ _ _⟩|exact ⟨rfl,_,Eq.trans (World.drewN_drewN _ _ _) (congrArg (World.drewN _) (Nat.add_assoc _ _ _))⟩)))
    repeat (go_quiet (first|(go_at_call 75;(with_reducible refine (ancepsref38_Assignment.calls k1 _ _ l0_0 (rd l0_1 x5_1) t52 _ (zD HR0_0 HB) HC0_0.out A7.out).mono ?_);rintro e w' ⟨rfl,⟨nd,rfl⟩⟩;(try first|exact ⟨rfl,_,World.drewN_drewN _ _ _⟩|exact ⟨rfl,_,Eq.trans (World.drewN_drewN _ _ _) (congrArg (World.drewN _) (Nat.add_assoc _ _ _))⟩)));try go_wp2_with (first|(go_at_call 75;(with_reducible refine (ancepsref38_Assignment.calls k1 _ _ l0_0 (rd l0_1 x5_1) t52 _ (zD HR0_0 HB) HC0_0.out A7.out).mono ?_);rintro e w' ⟨rfl,⟨nd,rfl⟩⟩;(try first|exact ⟨rfl,_,World.drewN_drewN _ _ _⟩|exact ⟨rfl,_,Eq.trans (World.drewN_drewN _ _ _) (congrArg (World.drewN _) (Nat.add_assoc _ _ _))⟩))))
    go_loopg [7,8] k1 (fun kq v7 v8 w'=>∃ (x7_2:Bool) (x8_2:Int),v7=.bool x7_2∧v8=.int .i64 x8_2∧Aside0 (ancepsref40_fails.l1 kq x5_1 t52 x7_2 x8_2 l0_0 l0_1 a1_0 a1_1=some r)∧Aside0 (kq≤k1)∧Aside0 (w'.heap[gb31]?=some (.cells #[(.slice A0_0 l0_0.length c0_0),(.slice (some ad51) l0_1.length c0_1)] 49 (0,0)))∧Aside0 (w'.heap[gb34]?=some (.cells #[.int .i64 a1_0,.int .i64 a1_1] 86 (0,0)))∧Aside0 (Below w.heap.size w w'))
    case atStart=>exact ⟨(true),(0),zT,zT,H',⟨Nat.le_refl _⟩,⟨by refine zj ?_;exact BK31.out⟩,⟨by refine zj ?_;exact BK34.out⟩,⟨zv2 HB GE31 GE34⟩⟩
    case round=>
     clear H'
     try clear c5
     try clear c5b0
     try clear c6
     try clear c6b0
     try clear hcz9_0
     try clear hcz9_1
     try clear hfz9_0
     try clear hfz9_1
     try clear hx51_0
     try clear p51
     try clear q51
     obtain ⟨x7_2,x8_2,rfl,rfl,HA,HK2,BK31,BK34,HB⟩:=hrel
     cases gk with
     | zero=>exact absurd HA.out (by simp [ancepsref40_fails.l1])
     | succ k2=>
      have H:=HA.out;clear HA;simp only [ancepsref40_fails.l1] at H
      rcases ifd H with ⟨c10b0,H⟩|⟨c10b0,H⟩
      ·obtain ⟨c11b0,H⟩:=ifd1 H;obtain ⟨c12,H⟩:=if1 H;have c12b0:=eq_true c12;have c12b1:decide (0≤(rd l0_0 x8_2))=true:=decide_eq_true c12;clear c12;obtain ⟨ji13,hji13⟩:=zZ (shl .i64 1 (rd l0_0 x8_2))
       first|rw [hji13] at H|simp only [hji13] at H
       have hji13_:(IntKind.i64.wrap (1 * 2 ^ min (rd l0_0 x8_2).toNat 64))=ji13:=hji13;have hji13z:(rd l0_0 x8_2)≤64→(IntKind.i64.wrap (1 * 2 ^ (rd l0_0 x8_2).toNat))=ji13:=shl_small hji13
       have hji13u:(IntKind.i64.wrap (2 ^ min (rd l0_0 x8_2).toNat 64))=ji13:=by have h_:=hji13_;rw [Int.one_mul] at h_;exact h_
       have hji13v:(rd l0_0 x8_2)≤64→(IntKind.i64.wrap (2 ^ (rd l0_0 x8_2).toNat))=ji13:=fun hle_=>by have h_:=hji13z hle_;rw [Int.one_mul] at h_;exact h_
       have hji13y:(wrap64 (1 * 2 ^ min (rd l0_0 x8_2).toNat 64))=ji13:=(i64_w _).symm.trans hji13_
       have hji13x:(rd l0_0 x8_2)≤64→(wrap64 (1 * 2 ^ (rd l0_0 x8_2).toNat))=ji13:=fun h_=>(i64_w _).symm.trans (hji13z h_)
       by_cases c14:x7_2=true
       ·subst c14
        have H1:(if (Go.bits .and .i64 a1_0 (ji13))=0 then (ancepsref40_fails.l1 k2 x5_1 t52 true (wrap64 (x8_2+1)) l0_0 l0_1 a1_0 a1_1) else (ancepsref40_fails.l1 k2 x5_1 t52 ((Go.bits .and .i64 t52 (ji13)) == (Go.bits .and .i64 a1_1 (ji13))) (wrap64 (x8_2+1)) l0_0 l0_1 a1_0 a1_1))=some r:=by rw [if_pos rfl] at H;exact H
        clear H;have H:=H1;clear H1
        rcases ife H with ⟨c15b0,c15b1,H⟩|⟨c15,c15b0,c15b1,H⟩
        ·have H':=zA H;clear H;have hnb16:=NB31_34.out;have hnc16:=NB34_31.out;have hcz17_0:=zc0 BK31;have hcz17_1:=zc1 BK31;have hfz17_0:=zf BK31;obtain ⟨p37,q37,ad37,e37,hx37_0⟩:=zp (Kd.at_int HR0_0.out x8_2)
         cases e37
         replace hx37_0:=zd HB hx37_0;replace p37:=eq_true p37;replace q37:=eq_true q37;have hcz18_0:=zc0 BK34;have hcz18_1:=zc1 BK34;have hfz18_0:=zf BK34
         go_wp2
         repeat (go_quiet (fail);try go_wp2)
         go_roundg k2
         case measure=>have:=HK1.out;have:=HK2.out;omega
         case rel=>exact ⟨(true),(wrap64 (x8_2+1)),zT,zT,H',⟨by have:=HK1.out;have:=HK2.out;omega⟩,⟨by refine zj ?_;exact BK31.out⟩,⟨by refine zj ?_;exact BK34.out⟩,⟨zv2 HB GE31 GE34⟩⟩
        ·have H':=zA H;clear H;have hnb19:=NB31_34.out;have hnc19:=NB34_31.out;have hcz20_0:=zc0 BK31;have hcz20_1:=zc1 BK31;have hfz20_0:=zf BK31;obtain ⟨p37,q37,ad37,e37,hx37_0⟩:=zp (Kd.at_int HR0_0.out x8_2)
         cases e37
         replace hx37_0:=zd HB hx37_0;replace p37:=eq_true p37;replace q37:=eq_true q37;have hcz21_0:=zc0 BK34;have hcz21_1:=zc1 BK34;have hfz21_0:=zf BK34
         go_wp2
         repeat (go_quiet (fail);try go_wp2)
         go_roundg k2
         case measure=>have:=HK1.out;have:=HK2.out;omega
         case rel=>exact ⟨(((Go.bits .and .i64 t52 (ji13)) == (Go.bits .and .i64 a1_1 (ji13)))),(wrap64 (x8_2+1)),(by first|rfl|(simp;done)|(simp only [← hji13] <;> (first|rfl|simp))|(simp [*];done)),zT,H',⟨by have:=HK1.out;have:=HK2.out;omega⟩,⟨by refine zj ?_;exact BK31.out⟩,⟨by refine zj ?_;exact BK34.out⟩,⟨zv2 HB GE31 GE34⟩⟩
       ·replace c14:=Bool.eq_false_iff.mpr c14;subst c14
        have H1:(ancepsref40_fails.l1 k2 x5_1 t52 false (wrap64 (x8_2+1)) l0_0 l0_1 a1_0 a1_1)=some r:=by rw [if_neg (show ¬ (false=true) by decide)] at H;exact H
        clear H;have H:=H1;clear H1;have H':=zA H;clear H;have hnb22:=NB31_34.out;have hnc22:=NB34_31.out;have hcz23_0:=zc0 BK31;have hcz23_1:=zc1 BK31;have hfz23_0:=zf BK31;obtain ⟨p37,q37,ad37,e37,hx37_0⟩:=zp (Kd.at_int HR0_0.out x8_2)
        cases e37
        replace hx37_0:=zd HB hx37_0;replace p37:=eq_true p37;replace q37:=eq_true q37
        go_wp2
        repeat (go_quiet (fail);try go_wp2)
        go_roundg k2
        case measure=>have:=HK1.out;have:=HK2.out;omega
        case rel=>exact ⟨(false),(wrap64 (x8_2+1)),zT,zT,H',⟨by have:=HK1.out;have:=HK2.out;omega⟩,⟨by refine zj ?_;exact BK31.out⟩,⟨by refine zj ?_;exact BK34.out⟩,⟨zv2 HB GE31 GE34⟩⟩
      ·by_cases c24:x7_2=true
       ·subst c24
        have H1:(some false)=some r:=by rw [if_pos rfl] at H;exact H
        clear H;have H:=H1;clear H1;obtain rfl:=Option.some.inj H;have hnb25:=NB31_34.out;have hnc25:=NB34_31.out;have hcz26_0:=zc0 BK31;have hcz26_1:=zc1 BK31;have hfz26_0:=zf BK31
        go_wp2
        repeat (go_quiet (fail);try go_wp2)
        go_ret
        exact ⟨ze,zv2 HB GE31 GE34⟩
       ·replace c24:=Bool.eq_false_iff.mpr c24;subst c24
        have H1:(ancepsref40_fails.l0 k2 (wrap64 (x5_1+1)) l0_0 l0_1 a1_0 a1_1)=some r:=by rw [if_neg (show ¬ (false=true) by decide)] at H;exact H
        clear H;have H:=H1;clear H1;have H':=zA H;clear H;have hnb27:=NB31_34.out;have hnc27:=NB34_31.out;have hcz28_0:=zc0 BK31;have hcz28_1:=zc1 BK31;have hfz28_0:=zf BK31
        go_wp2
        repeat (go_quiet (fail);try go_wp2)
        go_roundg k2
        case measure=>have:=HK1.out;have:=HK2.out;omega
        case rel=>exact ⟨(wrap64 (x5_1+1)),zT,H',⟨by have:=HK1.out;have:=HK2.out;omega⟩,⟨by refine zj ?_;exact BK31.out⟩,⟨by refine zj ?_;exact BK34.out⟩,⟨zv2 HB GE31 GE34⟩⟩
   ·obtain rfl:=Option.some.inj H;have hnb29:=NB31_34.out;have hnc29:=NB34_31.out;have hcz30_0:=zc0 BK31;have hcz30_1:=zc1 BK31;have hfz30_0:=zf BK31
    go_wp2
    repeat (go_quiet (fail);try go_wp2)
    go_ret
    exact ⟨ze,zv2 HB GE31 GE34⟩
def ancepsref40_choices_with.f (a0_0:Int) (a0_1:Int) (a1:Int) (a2:Int):Option (Int×Int):=if 0≤a1 then (some (Go.bits .or .i64 a0_0 (shl .i64 1 a1),Go.bits .or .i64 a0_1 (shl .i64 a2 a1))) else (none)
def ancepsref40_choices_with.T1:Bool×List (List Nat×List Nat):=(true,[([],[]),([0],[0]),([],[]),([2],[2]),([1,3],[1,3]),([],[]),([5],[5]),([],[]),([],[]),([7,8],[7,8]),([6,9],[6,9]),([4,10],[4,10]),([11,0,1,2,3,4,5,6,7,8,9,10,11],[11])])
def ancepsref40_choices_with.B1:List Nat:=[0,1,0,4,15,0,32,0,0,384,992,2047,4095]
theorem ancepsref40_choices_with.tab1:rtab .any (opsOf Tryz.f95 1)=ancepsref40_choices_with.T1:=by kernel_rfl
theorem ancepsref40_choices_with.bits1:waitsOk ancepsref40_choices_with.T1.2 ancepsref40_choices_with.B1=true:=by kernel_rfl
set_option maxHeartbeats 8000000 in
set_option maxRecDepth 100000 in
theorem ancepsref40_choices_with.calls (a0_0:Int) (a0_1:Int) (a1:Int) (a2:Int) (r1:Int) (r2:Int) (w:World) (h:ancepsref40_choices_with.f a0_0 a0_1 a1 a2=some (r1,r2)) :
  Calls Tryz.prog 95 #[.agg #[.int .i64 a0_0,.int .i64 a0_1],.int .i64 a1,.int .i64 a2] w fun e w'=>e=.returned (.agg #[.int .i64 r1,.int .i64 r2])∧Below w.heap.size w w':=by
 have HB:=zA (Below.refl w.heap.size w);have H:(if 0≤a1 then (some (Go.bits .or .i64 a0_0 (shl .i64 1 a1),Go.bits .or .i64 a0_1 (shl .i64 a2 a1))) else (none))=some (r1,r2):=h;clear h;obtain ⟨c4,H⟩:=if1 H;have c4b0:=eq_true c4;have c4b1:decide (0≤a1)=true:=decide_eq_true c4;clear c4;obtain ⟨ji5,hji5⟩:=zZ (shl .i64 1 a1)
 first|rw [hji5] at H|simp only [hji5] at H
 have hji5_:(IntKind.i64.wrap (1 * 2 ^ min a1.toNat 64))=ji5:=hji5;have hji5z:a1≤64→(IntKind.i64.wrap (1 * 2 ^ a1.toNat))=ji5:=shl_small hji5
 have hji5u:(IntKind.i64.wrap (2 ^ min a1.toNat 64))=ji5:=by have h_:=hji5_;rw [Int.one_mul] at h_;exact h_
 have hji5v:a1≤64→(IntKind.i64.wrap (2 ^ a1.toNat))=ji5:=fun hle_=>by have h_:=hji5z hle_;rw [Int.one_mul] at h_;exact h_
 have hji5y:(wrap64 (1 * 2 ^ min a1.toNat 64))=ji5:=(i64_w _).symm.trans hji5_
 have hji5x:a1≤64→(wrap64 (1 * 2 ^ a1.toNat))=ji5:=fun h_=>(i64_w _).symm.trans (hji5z h_)
 have c6b0:=eq_true (of_decide_eq_true zh:0≤a1);obtain ⟨ji7,hji7⟩:=zZ (shl .i64 a2 a1)
 first|rw [hji7] at H|simp only [hji7] at H
 have hji7_:(IntKind.i64.wrap (a2 * 2 ^ min a1.toNat 64))=ji7:=hji7;have hji7z:a1≤64→(IntKind.i64.wrap (a2 * 2 ^ a1.toNat))=ji7:=shl_small hji7;have hji7y:(wrap64 (a2 * 2 ^ min a1.toNat 64))=ji7:=(i64_w _).symm.trans hji7_
 have hji7x:a1≤64→(wrap64 (a2 * 2 ^ a1.toNat))=ji7:=fun h_=>(i64_w _).symm.trans (hji7z h_)
 simp only [Option.some.injEq,Prod.mk.injEq] at H;obtain ⟨rfl,rfl⟩:=H
 go_enter Tryz.func95,Tryz.ntmps95
 try go_wp2_with (first|((with_reducible refine gd 3 rfl ?_);refine zx #[.int .i64 a0_0,.int .i64 a0_1] 86 ?_;intro gb41 hg w8 BK41 hb GW41 HB1;have GE41:=GW41;clear HB hb hg;have HB:=HB1;clear HB1)|((with_reducible refine gd 6 rfl ?_);refine zx #[.int .i64 0,.int .i64 0] 86 ?_;intro gb39 hg w9 BK39 hb GW39 HB1;have GE39:=GW39;have NB41_39:=zL hg BK41;have NB39_41:=zLs NB41_39;replace BK41:=zw BK41 hb;clear HB hb hg;have HB:=HB1;clear HB1))
 replace BK41:=zA (blk_drew BK41.out);replace BK39:=zA (blk_drew BK39.out);replace HB:=zA (below_drew1 HB.out);refine start_ (n:=13) (S:=fun w'=>w'.cell? ⟨gb41,0,none⟩=some (.int .i64 a0_0)∧w'.cell? ⟨gb41,1,none⟩=some (.int .i64 a0_1)) (ds:=[]) (bz 13 0) zK rfl rfl ⟨zc0 BK41,zc1 BK41⟩ (fun hHeld=>?_);refine with_tabW ancepsref40_choices_with.tab1 ancepsref40_choices_with.bits1 (fun HT_ HW_=>?_)
 generalize w9.drew=w10 at BK41 BK39 HB hHeld ⊢
 refine zP 0 7 (bz 13 1) HT_ ?_;refine zP 2 9 (bz 13 5) HT_ ?_;refine zP 3 10 (bz 13 13) HT_ ?_;refine zP 5 12 (bz 13 45) HT_ ?_;refine zP 7 14 (bz 13 173) HT_ ?_;refine zP 8 15 (bz 13 429) HT_ ?_;refine zP 9 16 (bz 13 941) HT_ ?_;refine zQ 1 8 (bz 13 943) HT_ HW_ hHeld ?_;refine zP 4 11 (bz 13 959) HT_ ?_;refine zQ 6 13 (bz 13 1023) HT_ HW_ hHeld ?_;refine zP 10 17 (bz 13 2047) HT_ ?_;refine zP 11 18 (bz 13 4095) HT_ ?_;refine one_ (i:=12) (N:=none) (bz 13 8191) rfl rfl (one_of HT_.out zK) (by decide) (fun K hK=>?_);have hs11:w10.cell? ⟨gb39,0,none⟩=some (.int .i64 0):=zc0 BK39;have hfs11:=zf BK39 0;have hns11_0:=NB41_39.out;have hms11_0:=NB39_41.out;have hs12:w10.cell? ⟨gb39,1,none⟩=some (.int .i64 0):=zc1 BK39;have hfs12:=zf BK39 1;have hns12_0:=NB41_39.out;have hms12_0:=NB39_41.out;refine skip_ (w1:=?_) (by rfl) rfl ?_ ?_;rotate_left
 ·go_simp
  rfl
 refine hK.out _ _ ⟨((cell_far (p:=⟨gb39,_,none⟩) NB41_39.out _).trans (((cell_far (p:=⟨gb39,_,none⟩) NB41_39.out _).trans (hHeld.1)))),((cell_far (p:=⟨gb39,_,none⟩) NB41_39.out _).trans (((cell_far (p:=⟨gb39,_,none⟩) NB41_39.out _).trans (hHeld.2))))⟩ (fun hHeld=>?_);clear hK K;refine done_ (done_of HT_.out zK) ?_
 try go_wp2
 refine bodyPost_ret (results_cell_row rfl _ _ gb39 86 #[.int .i64 (Go.bits .or .i64 a0_0 (ji5)),.int .i64 (Go.bits .or .i64 a0_1 (ji7))] (0,0) _ rfl (by refine zj ?_;refine blk_put (cs:=#[.int .i64 (Go.bits .or .i64 a0_0 (ji5)),.int .i64 0]) ?_ 1 _ rfl;refine zj ?_;refine blk_put (cs:=#[.int .i64 0,.int .i64 0]) ?_ 0 _ rfl;refine zj ?_;exact BK39.out) Tryz.underlying86 rfl zK) rfl ?_;exact ⟨by first|rfl|(simp [errW_none,errW_some] <;> rfl)|(simp only [← hji5,← hji7];first|rfl|(simp [errW_none,errW_some] <;> rfl))|(simp [*,errW_none,errW_some] <;> rfl),zv2 HB GE41 GE39⟩
end Go.Proofs.YtkjghablbeaioaaGreat.B
