import Derived.Test.YtkjghablbeaioaaG0
import Derived.Test.YtkjghablbeaioaaG1
import Derived.Test.YtkjghablbeaioaaG4
namespace Go.Proofs.Ytkjghablbeaioaa.G
open Go.RowKit Go.Proofs.YtkjghablbeaioaaW.PrintWords Go.Proofs.YtkjghablbeaioaaW.PrintLast Go.Proofs.YtkjghablbeaioaaW.PrintMore
attribute [local go_sem] max2_int min2_int max_two min_two max_three min_three max_four min_four
set_option linter.unusedVariables false
set_option linter.unusedSimpArgs false
mutual
def conflict_least_conflict_Cores_1.l0:Nat→Int→List (List Int)→Int→Int→List (S50)→Option ((List (List Int)))
 | 0,_,_,_,_,_=>none
 | k+1,x0,x5,x10,x11,x333000=>if x11<x10 then ((conflict_sets.f k x0 x11).bind fun t333=>(conflict_least_conflict_Cores_1.l1 k x0 x5 x10 x11 t333 (t333.length:Int) 0 x333000)) else (some x5)
def conflict_least_conflict_Cores_1.l1:Nat→Int→List (List Int)→Int→Int→List (List Int)→Int→Int→List (S50)→Option ((List (List Int)))
 | 0,_,_,_,_,_,_,_,_=>none
 | k+1,x0,x5,x10,x11,x16,x17,x18,x333000=>if x18<x17 then (if 0≤x18 then (if x18<(x16.length:Int) then ((slices_ContainsFunc_int_int_conflict_least_1.f k x5 (rd_L1 x16 x18)).bind fun t338=>(if t338=true then (conflict_least_conflict_Cores_1.l1 k x0 x5 x10 x11 x16 x17 (wrap64 (x18+1)) x333000) else ((conflict_Cores_1_v1.f k (rd_L1 x16 x18) x333000).bind fun t339=>(if t339=true then (if x5.length<5864062014805 then (conflict_least_conflict_Cores_1.l1 k x0 (x5++[rd_L1 x16 x18]) x10 x11 x16 x17 (wrap64 (x18+1)) x333000) else (none)) else (conflict_least_conflict_Cores_1.l1 k x0 x5 x10 x11 x16 x17 (wrap64 (x18+1)) x333000))))) else (none)) else (none)) else (conflict_least_conflict_Cores_1.l0 k x0 x5 x10 (wrap64 (x11+1)) x333000)
end
def conflict_least_conflict_Cores_1.f (k:Nat) (a0:Int) (l1_0:List (S50)):Option ((List (List Int))):=conflict_least_conflict_Cores_1.l0 k a0 ([]:List (List Int)) (wrap64 (a0+1)) 0 l1_0
theorem conflict_least_conflict_Cores_1.mono_l:∀ k,(∀ y0 y1 y2 y3 y4,LeO (conflict_least_conflict_Cores_1.l0 k y0 y1 y2 y3 y4) (conflict_least_conflict_Cores_1.l0 (k+1) y0 y1 y2 y3 y4))∧(∀ y0 y1 y2 y3 y4 y5 y6 y7,LeO (conflict_least_conflict_Cores_1.l1 k y0 y1 y2 y3 y4 y5 y6 y7) (conflict_least_conflict_Cores_1.l1 (k+1) y0 y1 y2 y3 y4 y5 y6 y7))
 | 0=>⟨fun _ _ _ _ _ r h=>by simp [conflict_least_conflict_Cores_1.l0] at h,fun _ _ _ _ _ _ _ _ r h=>by simp [conflict_least_conflict_Cores_1.l1] at h⟩
 | k+1=>by
  obtain ⟨ih0,ih1⟩:=conflict_least_conflict_Cores_1.mono_l k
  refine ⟨?_,?_⟩
  ·intro y0 y1 y2 y3 y4
   unfold conflict_least_conflict_Cores_1.l0
   repeat' first
   | (with_reducible exact ih0 _ _ _ _ _)
   | (with_reducible exact ih1 _ _ _ _ _ _ _ _)
   | (with_reducible exact conflict_Cores_1_v1.mono _ _ _)
   | (with_reducible exact conflict_sets.mono _ _ _)
   | (with_reducible exact slices_ContainsFunc_int_int_conflict_least_1.mono _ _ _)
   | (with_reducible exact LeO.refl _)
   | (with_reducible exact LeO.none _)
   | (with_reducible refine LeO.ite ?_ ?_)
   | (with_reducible refine LeO.bind ?_ (fun _=>?_))
   | exact LeO.none _
   | refine LeO.ite ?_ ?_
   | refine LeO.bind ?_ (fun _=>?_)
  ·intro y0 y1 y2 y3 y4 y5 y6 y7
   unfold conflict_least_conflict_Cores_1.l1
   repeat' first
   | (with_reducible exact ih0 _ _ _ _ _)
   | (with_reducible exact ih1 _ _ _ _ _ _ _ _)
   | (with_reducible exact conflict_Cores_1_v1.mono _ _ _)
   | (with_reducible exact conflict_sets.mono _ _ _)
   | (with_reducible exact slices_ContainsFunc_int_int_conflict_least_1.mono _ _ _)
   | (with_reducible exact LeO.refl _)
   | (with_reducible exact LeO.none _)
   | (with_reducible refine LeO.ite ?_ ?_)
   | (with_reducible refine LeO.bind ?_ (fun _=>?_))
   | exact LeO.none _
   | refine LeO.ite ?_ ?_
   | refine LeO.bind ?_ (fun _=>?_)
theorem conflict_least_conflict_Cores_1.mono:∀ a0 a1 k,LeO (conflict_least_conflict_Cores_1.f k a0 a1) (conflict_least_conflict_Cores_1.f (k+1) a0 a1):=by
 intro a0 a1 k
 obtain ⟨ih0,ih1⟩:=conflict_least_conflict_Cores_1.mono_l k
 unfold conflict_least_conflict_Cores_1.f
 repeat' first
   | (with_reducible exact ih0 _ _ _ _ _)
   | (with_reducible exact ih1 _ _ _ _ _ _ _ _)
   | (with_reducible exact conflict_Cores_1_v1.mono _ _ _)
   | (with_reducible exact conflict_sets.mono _ _ _)
   | (with_reducible exact slices_ContainsFunc_int_int_conflict_least_1.mono _ _ _)
   | (with_reducible exact LeO.refl _)
   | (with_reducible exact LeO.none _)
   | (with_reducible refine LeO.ite ?_ ?_)
   | (with_reducible refine LeO.bind ?_ (fun _=>?_))
   | exact LeO.none _
   | refine LeO.ite ?_ ?_
   | refine LeO.bind ?_ (fun _=>?_)
set_option maxHeartbeats 8000000 in
set_option maxRecDepth 100000 in
theorem conflict_least_conflict_Cores_1.calls (k:Nat) (a0:Int) (gp1_0:Nat) (A1_0:Option Addr) (c1_0:Nat) (l1_0:List (S50)) (r:List (List Int)) (w:World) (hr1_0:Kd.C k50 w A1_0 l1_0.length l1_0) (hc1_0:l1_0.length≤c1_0) (hb_gp1_0:w.heap[gp1_0]?=some (.cells #[.slice A1_0 l1_0.length c1_0] 22 (0,0))) (h:conflict_least_conflict_Cores_1.f k a0 l1_0=some r) :
  Calls Try.prog 41 #[.int .i64 a0,.func (.func 42) #[] #[.pointer (some ⟨gp1_0,0,none⟩)]] w fun e w'=>∃ v0_:Value,e=.returned (v0_)∧Kd.N (Kd.slice 3 (Kd.int .i64)) 30 w' w.heap.size (fun k_=>(w.heap.size≤k_)) v0_ r∧Below w.heap.size w w':=by
 have hu30:=Try.underlying30
 have HR1_0:=zA hr1_0
 have HC1_0:=zA hc1_0
 clear hr1_0 hc1_0
 have BK332:=zA hb_gp1_0
 clear hb_gp1_0
 have HB:=zA (Below.refl w.heap.size w)
 have H:(conflict_least_conflict_Cores_1.l0 k a0 ([]:List (List Int)) (wrap64 (a0+1)) 0 l1_0)=some r:=h
 clear h
 have H':=zA H
 clear H
 go_enter Try.func41,Try.ntmps41
 go_wp2
 go_loopg [5,11] k (fun kq v5 v11 w'=>∃ (x5_1:List (List Int)) (x11_1:Int),v11=.int .i64 x11_1∧Aside0 (conflict_least_conflict_Cores_1.l0 kq a0 x5_1 (wrap64 (a0+1)) x11_1 l1_0=some r)∧Aside0 (kq≤k)∧Aside0 (Kd.N (Kd.slice 3 (Kd.int .i64)) 30 w' w.heap.size (fun k_=>(w.heap.size≤k_)∧k_≠gp1_0) v5 x5_1)∧Aside0 (w'.heap[gp1_0]?=some (.cells #[(.slice A1_0 l1_0.length c1_0)] 22 (0,0)))∧Aside0 (Below w.heap.size w w'))
 case atStart=>exact ⟨(([]:List (List Int))),(0),zT,H',⟨Nat.le_refl _⟩,⟨by first|exact Kd.S_nil _ _ _ _ _|exact Kd.N_nil _ _ _ _ _|exact Kd.V_nil _ _ _ _ _|exact Kd.Q_nil _ _ _ _ _|exact Kd.R_nil _ _ _ _ _⟩,⟨by refine zj ?_;exact BK332.out⟩,⟨by repeat (first|(with_reducible first|exact HB.out|apply below_alloc|apply pw_below_drewN|apply below_drew1|refine below_set ?_ GE332.out)|exact HB.out)⟩⟩
 case round=>
  clear H'
  obtain ⟨x5_1,x11_1,rfl,HA,HK1,HO_5,BK332,HB⟩:=hrel
  cases gk with
  | zero=>exact absurd HA.out (by simp [conflict_least_conflict_Cores_1.l0])
  | succ k1=>
   have H:=HA.out
   clear HA
   simp only [conflict_least_conflict_Cores_1.l0] at H
   rcases ifd H with ⟨c3b0,H⟩|⟨c3b0,H⟩
   ·obtain ⟨t333,A4,H⟩:=zo H
    have H':=zA H
    clear H
    go_wp2_with (first|((with_reducible refine gate_callee (f:=66) rfl ?_);refine goesL_ (some 16) rfl rfl Try.func66 zK rfl #[.int .i64 a0,.int .i64 x11_1] rfl zM ?_;(with_reducible refine (conflict_sets.calls k1 a0 x11_1 t333 _ A4.out).mono ?_);rintro e w5 ⟨v334,rfl,ho0,hb⟩;refine ⟨_,rfl,?_⟩;have HO335:=zA (Kd.N_lower (Kd.N_mono (ok':=fun k_=>(w.heap.size≤k_)∧some k_≠(u5:Value).ownBlock∧k_≠gp1_0) (Kd.S_N (Kd.S_bound ho0)) (fun k_ hk_=>⟨(Nat.le_trans (below_size zB) hk_.2.1),(Kd.fresh' (Kd.N_lt (zN HO_5)) k_ hk_.2.1),(Kd.freshB (g:=gp1_0) (o:=.cells #[.slice A1_0 l1_0.length c1_0] 22 (0,0)) (zk BK332) k_ hk_.2.1)⟩)) (below_size zB));replace HO_5:=zA (Kd.N_elder' (zN HO_5) (Kd.N_base (Kd.S_N ho0)) hb);replace BK332:=zw BK332 hb;replace HB:=zu hb;clear hb;(try clear ho0);obtain ⟨Ao6,co6,eo6⟩:=Kd.N_slice HO335.out;subst eo6))
    go_loopg [5,18] k1 (fun kq v5 v18 w'=>∃ (x5_2:List (List Int)) (x18_2:Int),v18=.int .i64 x18_2∧Aside0 (conflict_least_conflict_Cores_1.l1 kq a0 x5_2 (wrap64 (a0+1)) x11_1 t333 (t333.length:Int) x18_2 l1_0=some r)∧Aside0 (kq≤k1)∧Aside0 (Kd.N (Kd.slice 3 (Kd.int .i64)) 30 w' w.heap.size (fun k_=>(w.heap.size≤k_)∧some k_≠((.slice Ao6 t333.length co6):Value).ownBlock∧k_≠gp1_0) v5 x5_2)∧Aside0 (Kd.N (Kd.slice 3 (Kd.int .i64)) 30 w' w.heap.size (fun k_=>(w.heap.size≤k_)∧some k_≠(v5:Value).ownBlock∧k_≠gp1_0) (.slice Ao6 t333.length co6) t333)∧Aside0 (w'.heap[gp1_0]?=some (.cells #[(.slice A1_0 l1_0.length c1_0)] 22 (0,0)))∧Aside0 (Below w.heap.size w w'))
    case atStart=>exact ⟨(x5_1),(0),zT,H',⟨Nat.le_refl _⟩,⟨by (with_reducible repeat (first|apply Kd.N_alloc|apply Kd.N_drewN|apply Kd.N_drew));exact Kd.N_mono HO_5.out (fun _ hk=>⟨hk.1.1,⟨hk.2,hk.1.2⟩⟩)⟩,⟨by (with_reducible repeat (first|apply Kd.N_alloc|apply Kd.N_drewN|apply Kd.N_drew));exact HO335.out⟩,⟨by refine zj ?_;exact BK332.out⟩,⟨by repeat (first|(with_reducible first|exact HB.out|apply below_alloc|apply pw_below_drewN|apply below_drew1|refine below_set ?_ GE332.out)|exact HB.out)⟩⟩
    case round=>
     clear H'
     try clear c3
     try clear c3b0
     obtain ⟨x5_2,x18_2,rfl,HA,HK2,HO_5,HO_16,BK332,HB⟩:=hrel
     cases gk with
     | zero=>exact absurd HA.out (by simp [conflict_least_conflict_Cores_1.l1])
     | succ k2=>
      have H:=HA.out
      clear HA
      simp only [conflict_least_conflict_Cores_1.l1] at H
      rcases ifd H with ⟨c7b0,H⟩|⟨c7b0,H⟩
      ·obtain ⟨c8b0,H⟩:=ifd1 H
       obtain ⟨c9b0,H⟩:=ifd1 H
       have HC10:=zA H
       clear H
       obtain ⟨p336,q336,ad336,A336_0,c336_0,e336,hx336_0,hl336_0,hi336_0⟩:=zp (at_L1 (Kd.N_reads' HO_16.out).2.2 x18_2)
       cases e336
       obtain ⟨ce336,hce336,hMe336,hcc336⟩:=Kd.N_get HO_16.out [] x18_2 p336 (by first|exact q336|exact of_decide_eq_true zh|(have e_:=(Kd.N_reads' HO_16.out).1;omega))
       obtain ⟨ua336_0,uc336_0,rfl,ul336_0,ge336_0⟩:=Kd.FK_slice_open hMe336
       have hv336_0:=hcc336 0 _ rfl
       rw [Nat.add_zero,show ((Kd.slice 3 (Kd.int .i64))).sz=1 from rfl,Nat.mul_one] at hv336_0
       replace hv336_0:=Option.some.inj (hv336_0.symm.trans hx336_0)
       injection hv336_0 with hva_ hvn_ hvc_
       rw [hva_] at ge336_0
       rw [hvc_] at ul336_0
       have HL336_0:=zA (show Kd.V (Kd.int .i64) 3 _ w.heap.size _ _ (rd_L1 t333 x18_2) from Kd.V_mk ul336_0 ge336_0)
       clear hva_ hvn_ hvc_ ge336_0 ul336_0
       clear hcc336 hce336
       have HR336_0:=zA hi336_0
       have HC336_0:=zA hl336_0
       clear hi336_0 hl336_0
       replace p336:=eq_true p336
       replace q336:=eq_true q336
       go_upto_region 8 with (first|((with_reducible refine gd 8 rfl ?_);refine zx #[.slice none 0 0] 30 (h:=?_);intro gb337 hg w11 BK337 hb GW337 HB1;have GE337:=GW337;have NB332_337:=zL hg BK332;have NB337_332:=zLs NB332_337;replace HO_5:=zA (Kd.N_below (Kd.N_elderB (zN HO_5) gb337 (Nat.le_of_eq hg.symm)) hb);replace HO_16:=zA (Kd.N_below (Kd.N_elderB (zN HO_16) gb337 (Nat.le_of_eq hg.symm)) hb);replace BK332:=zw BK332 hb;replace HR336_0:=zA (Kd.C_below ((Kd.V_reads' HL336_0.out).2.2) hb);replace HL336_0:=zA (Kd.V_below (Kd.V_elderB (by (with_reducible repeat (first|apply Kd.V_alloc|apply Kd.V_drewN|apply Kd.V_drew));exact HL336_0.out) gb337 (Nat.le_of_eq hg.symm)) hb);clear HB hb hg;have HB:=HB1;clear HB1;have hnb12:=NB337_332.out;have hnc12:=NB332_337.out;have hcz13_0:=zc0 BK337;have hfz13_0:=zf BK337 0))
       (try simp only [Act.put,zi,zs,zt])
       have H:=HC10.out
       clear HC10
       obtain ⟨t338,A14,H⟩:=zo H
       by_cases c15:t338=true
       ·subst c15
        have H1:(conflict_least_conflict_Cores_1.l1 k2 a0 x5_2 (wrap64 (a0+1)) x11_1 t333 (t333.length:Int) (wrap64 (x18_2+1)) l1_0)=some r:=by rw [if_pos rfl] at H;exact H
        clear H
        have H:=H1
        clear H1
        have H':=zA H
        clear H
        obtain ⟨Ao16,co16,eo16⟩:=Kd.N_slice HO_5.out
        subst eo16
        go_wp2_with (first|((with_reducible refine gate_callee (f:=23) rfl ?_);refine goesL_ (some 24) rfl rfl Try.func23 zK rfl #[.slice Ao16 x5_2.length co16,.func (.func 76) #[] #[.pointer (some ⟨gb337,0,none⟩)]] rfl zM ?_;(with_reducible refine (slices_ContainsFunc_int_int_conflict_least_1.calls k2 _ _ x5_2 gb337 A336_0 c336_0 (rd_L1 t333 x18_2) true _ ?side1 ?side2 ?side3 HC336_0.out ?side5 A14.out).mono ?_);(case side1=>refine (Kd.N_reads' (e:=30) (base:=w.heap.size) (ok:=fun k_=>(((w.heap.size≤k_)∧(some k_≠(.slice (some ad336) t333.length co6:Value).ownBlock∧k_≠gp1_0))∧k_≠gb337)) (n:=x5_2.length) (c:=co16) ?_).2.2;exact (by (with_reducible repeat (first|apply Kd.N_alloc|apply Kd.N_drewN|apply Kd.N_drew));exact (Kd.N_mono (Kd.N_far (p:=⟨gb337,0,none⟩) (Kd.N_mono HO_5.out (fun k_ hk=>(⟨hk,hk.2⟩:_∧k_≠gb337))) (fun _ hk=>hk.2) (.slice A336_0 (rd_L1 t333 x18_2).length c336_0)) (fun _ h_=>h_.1))));(case side2=>exact (Kd.N_reads' HO_5.out).2.1);(case side3=>repeat (first|exact ((Kd.V_reads' (by (with_reducible repeat (first|apply Kd.V_alloc|apply Kd.V_drewN|apply Kd.V_drew));exact (Kd.V_mono (Kd.V_far (p:=⟨gb337,0,none⟩) (Kd.V_mono HL336_0.out (fun k_ hk=>(⟨hk,hk.2⟩:_∧k_≠gb337))) (fun _ hk=>hk.2) (.slice A336_0 (rd_L1 t333 x18_2).length c336_0)) (fun _ h_=>h_.1)))).2.2)|(with_reducible refine Kd.C_alloc ?_ _)|(with_reducible refine Kd.C_drewN ?_ _)|(with_reducible refine Kd.C_drew ?_)));(case side5=>refine zj ?_;refine blk_put (cs:=#[.slice none 0 0]) ?_ 0 _ rfl;refine zj ?_;exact BK337.out);rintro e w17 ⟨rfl,hb⟩;refine ⟨_,rfl,?_⟩;replace HO_5:=zA (Kd.N_below (by (with_reducible repeat (first|apply Kd.N_alloc|apply Kd.N_drewN|apply Kd.N_drew));exact (Kd.N_mono (Kd.N_far (p:=⟨gb337,0,none⟩) (Kd.N_mono HO_5.out (fun k_ hk=>(⟨hk,hk.2⟩:_∧k_≠gb337))) (fun _ hk=>hk.2) (.slice A336_0 (rd_L1 t333 x18_2).length c336_0)) (fun _ h_=>h_.1))) hb);replace HO_16:=zA (Kd.N_below (by (with_reducible repeat (first|apply Kd.N_alloc|apply Kd.N_drewN|apply Kd.N_drew));exact (Kd.N_mono (Kd.N_far (p:=⟨gb337,0,none⟩) (Kd.N_mono HO_16.out (fun k_ hk=>(⟨hk,hk.2⟩:_∧k_≠gb337))) (fun _ hk=>hk.2) (.slice A336_0 (rd_L1 t333 x18_2).length c336_0)) (fun _ h_=>h_.1))) hb);replace BK332:=zA (blk_below (g:=gp1_0) (o:=.cells #[.slice A1_0 l1_0.length c1_0] 22 (0,0)) (by refine zj ?_;refine blk_far ?_ NB332_337.out _;refine zj ?_;exact BK332.out) hb);replace HR336_0:=zA (Kd.C_below ((Kd.V_reads' (by (with_reducible repeat (first|apply Kd.V_alloc|apply Kd.V_drewN|apply Kd.V_drew));exact (Kd.V_mono (Kd.V_far (p:=⟨gb337,0,none⟩) (Kd.V_mono HL336_0.out (fun k_ hk=>(⟨hk,hk.2⟩:_∧k_≠gb337))) (fun _ hk=>hk.2) (.slice A336_0 (rd_L1 t333 x18_2).length c336_0)) (fun _ h_=>h_.1)))).2.2) hb);replace HL336_0:=zA (Kd.V_below (by (with_reducible repeat (first|apply Kd.V_alloc|apply Kd.V_drewN|apply Kd.V_drew));exact (Kd.V_mono (Kd.V_far (p:=⟨gb337,0,none⟩) (Kd.V_mono HL336_0.out (fun k_ hk=>(⟨hk,hk.2⟩:_∧k_≠gb337))) (fun _ hk=>hk.2) (.slice A336_0 (rd_L1 t333 x18_2).length c336_0)) (fun _ h_=>h_.1))) hb);replace BK337:=zA (blk_below (g:=gb337) (o:=.cells #[.slice A336_0 (rd_L1 t333 x18_2).length c336_0] 30 (0,0)) (by refine zj ?_;refine blk_put (cs:=#[.slice none 0 0]) ?_ 0 _ rfl;refine zj ?_;exact BK337.out) hb);replace HB:=zu hb;clear hb))
        go_roundg k2
        case measure=>have:=HK1.out;have:=HK2.out;omega
        case rel=>exact ⟨(x5_2),(wrap64 (x18_2+1)),zT,H',⟨by have:=HK1.out;have:=HK2.out;omega⟩,⟨by (with_reducible repeat (first|apply Kd.N_alloc|apply Kd.N_drewN|apply Kd.N_drew));exact Kd.N_mono HO_5.out (fun _ hk=>⟨hk.1.1,⟨hk.1.2.1,hk.1.2.2⟩⟩)⟩,⟨by (with_reducible repeat (first|apply Kd.N_alloc|apply Kd.N_drewN|apply Kd.N_drew));exact Kd.N_mono HO_16.out (fun _ hk=>⟨hk.1.1,⟨hk.1.2.1,hk.1.2.2⟩⟩)⟩,⟨by refine zj ?_;exact BK332.out⟩,⟨by repeat (first|(with_reducible first|exact HB.out|apply below_alloc|apply pw_below_drewN|apply below_drew1|refine below_set ?_ GE332.out|refine below_set ?_ GE337.out)|exact HB.out)⟩⟩
       ·replace c15:=Bool.eq_false_iff.mpr c15
        subst c15
        have H1:((conflict_Cores_1_v1.f k2 (rd_L1 t333 x18_2) l1_0).bind fun t339=>(if t339=true then (if x5_2.length<5864062014805 then (conflict_least_conflict_Cores_1.l1 k2 a0 (x5_2++[rd_L1 t333 x18_2]) (wrap64 (a0+1)) x11_1 t333 (t333.length:Int) (wrap64 (x18_2+1)) l1_0) else (none)) else (conflict_least_conflict_Cores_1.l1 k2 a0 x5_2 (wrap64 (a0+1)) x11_1 t333 (t333.length:Int) (wrap64 (x18_2+1)) l1_0)))=some r:=by rw [if_neg (show ¬ (false=true) by decide)] at H;exact H
        clear H
        have H:=H1
        clear H1
        obtain ⟨t339,A18,H⟩:=zo H
        have HC19:=zA H
        clear H
        obtain ⟨Ao20,co20,eo20⟩:=Kd.N_slice HO_5.out
        subst eo20
        go_upto_if 30 with (first|((with_reducible refine gate_callee (f:=23) rfl ?_);refine goesL_ (some 24) rfl rfl Try.func23 zK rfl #[.slice Ao20 x5_2.length co20,.func (.func 76) #[] #[.pointer (some ⟨gb337,0,none⟩)]] rfl zM ?_;(with_reducible refine (slices_ContainsFunc_int_int_conflict_least_1.calls k2 _ _ x5_2 gb337 A336_0 c336_0 (rd_L1 t333 x18_2) false _ ?side1 ?side2 ?side3 HC336_0.out ?side5 A14.out).mono ?_);(case side1=>refine (Kd.N_reads' (e:=30) (base:=w.heap.size) (ok:=fun k_=>(((w.heap.size≤k_)∧(some k_≠(.slice (some ad336) t333.length co6:Value).ownBlock∧k_≠gp1_0))∧k_≠gb337)) (n:=x5_2.length) (c:=co20) ?_).2.2;exact (by (with_reducible repeat (first|apply Kd.N_alloc|apply Kd.N_drewN|apply Kd.N_drew));exact (Kd.N_mono (Kd.N_far (p:=⟨gb337,0,none⟩) (Kd.N_mono HO_5.out (fun k_ hk=>(⟨hk,hk.2⟩:_∧k_≠gb337))) (fun _ hk=>hk.2) (.slice A336_0 (rd_L1 t333 x18_2).length c336_0)) (fun _ h_=>h_.1))));(case side2=>exact (Kd.N_reads' HO_5.out).2.1);(case side3=>repeat (first|exact ((Kd.V_reads' (by (with_reducible repeat (first|apply Kd.V_alloc|apply Kd.V_drewN|apply Kd.V_drew));exact (Kd.V_mono (Kd.V_far (p:=⟨gb337,0,none⟩) (Kd.V_mono HL336_0.out (fun k_ hk=>(⟨hk,hk.2⟩:_∧k_≠gb337))) (fun _ hk=>hk.2) (.slice A336_0 (rd_L1 t333 x18_2).length c336_0)) (fun _ h_=>h_.1)))).2.2)|(with_reducible refine Kd.C_alloc ?_ _)|(with_reducible refine Kd.C_drewN ?_ _)|(with_reducible refine Kd.C_drew ?_)));(case side5=>refine zj ?_;refine blk_put (cs:=#[.slice none 0 0]) ?_ 0 _ rfl;refine zj ?_;exact BK337.out);rintro e w21 ⟨rfl,hb⟩;refine ⟨_,rfl,?_⟩;replace HO_5:=zA (Kd.N_below (by (with_reducible repeat (first|apply Kd.N_alloc|apply Kd.N_drewN|apply Kd.N_drew));exact (Kd.N_mono (Kd.N_far (p:=⟨gb337,0,none⟩) (Kd.N_mono HO_5.out (fun k_ hk=>(⟨hk,hk.2⟩:_∧k_≠gb337))) (fun _ hk=>hk.2) (.slice A336_0 (rd_L1 t333 x18_2).length c336_0)) (fun _ h_=>h_.1))) hb);replace HO_16:=zA (Kd.N_below (by (with_reducible repeat (first|apply Kd.N_alloc|apply Kd.N_drewN|apply Kd.N_drew));exact (Kd.N_mono (Kd.N_far (p:=⟨gb337,0,none⟩) (Kd.N_mono HO_16.out (fun k_ hk=>(⟨hk,hk.2⟩:_∧k_≠gb337))) (fun _ hk=>hk.2) (.slice A336_0 (rd_L1 t333 x18_2).length c336_0)) (fun _ h_=>h_.1))) hb);replace BK332:=zA (blk_below (g:=gp1_0) (o:=.cells #[.slice A1_0 l1_0.length c1_0] 22 (0,0)) (by refine zj ?_;refine blk_far ?_ NB332_337.out _;refine zj ?_;exact BK332.out) hb);replace HR336_0:=zA (Kd.C_below ((Kd.V_reads' (by (with_reducible repeat (first|apply Kd.V_alloc|apply Kd.V_drewN|apply Kd.V_drew));exact (Kd.V_mono (Kd.V_far (p:=⟨gb337,0,none⟩) (Kd.V_mono HL336_0.out (fun k_ hk=>(⟨hk,hk.2⟩:_∧k_≠gb337))) (fun _ hk=>hk.2) (.slice A336_0 (rd_L1 t333 x18_2).length c336_0)) (fun _ h_=>h_.1)))).2.2) hb);replace HL336_0:=zA (Kd.V_below (by (with_reducible repeat (first|apply Kd.V_alloc|apply Kd.V_drewN|apply Kd.V_drew));exact (Kd.V_mono (Kd.V_far (p:=⟨gb337,0,none⟩) (Kd.V_mono HL336_0.out (fun k_ hk=>(⟨hk,hk.2⟩:_∧k_≠gb337))) (fun _ hk=>hk.2) (.slice A336_0 (rd_L1 t333 x18_2).length c336_0)) (fun _ h_=>h_.1))) hb);replace BK337:=zA (blk_below (g:=gb337) (o:=.cells #[.slice A336_0 (rd_L1 t333 x18_2).length c336_0] 30 (0,0)) (by refine zj ?_;refine blk_put (cs:=#[.slice none 0 0]) ?_ 0 _ rfl;refine zj ?_;exact BK337.out) hb);replace HB:=zu hb;clear hb;have hnb22:=NB337_332.out;have hnc22:=NB332_337.out;have hcz23_0:=zc0 BK337;have hfz23_0:=zf BK337 0)|(go_at_call 42;(with_reducible refine (conflict_Cores_1_v1.calls k2 _ _ (rd_L1 t333 x18_2) gp1_0 A1_0 c1_0 l1_0 t339 _ ?side1 HC336_0.out (zD HR1_0 HB) HC1_0.out ?side5 A18.out).mono ?_);(case side1=>exact zC ((Kd.V_reads' HL336_0.out).2.2));(case side5=>refine zj ?_;exact BK332.out);rintro e w24 ⟨rfl,hb⟩;replace HO_5:=zA (Kd.N_below (zN HO_5) hb);replace HO_16:=zA (Kd.N_below (zN HO_16) hb);replace BK332:=zw BK332 hb;replace HR336_0:=zA (Kd.C_below ((Kd.V_reads' HL336_0.out).2.2) hb);replace HL336_0:=zA (Kd.V_below (by (with_reducible repeat (first|apply Kd.V_alloc|apply Kd.V_drewN|apply Kd.V_drew));exact HL336_0.out) hb);replace BK337:=zw BK337 hb;replace HB:=zu hb;clear hb))
        (try simp only [Act.put,zi,zs,zt])
        have H:=HC19.out
        clear HC19
        by_cases c25:t339=true
        ·subst c25
         have H1:(if x5_2.length<5864062014805 then (conflict_least_conflict_Cores_1.l1 k2 a0 (x5_2++[rd_L1 t333 x18_2]) (wrap64 (a0+1)) x11_1 t333 (t333.length:Int) (wrap64 (x18_2+1)) l1_0) else (none))=some r:=by rw [if_pos rfl] at H;exact H
         clear H
         have H:=H1
         clear H1
         obtain ⟨c26,H⟩:=if1 H
         have LMc26:=zA c26
         clear c26
         first|(replace H:=zyb (x5_2++[rd_L1 t333 x18_2]) H;obtain ⟨y340,Ny340,H⟩:=H)|(obtain ⟨y340,hy340⟩:=zY (x5_2++[rd_L1 t333 x18_2]);(try rw (occs:=.pos [1]) [← hy340] at H);have Ny340:=zA hy340;clear hy340)
         have H':=zA H
         clear H
         have hnb27:=NB337_332.out
         have hnc27:=NB332_337.out
         have hcz28_0:=zc0 BK337
         have hfz28_0:=zf BK337 0
         go_wp2_with (first|((with_reducible refine gate_builtin (b:=.append) (xs:=#[.tmp 31,.tmp 33]) rfl ?_);at_builtin;refine Kd.N_append (Kd.slice 3 (Kd.int .i64)) (w0:=w) w.heap.size rfl (.tmp 31) (.tmp 33) 25 30 (.slice none 0 0) 24 rfl Try.underlying25 info30 rfl (by decide) (by omega) (.slice Ao20 x5_2.length co20) x5_2 (rd_L1 t333 x18_2) [.slice A336_0 (rd_L1 t333 x18_2).length c336_0] (fun k_=>(w.heap.size≤k_)∧some k_≠(.slice (some ad336) t333.length co6:Value).ownBlock∧k_≠gp1_0∧k_≠gb337) (fun k_=>((fun k_=>(w.heap.size≤k_)∧some k_≠(.slice (some ad336) t333.length co6:Value).ownBlock∧k_≠gp1_0∧k_≠gb337)) k_∧some k_≠(.slice Ao20 x5_2.length co20:Value).ownBlock) rfl rfl ?aP (fun _ hk=>hk) ?aF ?aO ?aB ?aS ?aL ?_;(case aP=>exact (Kd.FK_slice_mk (Kd.V_reads' (Kd.V_mono (ok':=(fun k_=>((fun k_=>(w.heap.size≤k_)∧some k_≠(.slice (some ad336) t333.length co6:Value).ownBlock∧k_≠gp1_0∧k_≠gb337)) k_∧some k_≠(.slice Ao20 x5_2.length co20:Value).ownBlock)) (HL336_0.out) (fun k_ hk=>⟨⟨hk.1.1.1,⟨hk.1.2,⟨hk.1.1.2.2,hk.2⟩⟩⟩,hk.1.1.2.1⟩))).2.1 (Kd.V_F (Kd.V_mono (ok':=(fun k_=>((fun k_=>(w.heap.size≤k_)∧some k_≠(.slice (some ad336) t333.length co6:Value).ownBlock∧k_≠gp1_0∧k_≠gb337)) k_∧some k_≠(.slice Ao20 x5_2.length co20:Value).ownBlock)) (HL336_0.out) (fun k_ hk=>⟨⟨hk.1.1.1,⟨hk.1.2,⟨hk.1.1.2.2,hk.2⟩⟩⟩,hk.1.1.2.1⟩)))));(case aB=>exact zB);(case aF=>exact (fun k_ hk=>⟨(Nat.le_trans (below_size zB) hk),Kd.fresh' (Kd.N_lt (zN HO_16)) k_ hk,Kd.freshB (g:=gp1_0) (o:=.cells #[.slice A1_0 l1_0.length c1_0] 22 (0,0)) (zk BK332) k_ hk,Kd.freshB (g:=gb337) (o:=.cells #[.slice A336_0 (rd_L1 t333 x18_2).length c336_0] 30 (0,0)) (zk BK337) k_ hk⟩));(case aO=>exact (by (with_reducible repeat (first|apply Kd.N_alloc|apply Kd.N_drewN|apply Kd.N_drew));exact Kd.N_mono HO_5.out (fun _ hk=>⟨hk.1.1,⟨hk.1.2.1,⟨hk.1.2.2,hk.2⟩⟩⟩)));(case aS=>exact (below_size zB));(case aL=>have:=LMc26.out;omega);intro v341 w29 ho hb hg hat;rw [← Ny340.out] at ho;have HO342:=zA (ho);replace HO_16:=zA (Kd.N_afterv (ok:=(fun k_=>(w.heap.size≤k_)∧k_≠gp1_0∧k_≠gb337)) (by (with_reducible repeat (first|apply Kd.N_alloc|apply Kd.N_drewN|apply Kd.N_drew));exact Kd.N_mono HO_16.out (fun _ hk=>⟨⟨hk.1.1,⟨hk.1.2.2,hk.2⟩⟩,hk.1.2.1⟩)) hg hat);replace BK332:=zA (blk_grown (g:=gp1_0) (o:=.cells #[.slice A1_0 l1_0.length c1_0] 22 (0,0)) (zk BK332) hg (Kd.N_ne HO_5.out BK332.out (by decide)));replace HL336_0:=zA (Kd.V_afterv (ok:=(fun k_=>(w.heap.size≤k_)∧some k_≠(.slice (some ad336) t333.length co6:Value).ownBlock∧k_≠gp1_0∧k_≠gb337)) (by (with_reducible repeat (first|apply Kd.V_alloc|apply Kd.V_drewN|apply Kd.V_drew));exact Kd.V_mono HL336_0.out (fun _ hk=>⟨⟨hk.1.1.1,⟨hk.1.2,⟨hk.1.1.2.2,hk.2⟩⟩⟩,hk.1.1.2.1⟩)) hg hat);replace BK337:=zA (blk_grown (g:=gb337) (o:=.cells #[.slice A336_0 (rd_L1 t333 x18_2).length c336_0] 30 (0,0)) (zk BK337) hg (Kd.N_away HO_5.out (fun _ hk=>hk.2)));replace HB:=zA (hb);clear HO_5;clear ho hb hg hat))
         go_roundg k2
         case measure=>have:=HK1.out;have:=HK2.out;omega
         case rel=>exact ⟨(y340),(wrap64 (x18_2+1)),zT,H',⟨by have:=HK1.out;have:=HK2.out;omega⟩,⟨by (with_reducible repeat (first|apply Kd.N_alloc|apply Kd.N_drewN|apply Kd.N_drew));exact Kd.N_mono HO342.out (fun _ hk=>⟨hk.1,⟨hk.2.1,hk.2.2.1⟩⟩)⟩,⟨by (with_reducible repeat (first|apply Kd.N_alloc|apply Kd.N_drewN|apply Kd.N_drew));exact Kd.N_mono HO_16.out (fun _ hk=>⟨hk.1.1,⟨hk.2,hk.1.2.1⟩⟩)⟩,⟨by refine zj ?_;exact BK332.out⟩,⟨by repeat (first|(with_reducible first|exact HB.out|apply below_alloc|apply pw_below_drewN|apply below_drew1|refine below_set ?_ GE332.out|refine below_set ?_ GE337.out)|exact HB.out)⟩⟩
        ·replace c25:=Bool.eq_false_iff.mpr c25
         subst c25
         have H1:(conflict_least_conflict_Cores_1.l1 k2 a0 x5_2 (wrap64 (a0+1)) x11_1 t333 (t333.length:Int) (wrap64 (x18_2+1)) l1_0)=some r:=by rw [if_neg (show ¬ (false=true) by decide)] at H;exact H
         clear H
         have H:=H1
         clear H1
         have H':=zA H
         clear H
         go_wp2
         go_roundg k2
         case measure=>have:=HK1.out;have:=HK2.out;omega
         case rel=>exact ⟨(x5_2),(wrap64 (x18_2+1)),zT,H',⟨by have:=HK1.out;have:=HK2.out;omega⟩,⟨by (with_reducible repeat (first|apply Kd.N_alloc|apply Kd.N_drewN|apply Kd.N_drew));exact Kd.N_mono HO_5.out (fun _ hk=>⟨hk.1.1,⟨hk.1.2.1,hk.1.2.2⟩⟩)⟩,⟨by (with_reducible repeat (first|apply Kd.N_alloc|apply Kd.N_drewN|apply Kd.N_drew));exact Kd.N_mono HO_16.out (fun _ hk=>⟨hk.1.1,⟨hk.1.2.1,hk.1.2.2⟩⟩)⟩,⟨by refine zj ?_;exact BK332.out⟩,⟨by repeat (first|(with_reducible first|exact HB.out|apply below_alloc|apply pw_below_drewN|apply below_drew1|refine below_set ?_ GE332.out|refine below_set ?_ GE337.out)|exact HB.out)⟩⟩
      ·have H':=zA H
       clear H
       go_wp2
       go_roundg k2
       case measure=>have:=HK1.out;have:=HK2.out;omega
       case rel=>exact ⟨(x5_2),(wrap64 (x11_1+1)),zT,H',⟨by have:=HK1.out;have:=HK2.out;omega⟩,⟨by (with_reducible repeat (first|apply Kd.N_alloc|apply Kd.N_drewN|apply Kd.N_drew));exact Kd.N_mono HO_5.out (fun _ hk=>⟨hk.1,hk.2.2⟩)⟩,⟨by refine zj ?_;exact BK332.out⟩,⟨by repeat (first|(with_reducible first|exact HB.out|apply below_alloc|apply pw_below_drewN|apply below_drew1|refine below_set ?_ GE332.out)|exact HB.out)⟩⟩
   ·obtain rfl:=Option.some.inj H
    go_wp2
    go_ret
    exact ⟨_,ze,by (with_reducible repeat (first|apply Kd.N_alloc|apply Kd.N_drewN|apply Kd.N_drew));exact Kd.N_mono HO_5.out (fun _ hk=>hk.1),by repeat (first|(with_reducible first|exact HB.out|apply below_alloc|apply pw_below_drewN|apply below_drew1|refine below_set ?_ GE332.out)|exact HB.out)⟩
def conflict_Cores.f (k:Nat) (l0:List (S50)):Option ((List (List Int))×Int):=(conflict_valid.f k l0).bind fun t333=>(if t333=0 then ((conflict_least_conflict_Cores_1.f k (l0.length:Int) l0).bind fun t334=>(some (t334,0))) else (some (([]:List (List Int)),t333)))
theorem conflict_Cores.mono:∀ a0 k,LeO (conflict_Cores.f k a0) (conflict_Cores.f (k+1) a0):=by
 intro a0 k
 unfold conflict_Cores.f
 repeat' first
   | (with_reducible exact conflict_least_conflict_Cores_1.mono _ _ _)
   | (with_reducible exact conflict_valid.mono _ _)
   | (with_reducible exact LeO.refl _)
   | (with_reducible exact LeO.none _)
   | (with_reducible refine LeO.ite ?_ ?_)
   | (with_reducible refine LeO.bind ?_ (fun _=>?_))
   | exact LeO.none _
   | refine LeO.ite ?_ ?_
   | refine LeO.bind ?_ (fun _=>?_)
set_option maxHeartbeats 8000000 in
set_option maxRecDepth 100000 in
theorem conflict_Cores.calls (k:Nat) (A0:Option Addr) (c0:Nat) (l0:List (S50)) (r1:List (List Int)) (r2:Int) (w:World) (hr0:Kd.C k50 w A0 l0.length l0) (hc0:l0.length≤c0) (h:conflict_Cores.f k l0=some (r1,r2)) :
  Calls Try.prog 11 #[.slice A0 l0.length c0] w fun e w'=>∃ v0_:Value,e=.returned (.tuple #[v0_,.int .i64 r2])∧Kd.N (Kd.slice 3 (Kd.int .i64)) 30 w' w.heap.size (fun k_=>(w.heap.size≤k_)) v0_ r1∧Below w.heap.size w w':=by
 have hu22:=Try.underlying22
 have HR0:=zA hr0
 have HC0:=zA hc0
 clear hr0 hc0
 have HB:=zA (Below.refl w.heap.size w)
 have H:((conflict_valid.f k l0).bind fun t333=>(if t333=0 then ((conflict_least_conflict_Cores_1.f k (l0.length:Int) l0).bind fun t334=>(some (t334,0))) else (some (([]:List (List Int)),t333))))=some (r1,r2):=h
 clear h
 obtain ⟨t333,A2,H⟩:=zo H
 have HC3:=zA H
 clear H
 go_enter Try.func11,Try.ntmps11
 go_upto_if 8 with (first|((with_reducible refine gd 1 rfl ?_);refine zx #[.slice A0 l0.length c0] 22 (h:=?_);intro gb332 hg w4 BK332 hb GW332 HB1;have GE332:=GW332;clear HB hb hg;have HB:=HB1;clear HB1;have hcz5_0:=zc0 BK332;have hfz5_0:=zf BK332 0)|((with_reducible refine gate_callee (f:=40) rfl ?_);refine goesL_ (some 6) rfl rfl Try.func40 zK rfl #[.slice A0 l0.length c0] rfl zM ?_;(with_reducible refine (conflict_valid.calls k _ _ l0 t333 _ (zD HR0 HB) HC0.out A2.out).mono ?_);rintro e w6 ⟨rfl,hb⟩;refine ⟨_,rfl,?_⟩;replace BK332:=zw BK332 hb;replace HB:=zu hb;clear hb))
 (try simp only [Act.put,zi,zs,zt])
 have H:=HC3.out
 clear HC3
 rcases ife H with ⟨c7b0,c7b1,H⟩|⟨c7,c7b0,c7b1,H⟩
 ·(first|rw [c7b0]|(simp only [i64_w,i32_w];rw [c7b0])|skip)
  (try rw [c7b1])
  obtain ⟨t334,A8,H⟩:=zo H
  simp only [Option.some.injEq,Prod.mk.injEq] at H
  obtain ⟨rfl,rfl⟩:=H
  have hcz9_0:=zc0 BK332
  have hfz9_0:=zf BK332 0
  go_wp2_with (first|((with_reducible refine gate_callee (f:=41) rfl ?_);refine goesL_ (some 13) rfl rfl Try.func41 zK rfl #[.int .i64 (l0.length:Int),.func (.func 42) #[] #[.pointer (some ⟨gb332,0,none⟩)]] rfl zM ?_;(with_reducible refine (conflict_least_conflict_Cores_1.calls k (l0.length:Int) gb332 A0 c0 l0 t334 _ (zD HR0 HB) HC0.out ?side3 A8.out).mono ?_);(case side3=>refine zj ?_;exact BK332.out);rintro e w10 ⟨v335,rfl,ho0,hb⟩;refine ⟨_,rfl,?_⟩;have HO336:=zA (Kd.N_lower (Kd.N_mono (ok':=fun k_=>(w.heap.size≤k_)∧k_≠gb332) ho0 (fun k_ hk_=>⟨(Nat.le_trans (below_size zB) hk_),(Kd.freshB (g:=gb332) (o:=.cells #[.slice A0 l0.length c0] 22 (0,0)) (zk BK332) k_ hk_)⟩)) (below_size zB));replace BK332:=zw BK332 hb;replace HB:=zu hb;clear hb;(try clear ho0)))
  go_ret2
  exact ⟨_,ze,by (with_reducible repeat (first|apply Kd.N_alloc|apply Kd.N_drewN|apply Kd.N_drew));exact Kd.N_mono HO336.out (fun _ hk=>hk.1),by repeat (first|(with_reducible first|exact HB.out|apply below_alloc|apply pw_below_drewN|apply below_drew1|refine below_set ?_ GE332.out)|exact HB.out)⟩
 ·(first|rw [c7b0]|(simp only [i64_w,i32_w];rw [c7b0])|skip)
  (try rw [c7b1])
  simp only [Option.some.injEq,Prod.mk.injEq] at H
  obtain ⟨rfl,rfl⟩:=H
  go_wp2
  go_ret2
  exact ⟨_,ze,by first|exact Kd.S_nil _ _ _ _ _|exact Kd.N_nil _ _ _ _ _|exact Kd.V_nil _ _ _ _ _|exact Kd.Q_nil _ _ _ _ _|exact Kd.R_nil _ _ _ _ _,by repeat (first|(with_reducible first|exact HB.out|apply below_alloc|apply pw_below_drewN|apply below_drew1|refine below_set ?_ GE332.out)|exact HB.out)⟩
def conflict_others.l0:Nat→List Int→List Int→Int→Int→Option (List Int)
 | 0,_,_,_,_=>none
 | k+1,x1,x5,x7,x8=>if x8<x7 then ((slices_Contains_int_int.f k x1 x8).bind fun t337=>(if t337=true then (conflict_others.l0 k x1 x5 x7 (wrap64 (x8+1))) else (if x5.length<17592186044416 then (conflict_others.l0 k x1 (x5++[x8]) x7 (wrap64 (x8+1))) else (none)))) else (some x5)
def conflict_others.f (k:Nat) (a0:Int) (l1:List Int):Option (List Int):=conflict_others.l0 k l1 ([]:List Int) a0 0
theorem conflict_others.mono_l:∀ k,(∀ y0 y1 y2 y3,LeO (conflict_others.l0 k y0 y1 y2 y3) (conflict_others.l0 (k+1) y0 y1 y2 y3))
 | 0=>fun _ _ _ _ r h=>by simp [conflict_others.l0] at h
 | k+1=>by
  have ih0:=conflict_others.mono_l k
  ·intro y0 y1 y2 y3
   unfold conflict_others.l0
   repeat' first
   | (with_reducible exact ih0 _ _ _ _)
   | (with_reducible exact slices_Contains_int_int.mono _ _ _)
   | (with_reducible exact LeO.refl _)
   | (with_reducible exact LeO.none _)
   | (with_reducible refine LeO.ite ?_ ?_)
   | (with_reducible refine LeO.bind ?_ (fun _=>?_))
   | exact LeO.none _
   | refine LeO.ite ?_ ?_
   | refine LeO.bind ?_ (fun _=>?_)
theorem conflict_others.mono:∀ a0 a1 k,LeO (conflict_others.f k a0 a1) (conflict_others.f (k+1) a0 a1):=by
 intro a0 a1 k
 have ih0:=conflict_others.mono_l k
 unfold conflict_others.f
 repeat' first
   | (with_reducible exact ih0 _ _ _ _)
   | (with_reducible exact slices_Contains_int_int.mono _ _ _)
   | (with_reducible exact LeO.refl _)
   | (with_reducible exact LeO.none _)
   | (with_reducible refine LeO.ite ?_ ?_)
   | (with_reducible refine LeO.bind ?_ (fun _=>?_))
   | exact LeO.none _
   | refine LeO.ite ?_ ?_
   | refine LeO.bind ?_ (fun _=>?_)
set_option maxHeartbeats 8000000 in
set_option maxRecDepth 100000 in
theorem conflict_others.calls (k:Nat) (a0:Int) (A1:Option Addr) (c1:Nat) (l1:List Int) (r:List Int) (w:World) (hr1:Kd.C (Kd.int .i64) w A1 l1.length l1) (hc1:l1.length≤c1) (h:conflict_others.f k a0 l1=some r) :
  Calls Try.prog 47 #[.int .i64 a0,.slice A1 l1.length c1] w fun e w'=>∃ v0_:Value,e=.returned (v0_)∧Kd.R (Kd.int .i64) 3 w' w.heap.size (fun _=>True) v0_ r∧Below w.heap.size w w':=by
 have HR1:=zA hr1
 have HC1:=zA hc1
 clear hr1 hc1
 have HB:=zA (Below.refl w.heap.size w)
 have H:(conflict_others.l0 k l1 ([]:List Int) a0 0)=some r:=h
 clear h
 have H':=zA H
 clear H
 go_enter Try.func47,Try.ntmps47
 go_wp2
 go_loopg [5,8] k (fun kq v5 v8 w'=>∃ (x5_1:List Int) (x8_1:Int),v8=.int .i64 x8_1∧Aside0 (conflict_others.l0 kq l1 x5_1 a0 x8_1=some r)∧Aside0 (kq≤k)∧Aside0 (Kd.R (Kd.int .i64) 3 w' w.heap.size (fun _=>True) v5 x5_1)∧Aside0 (Below w.heap.size w w'))
 case atStart=>exact ⟨(([]:List Int)),(0),zT,H',⟨Nat.le_refl _⟩,⟨by first|exact Kd.R_nil _ _ _ _ _|exact Kd.N_nil _ _ _ _ _|exact Kd.V_nil _ _ _ _ _|exact Kd.Q_nil _ _ _ _ _|exact Kd.S_nil _ _ _ _ _⟩,⟨by repeat (first|(with_reducible first|exact HB.out|apply below_alloc|apply pw_below_drewN|apply below_drew1)|exact HB.out)⟩⟩
 case round=>
  clear H'
  obtain ⟨x5_1,x8_1,rfl,HA,HK1,HO_5,HB⟩:=hrel
  cases gk with
  | zero=>exact absurd HA.out (by simp [conflict_others.l0])
  | succ k1=>
   have H:=HA.out
   clear HA
   simp only [conflict_others.l0] at H
   rcases ifd H with ⟨c3b0,H⟩|⟨c3b0,H⟩
   ·obtain ⟨t337,A4,H⟩:=zo H
    have HC5:=zA H
    clear H
    go_upto_if 14 with (first|((with_reducible refine gate_callee (f:=30) rfl ?_);refine goesL_ (some 13) rfl rfl Try.func30 zK rfl #[.slice A1 l1.length c1,.int .i64 x8_1] rfl zM ?_;(with_reducible refine (slices_Contains_int_int.calls k1 _ _ l1 x8_1 t337 _ (zD HR1 HB) HC1.out A4.out).mono ?_);rintro e w' ⟨rfl,⟨nd,rfl⟩⟩;refine ⟨_,rfl,?_⟩))
    (try simp only [Act.put,zi,zs,zt])
    have H:=HC5.out
    clear HC5
    by_cases c6:t337=true
    ·subst c6
     have H1:(conflict_others.l0 k1 l1 x5_1 a0 (wrap64 (x8_1+1)))=some r:=by rw [if_pos rfl] at H;exact H
     clear H
     have H:=H1
     clear H1
     have H':=zA H
     clear H
     go_wp2
     go_roundg k1
     case measure=>have:=HK1.out;omega
     case rel=>exact ⟨(x5_1),(wrap64 (x8_1+1)),zT,H',⟨by have:=HK1.out;omega⟩,⟨by refine zr ?_;exact HO_5.out⟩,⟨by repeat (first|(with_reducible first|exact HB.out|apply below_alloc|apply pw_below_drewN|apply below_drew1)|exact HB.out)⟩⟩
    ·replace c6:=Bool.eq_false_iff.mpr c6
     subst c6
     have H1:(if x5_1.length<17592186044416 then (conflict_others.l0 k1 l1 (x5_1++[x8_1]) a0 (wrap64 (x8_1+1))) else (none))=some r:=by rw [if_neg (show ¬ (false=true) by decide)] at H;exact H
     clear H
     have H:=H1
     clear H1
     obtain ⟨c7,H⟩:=if1 H
     have LMc7:=zA c7
     clear c7
     first|(replace H:=zyb (x5_1++[x8_1]) H;obtain ⟨y338,Ny338,H⟩:=H)|(obtain ⟨y338,hy338⟩:=zY (x5_1++[x8_1]);(try rw (occs:=.pos [1]) [← hy338] at H);have Ny338:=zA hy338;clear hy338)
     have H':=zA H
     clear H
     go_wp2_with (first|((with_reducible refine gate_builtin (b:=.append) (xs:=#[.tmp 15,.tmp 17]) rfl ?_);at_builtin;refine Kd.R_append (Kd.int .i64) (w0:=w) w.heap.size rfl (.tmp 15) (.tmp 17) 30 3 (.int .i64 0) 8 rfl Try.underlying30 info3 rfl (by decide) (by omega) u5 x5_1 x8_1 [.int .i64 x8_1] (fun _=>True) (fun _=>False) rfl rfl ?aP (fun _ hk=>hk.elim) ?aF ?aO ?aB ?aS ?aL ?_;(case aP=>exact rfl);(case aB=>exact zB);(case aF=>exact (fun _ _=>trivial));(case aO=>exact (zR HO_5));(case aS=>exact (below_size zB));(case aL=>have:=LMc7.out;omega);intro v339 w8 ho hb hg hat;rw [← Ny338.out] at ho;have HO340:=zA (ho);replace HB:=zA (hb);clear HO_5;clear ho hb hg hat))
     go_roundg k1
     case measure=>have:=HK1.out;omega
     case rel=>exact ⟨(y338),(wrap64 (x8_1+1)),zT,H',⟨by have:=HK1.out;omega⟩,⟨by refine zr ?_;exact HO340.out⟩,⟨by repeat (first|(with_reducible first|exact HB.out|apply below_alloc|apply pw_below_drewN|apply below_drew1)|exact HB.out)⟩⟩
   ·obtain rfl:=Option.some.inj H
    go_wp2
    go_ret
    exact ⟨_,ze,by refine zr ?_;exact HO_5.out,by repeat (first|(with_reducible first|exact HB.out|apply below_alloc|apply pw_below_drewN|apply below_drew1)|exact HB.out)⟩
def conflict_Repairs_1_v1.f (k:Nat) (l0:List Int) (l1_0:List (S50)):Option (Bool):=(conflict_others.f k (l1_0.length:Int) l0).bind fun t342=>((conflict_solvable.f k l1_0 t342).bind fun t345=>(some t345))
theorem conflict_Repairs_1_v1.mono:∀ a0 a1 k,LeO (conflict_Repairs_1_v1.f k a0 a1) (conflict_Repairs_1_v1.f (k+1) a0 a1):=by
 intro a0 a1 k
 unfold conflict_Repairs_1_v1.f
 repeat' first
   | (with_reducible exact conflict_others.mono _ _ _)
   | (with_reducible exact conflict_solvable.mono _ _ _)
   | (with_reducible exact LeO.refl _)
   | (with_reducible exact LeO.none _)
   | (with_reducible refine LeO.ite ?_ ?_)
   | (with_reducible refine LeO.bind ?_ (fun _=>?_))
   | exact LeO.none _
   | refine LeO.ite ?_ ?_
   | refine LeO.bind ?_ (fun _=>?_)
set_option maxHeartbeats 8000000 in
set_option maxRecDepth 100000 in
theorem conflict_Repairs_1_v1.calls (k:Nat) (A0:Option Addr) (c0:Nat) (l0:List Int) (gp1_0:Nat) (A1_0:Option Addr) (c1_0:Nat) (l1_0:List (S50)) (r:Bool) (w:World) (hr0:Kd.C (Kd.int .i64) w A0 l0.length l0) (hc0:l0.length≤c0) (hr1_0:Kd.C k50 w A1_0 l1_0.length l1_0) (hc1_0:l1_0.length≤c1_0) (hb_gp1_0:w.heap[gp1_0]?=some (.cells #[.slice A1_0 l1_0.length c1_0] 22 (0,0))) (h:conflict_Repairs_1_v1.f k l0 l1_0=some r) :
  Calls Try.prog 46 #[.slice A0 l0.length c0,.pointer (some ⟨gp1_0,0,none⟩)] w fun e w'=>e=.returned (.bool r)∧Below w.heap.size w w':=by
 have hu22:=Try.underlying22
 have HR0:=zA hr0
 have HC0:=zA hc0
 clear hr0 hc0
 have HR1_0:=zA hr1_0
 have HC1_0:=zA hc1_0
 clear hr1_0 hc1_0
 have BK341:=zA hb_gp1_0
 clear hb_gp1_0
 have HB:=zA (Below.refl w.heap.size w)
 have H:((conflict_others.f k (l1_0.length:Int) l0).bind fun t342=>((conflict_solvable.f k l1_0 t342).bind fun t345=>(some t345)))=some r:=h
 clear h
 obtain ⟨t342,A3,H⟩:=zo H
 obtain ⟨t345,A4,H⟩:=zo H
 obtain rfl:=Option.some.inj H
 go_enter Try.func46,Try.ntmps46
 try go_wp2
 replace BK341:=zA (blk_drew BK341.out)
 replace HB:=zA (below_drew1 HB.out)
 refine start_ (n:=7) (S:=fun w'=>w'.cell? ⟨gp1_0,0,none⟩=some (.slice A1_0 l1_0.length c1_0)) (ds:=[]) (bz 7 0) zK rfl rfl ((blk_cell BK341.out 0).trans rfl) (fun hHeld=>?_)
 generalize w.drew=w5 at BK341 HB hHeld ⊢
 refine pure_ (i:=3) (N:=some 7) (v:=?_) (a':=?_) (bz 7 8) rfl rfl zK (fun _ _ _ h=>h) (Or.inl ⟨by rfl,?_⟩) ?_ ?_
 rotate_left
 ·intro w'
  go_simp
  with_reducible rfl
 rotate_left
 ·simp only [Act.put,zi,zs,zt,i64_w,i32_w]
  rfl
 refine take_ (i:=0) (N:=some 4) (v:=?_) (a':=?_) (bz 7 9) rfl rfl zK (fun _ _ _ h=>h) (Or.inl ⟨by rfl,?_⟩) hHeld ?_ ?_
 rotate_left
 ·intro w' s0
  go_simp
  with_reducible rfl
 rotate_left
 ·simp only [Act.put,zi,zs,zt,i64_w,i32_w]
  rfl
 refine take_ (i:=1) (N:=some 5) (v:=?_) (a':=?_) (bz 7 11) rfl rfl zK (fun _ _ _ h=>h) (Or.inl ⟨by rfl,?_⟩) hHeld ?_ ?_
 rotate_left
 ·intro w' s0
  go_simp
  with_reducible rfl
 rotate_left
 ·simp only [Act.put,zi,zs,zt,i64_w,i32_w]
  rfl
 refine pure_ (i:=2) (N:=some 6) (v:=?_) (a':=?_) (bz 7 15) rfl rfl zK (fun _ _ _ h=>h) (Or.inl ⟨by rfl,?_⟩) ?_ ?_
 rotate_left
 ·intro w'
  go_simp
  with_reducible rfl
 rotate_left
 ·simp only [Act.put,zi,zs,zt,i64_w,i32_w]
  rfl
 refine one_ (i:=4) (N:=some 8) (bz 7 31) rfl rfl zK (by decide) (fun K hK=>?_)
 refine goes_ Try.func47 zK rfl #[.int .i64 (l1_0.length:Int),.slice A0 l0.length c0] (by rfl) rfl rfl zM ?_
 with_reducible refine (conflict_others.calls k (l1_0.length:Int) _ _ l0 t342 _ ?side1 ?side2 A3.out).mono ?_
 (case side1=>exact zC (Kd.C_below HR0.out HB.out))
 (case side2=>exact HC0.out)
 rintro e w6 ⟨v343,rfl,ho0,hb⟩
 refine ⟨_,rfl,?_⟩
 have HO344:=zA (Kd.R_lower ho0 (below_size zB))
 replace BK341:=zw BK341 hb
 replace HB:=zu hb
 (try clear hb)
 (try clear hb2)
 (try clear hk)
 (try clear hi)
 (try clear ho0)
 obtain ⟨Ao7,co7,eo7⟩:=Kd.R_slice HO344.out
 (first|subst eo7|(injection eo7 with f1_ f2_ f3_;have f4_:=f1_.symm;have f5_:=f3_.symm;clear f1_ f2_ f3_;subst f4_;subst f5_))
 refine hK.out _ _ ((blk_cell BK341.out 0).trans rfl) (fun hHeld=>?_)
 clear hK K
 refine norm_ (a':=?_) ?_ ?_
 rotate_left
 ·show Act.put _ (some 8) _=_
  simp only [Act.put,zi,zs,zt,i64_w,i32_w]
  rfl
 refine one_ (i:=5) (N:=some 9) (bz 7 63) rfl rfl zK (by decide) (fun K hK=>?_)
 refine goes_ Try.func43 zK rfl #[.slice A1_0 l1_0.length c1_0,.slice Ao7 t342.length co7] (by rfl) rfl rfl zM ?_
 with_reducible refine (conflict_solvable.calls k _ _ l1_0 _ _ t342 t345 _ ?side1 ?side2 ?side3 ?side4 A4.out).mono ?_
 (case side1=>exact zC (Kd.C_below HR1_0.out HB.out))
 (case side2=>exact HC1_0.out)
 (case side3=>exact zC (Kd.R_reads' HO344.out).2.2)
 (case side4=>exact (Kd.R_reads' HO344.out).2.1)
 rintro e w8 ⟨rfl,hb⟩
 refine ⟨_,rfl,?_⟩
 replace HO344:=zA (Kd.R_below (zR HO344) hb)
 replace BK341:=zw BK341 hb
 replace HB:=zu hb
 (try clear hb)
 (try clear hb2)
 (try clear hk)
 (try clear hi)
 refine hK.out _ _ ((blk_cell BK341.out 0).trans rfl) (fun hHeld=>?_)
 clear hK K
 refine norm_ (a':=?_) ?_ ?_
 rotate_left
 ·show Act.put _ (some 9) _=_
  simp only [Act.put,zi,zs,zt,i64_w,i32_w]
  rfl
 refine pure_ (i:=6) (N:=some 3) (v:=?_) (a':=?_) (bz 7 127) rfl rfl zK (fun _ _ _ h=>h) (Or.inl ⟨by rfl,?_⟩) ?_ ?_
 rotate_left
 ·intro w'
  go_simp
  with_reducible rfl
 rotate_left
 ·simp only [Act.put,zi,zs,zt,i64_w,i32_w]
  rfl
 refine done_ zK ?_
 try go_wp2
 go_ret
 exact ⟨ze,by repeat (first|(with_reducible first|exact HB.out|apply below_alloc|apply pw_below_drewN|apply below_drew1|refine below_set ?_ GE341.out)|exact HB.out)⟩
mutual
def conflict_least_conflict_Repairs_1.l0:Nat→Int→List (List Int)→Int→Int→List (S50)→Option ((List (List Int)))
 | 0,_,_,_,_,_=>none
 | k+1,x0,x5,x10,x11,x342000=>if x11<x10 then ((conflict_sets.f k x0 x11).bind fun t342=>(conflict_least_conflict_Repairs_1.l1 k x0 x5 x10 x11 t342 (t342.length:Int) 0 x342000)) else (some x5)
def conflict_least_conflict_Repairs_1.l1:Nat→Int→List (List Int)→Int→Int→List (List Int)→Int→Int→List (S50)→Option ((List (List Int)))
 | 0,_,_,_,_,_,_,_,_=>none
 | k+1,x0,x5,x10,x11,x16,x17,x18,x342000=>if x18<x17 then (if 0≤x18 then (if x18<(x16.length:Int) then ((slices_ContainsFunc_int_int_conflict_least_1.f k x5 (rd_L1 x16 x18)).bind fun t347=>(if t347=true then (conflict_least_conflict_Repairs_1.l1 k x0 x5 x10 x11 x16 x17 (wrap64 (x18+1)) x342000) else ((conflict_Repairs_1_v1.f k (rd_L1 x16 x18) x342000).bind fun t348=>(if t348=true then (if x5.length<5864062014805 then (conflict_least_conflict_Repairs_1.l1 k x0 (x5++[rd_L1 x16 x18]) x10 x11 x16 x17 (wrap64 (x18+1)) x342000) else (none)) else (conflict_least_conflict_Repairs_1.l1 k x0 x5 x10 x11 x16 x17 (wrap64 (x18+1)) x342000))))) else (none)) else (none)) else (conflict_least_conflict_Repairs_1.l0 k x0 x5 x10 (wrap64 (x11+1)) x342000)
end
def conflict_least_conflict_Repairs_1.f (k:Nat) (a0:Int) (l1_0:List (S50)):Option ((List (List Int))):=conflict_least_conflict_Repairs_1.l0 k a0 ([]:List (List Int)) (wrap64 (a0+1)) 0 l1_0
theorem conflict_least_conflict_Repairs_1.mono_l:∀ k,(∀ y0 y1 y2 y3 y4,LeO (conflict_least_conflict_Repairs_1.l0 k y0 y1 y2 y3 y4) (conflict_least_conflict_Repairs_1.l0 (k+1) y0 y1 y2 y3 y4))∧(∀ y0 y1 y2 y3 y4 y5 y6 y7,LeO (conflict_least_conflict_Repairs_1.l1 k y0 y1 y2 y3 y4 y5 y6 y7) (conflict_least_conflict_Repairs_1.l1 (k+1) y0 y1 y2 y3 y4 y5 y6 y7))
 | 0=>⟨fun _ _ _ _ _ r h=>by simp [conflict_least_conflict_Repairs_1.l0] at h,fun _ _ _ _ _ _ _ _ r h=>by simp [conflict_least_conflict_Repairs_1.l1] at h⟩
 | k+1=>by
  obtain ⟨ih0,ih1⟩:=conflict_least_conflict_Repairs_1.mono_l k
  refine ⟨?_,?_⟩
  ·intro y0 y1 y2 y3 y4
   unfold conflict_least_conflict_Repairs_1.l0
   repeat' first
   | (with_reducible exact ih0 _ _ _ _ _)
   | (with_reducible exact ih1 _ _ _ _ _ _ _ _)
   | (with_reducible exact conflict_Repairs_1_v1.mono _ _ _)
   | (with_reducible exact conflict_sets.mono _ _ _)
   | (with_reducible exact slices_ContainsFunc_int_int_conflict_least_1.mono _ _ _)
   | (with_reducible exact LeO.refl _)
   | (with_reducible exact LeO.none _)
   | (with_reducible refine LeO.ite ?_ ?_)
   | (with_reducible refine LeO.bind ?_ (fun _=>?_))
   | exact LeO.none _
   | refine LeO.ite ?_ ?_
   | refine LeO.bind ?_ (fun _=>?_)
  ·intro y0 y1 y2 y3 y4 y5 y6 y7
   unfold conflict_least_conflict_Repairs_1.l1
   repeat' first
   | (with_reducible exact ih0 _ _ _ _ _)
   | (with_reducible exact ih1 _ _ _ _ _ _ _ _)
   | (with_reducible exact conflict_Repairs_1_v1.mono _ _ _)
   | (with_reducible exact conflict_sets.mono _ _ _)
   | (with_reducible exact slices_ContainsFunc_int_int_conflict_least_1.mono _ _ _)
   | (with_reducible exact LeO.refl _)
   | (with_reducible exact LeO.none _)
   | (with_reducible refine LeO.ite ?_ ?_)
   | (with_reducible refine LeO.bind ?_ (fun _=>?_))
   | exact LeO.none _
   | refine LeO.ite ?_ ?_
   | refine LeO.bind ?_ (fun _=>?_)
theorem conflict_least_conflict_Repairs_1.mono:∀ a0 a1 k,LeO (conflict_least_conflict_Repairs_1.f k a0 a1) (conflict_least_conflict_Repairs_1.f (k+1) a0 a1):=by
 intro a0 a1 k
 obtain ⟨ih0,ih1⟩:=conflict_least_conflict_Repairs_1.mono_l k
 unfold conflict_least_conflict_Repairs_1.f
 repeat' first
   | (with_reducible exact ih0 _ _ _ _ _)
   | (with_reducible exact ih1 _ _ _ _ _ _ _ _)
   | (with_reducible exact conflict_Repairs_1_v1.mono _ _ _)
   | (with_reducible exact conflict_sets.mono _ _ _)
   | (with_reducible exact slices_ContainsFunc_int_int_conflict_least_1.mono _ _ _)
   | (with_reducible exact LeO.refl _)
   | (with_reducible exact LeO.none _)
   | (with_reducible refine LeO.ite ?_ ?_)
   | (with_reducible refine LeO.bind ?_ (fun _=>?_))
   | exact LeO.none _
   | refine LeO.ite ?_ ?_
   | refine LeO.bind ?_ (fun _=>?_)
set_option maxHeartbeats 8000000 in
set_option maxRecDepth 100000 in
theorem conflict_least_conflict_Repairs_1.calls (k:Nat) (a0:Int) (gp1_0:Nat) (A1_0:Option Addr) (c1_0:Nat) (l1_0:List (S50)) (r:List (List Int)) (w:World) (hr1_0:Kd.C k50 w A1_0 l1_0.length l1_0) (hc1_0:l1_0.length≤c1_0) (hb_gp1_0:w.heap[gp1_0]?=some (.cells #[.slice A1_0 l1_0.length c1_0] 22 (0,0))) (h:conflict_least_conflict_Repairs_1.f k a0 l1_0=some r) :
  Calls Try.prog 41 #[.int .i64 a0,.func (.func 46) #[] #[.pointer (some ⟨gp1_0,0,none⟩)]] w fun e w'=>∃ v0_:Value,e=.returned (v0_)∧Kd.N (Kd.slice 3 (Kd.int .i64)) 30 w' w.heap.size (fun k_=>(w.heap.size≤k_)) v0_ r∧Below w.heap.size w w':=by
 have hu30:=Try.underlying30
 have HR1_0:=zA hr1_0
 have HC1_0:=zA hc1_0
 clear hr1_0 hc1_0
 have BK341:=zA hb_gp1_0
 clear hb_gp1_0
 have HB:=zA (Below.refl w.heap.size w)
 have H:(conflict_least_conflict_Repairs_1.l0 k a0 ([]:List (List Int)) (wrap64 (a0+1)) 0 l1_0)=some r:=h
 clear h
 have H':=zA H
 clear H
 go_enter Try.func41,Try.ntmps41
 go_wp2
 go_loopg [5,11] k (fun kq v5 v11 w'=>∃ (x5_1:List (List Int)) (x11_1:Int),v11=.int .i64 x11_1∧Aside0 (conflict_least_conflict_Repairs_1.l0 kq a0 x5_1 (wrap64 (a0+1)) x11_1 l1_0=some r)∧Aside0 (kq≤k)∧Aside0 (Kd.N (Kd.slice 3 (Kd.int .i64)) 30 w' w.heap.size (fun k_=>(w.heap.size≤k_)∧k_≠gp1_0) v5 x5_1)∧Aside0 (w'.heap[gp1_0]?=some (.cells #[(.slice A1_0 l1_0.length c1_0)] 22 (0,0)))∧Aside0 (Below w.heap.size w w'))
 case atStart=>exact ⟨(([]:List (List Int))),(0),zT,H',⟨Nat.le_refl _⟩,⟨by first|exact Kd.S_nil _ _ _ _ _|exact Kd.N_nil _ _ _ _ _|exact Kd.V_nil _ _ _ _ _|exact Kd.Q_nil _ _ _ _ _|exact Kd.R_nil _ _ _ _ _⟩,⟨by refine zj ?_;exact BK341.out⟩,⟨by repeat (first|(with_reducible first|exact HB.out|apply below_alloc|apply pw_below_drewN|apply below_drew1|refine below_set ?_ GE341.out)|exact HB.out)⟩⟩
 case round=>
  clear H'
  obtain ⟨x5_1,x11_1,rfl,HA,HK1,HO_5,BK341,HB⟩:=hrel
  cases gk with
  | zero=>exact absurd HA.out (by simp [conflict_least_conflict_Repairs_1.l0])
  | succ k1=>
   have H:=HA.out
   clear HA
   simp only [conflict_least_conflict_Repairs_1.l0] at H
   rcases ifd H with ⟨c3b0,H⟩|⟨c3b0,H⟩
   ·obtain ⟨t342,A4,H⟩:=zo H
    have H':=zA H
    clear H
    go_wp2_with (first|((with_reducible refine gate_callee (f:=66) rfl ?_);refine goesL_ (some 16) rfl rfl Try.func66 zK rfl #[.int .i64 a0,.int .i64 x11_1] rfl zM ?_;(with_reducible refine (conflict_sets.calls k1 a0 x11_1 t342 _ A4.out).mono ?_);rintro e w5 ⟨v343,rfl,ho0,hb⟩;refine ⟨_,rfl,?_⟩;have HO344:=zA (Kd.N_lower (Kd.N_mono (ok':=fun k_=>(w.heap.size≤k_)∧some k_≠(u5:Value).ownBlock∧k_≠gp1_0) (Kd.S_N (Kd.S_bound ho0)) (fun k_ hk_=>⟨(Nat.le_trans (below_size zB) hk_.2.1),(Kd.fresh' (Kd.N_lt (zN HO_5)) k_ hk_.2.1),(Kd.freshB (g:=gp1_0) (o:=.cells #[.slice A1_0 l1_0.length c1_0] 22 (0,0)) (zk BK341) k_ hk_.2.1)⟩)) (below_size zB));replace HO_5:=zA (Kd.N_elder' (zN HO_5) (Kd.N_base (Kd.S_N ho0)) hb);replace BK341:=zw BK341 hb;replace HB:=zu hb;clear hb;(try clear ho0);obtain ⟨Ao6,co6,eo6⟩:=Kd.N_slice HO344.out;subst eo6))
    go_loopg [5,18] k1 (fun kq v5 v18 w'=>∃ (x5_2:List (List Int)) (x18_2:Int),v18=.int .i64 x18_2∧Aside0 (conflict_least_conflict_Repairs_1.l1 kq a0 x5_2 (wrap64 (a0+1)) x11_1 t342 (t342.length:Int) x18_2 l1_0=some r)∧Aside0 (kq≤k1)∧Aside0 (Kd.N (Kd.slice 3 (Kd.int .i64)) 30 w' w.heap.size (fun k_=>(w.heap.size≤k_)∧some k_≠((.slice Ao6 t342.length co6):Value).ownBlock∧k_≠gp1_0) v5 x5_2)∧Aside0 (Kd.N (Kd.slice 3 (Kd.int .i64)) 30 w' w.heap.size (fun k_=>(w.heap.size≤k_)∧some k_≠(v5:Value).ownBlock∧k_≠gp1_0) (.slice Ao6 t342.length co6) t342)∧Aside0 (w'.heap[gp1_0]?=some (.cells #[(.slice A1_0 l1_0.length c1_0)] 22 (0,0)))∧Aside0 (Below w.heap.size w w'))
    case atStart=>exact ⟨(x5_1),(0),zT,H',⟨Nat.le_refl _⟩,⟨by (with_reducible repeat (first|apply Kd.N_alloc|apply Kd.N_drewN|apply Kd.N_drew));exact Kd.N_mono HO_5.out (fun _ hk=>⟨hk.1.1,⟨hk.2,hk.1.2⟩⟩)⟩,⟨by (with_reducible repeat (first|apply Kd.N_alloc|apply Kd.N_drewN|apply Kd.N_drew));exact HO344.out⟩,⟨by refine zj ?_;exact BK341.out⟩,⟨by repeat (first|(with_reducible first|exact HB.out|apply below_alloc|apply pw_below_drewN|apply below_drew1|refine below_set ?_ GE341.out)|exact HB.out)⟩⟩
    case round=>
     clear H'
     try clear c3
     try clear c3b0
     obtain ⟨x5_2,x18_2,rfl,HA,HK2,HO_5,HO_16,BK341,HB⟩:=hrel
     cases gk with
     | zero=>exact absurd HA.out (by simp [conflict_least_conflict_Repairs_1.l1])
     | succ k2=>
      have H:=HA.out
      clear HA
      simp only [conflict_least_conflict_Repairs_1.l1] at H
      rcases ifd H with ⟨c7b0,H⟩|⟨c7b0,H⟩
      ·obtain ⟨c8b0,H⟩:=ifd1 H
       obtain ⟨c9b0,H⟩:=ifd1 H
       have HC10:=zA H
       clear H
       obtain ⟨p345,q345,ad345,A345_0,c345_0,e345,hx345_0,hl345_0,hi345_0⟩:=zp (at_L1 (Kd.N_reads' HO_16.out).2.2 x18_2)
       cases e345
       obtain ⟨ce345,hce345,hMe345,hcc345⟩:=Kd.N_get HO_16.out [] x18_2 p345 (by first|exact q345|exact of_decide_eq_true zh|(have e_:=(Kd.N_reads' HO_16.out).1;omega))
       obtain ⟨ua345_0,uc345_0,rfl,ul345_0,ge345_0⟩:=Kd.FK_slice_open hMe345
       have hv345_0:=hcc345 0 _ rfl
       rw [Nat.add_zero,show ((Kd.slice 3 (Kd.int .i64))).sz=1 from rfl,Nat.mul_one] at hv345_0
       replace hv345_0:=Option.some.inj (hv345_0.symm.trans hx345_0)
       injection hv345_0 with hva_ hvn_ hvc_
       rw [hva_] at ge345_0
       rw [hvc_] at ul345_0
       have HL345_0:=zA (show Kd.V (Kd.int .i64) 3 _ w.heap.size _ _ (rd_L1 t342 x18_2) from Kd.V_mk ul345_0 ge345_0)
       clear hva_ hvn_ hvc_ ge345_0 ul345_0
       clear hcc345 hce345
       have HR345_0:=zA hi345_0
       have HC345_0:=zA hl345_0
       clear hi345_0 hl345_0
       replace p345:=eq_true p345
       replace q345:=eq_true q345
       go_upto_region 8 with (first|((with_reducible refine gd 8 rfl ?_);refine zx #[.slice none 0 0] 30 (h:=?_);intro gb346 hg w11 BK346 hb GW346 HB1;have GE346:=GW346;have NB341_346:=zL hg BK341;have NB346_341:=zLs NB341_346;replace HO_5:=zA (Kd.N_below (Kd.N_elderB (zN HO_5) gb346 (Nat.le_of_eq hg.symm)) hb);replace HO_16:=zA (Kd.N_below (Kd.N_elderB (zN HO_16) gb346 (Nat.le_of_eq hg.symm)) hb);replace BK341:=zw BK341 hb;replace HR345_0:=zA (Kd.C_below ((Kd.V_reads' HL345_0.out).2.2) hb);replace HL345_0:=zA (Kd.V_below (Kd.V_elderB (by (with_reducible repeat (first|apply Kd.V_alloc|apply Kd.V_drewN|apply Kd.V_drew));exact HL345_0.out) gb346 (Nat.le_of_eq hg.symm)) hb);clear HB hb hg;have HB:=HB1;clear HB1;have hnb12:=NB346_341.out;have hnc12:=NB341_346.out;have hcz13_0:=zc0 BK346;have hfz13_0:=zf BK346 0))
       (try simp only [Act.put,zi,zs,zt])
       have H:=HC10.out
       clear HC10
       obtain ⟨t347,A14,H⟩:=zo H
       by_cases c15:t347=true
       ·subst c15
        have H1:(conflict_least_conflict_Repairs_1.l1 k2 a0 x5_2 (wrap64 (a0+1)) x11_1 t342 (t342.length:Int) (wrap64 (x18_2+1)) l1_0)=some r:=by rw [if_pos rfl] at H;exact H
        clear H
        have H:=H1
        clear H1
        have H':=zA H
        clear H
        obtain ⟨Ao16,co16,eo16⟩:=Kd.N_slice HO_5.out
        subst eo16
        go_wp2_with (first|((with_reducible refine gate_callee (f:=23) rfl ?_);refine goesL_ (some 24) rfl rfl Try.func23 zK rfl #[.slice Ao16 x5_2.length co16,.func (.func 76) #[] #[.pointer (some ⟨gb346,0,none⟩)]] rfl zM ?_;(with_reducible refine (slices_ContainsFunc_int_int_conflict_least_1.calls k2 _ _ x5_2 gb346 A345_0 c345_0 (rd_L1 t342 x18_2) true _ ?side1 ?side2 ?side3 HC345_0.out ?side5 A14.out).mono ?_);(case side1=>refine (Kd.N_reads' (e:=30) (base:=w.heap.size) (ok:=fun k_=>(((w.heap.size≤k_)∧(some k_≠(.slice (some ad345) t342.length co6:Value).ownBlock∧k_≠gp1_0))∧k_≠gb346)) (n:=x5_2.length) (c:=co16) ?_).2.2;exact (by (with_reducible repeat (first|apply Kd.N_alloc|apply Kd.N_drewN|apply Kd.N_drew));exact (Kd.N_mono (Kd.N_far (p:=⟨gb346,0,none⟩) (Kd.N_mono HO_5.out (fun k_ hk=>(⟨hk,hk.2⟩:_∧k_≠gb346))) (fun _ hk=>hk.2) (.slice A345_0 (rd_L1 t342 x18_2).length c345_0)) (fun _ h_=>h_.1))));(case side2=>exact (Kd.N_reads' HO_5.out).2.1);(case side3=>repeat (first|exact ((Kd.V_reads' (by (with_reducible repeat (first|apply Kd.V_alloc|apply Kd.V_drewN|apply Kd.V_drew));exact (Kd.V_mono (Kd.V_far (p:=⟨gb346,0,none⟩) (Kd.V_mono HL345_0.out (fun k_ hk=>(⟨hk,hk.2⟩:_∧k_≠gb346))) (fun _ hk=>hk.2) (.slice A345_0 (rd_L1 t342 x18_2).length c345_0)) (fun _ h_=>h_.1)))).2.2)|(with_reducible refine Kd.C_alloc ?_ _)|(with_reducible refine Kd.C_drewN ?_ _)|(with_reducible refine Kd.C_drew ?_)));(case side5=>refine zj ?_;refine blk_put (cs:=#[.slice none 0 0]) ?_ 0 _ rfl;refine zj ?_;exact BK346.out);rintro e w17 ⟨rfl,hb⟩;refine ⟨_,rfl,?_⟩;replace HO_5:=zA (Kd.N_below (by (with_reducible repeat (first|apply Kd.N_alloc|apply Kd.N_drewN|apply Kd.N_drew));exact (Kd.N_mono (Kd.N_far (p:=⟨gb346,0,none⟩) (Kd.N_mono HO_5.out (fun k_ hk=>(⟨hk,hk.2⟩:_∧k_≠gb346))) (fun _ hk=>hk.2) (.slice A345_0 (rd_L1 t342 x18_2).length c345_0)) (fun _ h_=>h_.1))) hb);replace HO_16:=zA (Kd.N_below (by (with_reducible repeat (first|apply Kd.N_alloc|apply Kd.N_drewN|apply Kd.N_drew));exact (Kd.N_mono (Kd.N_far (p:=⟨gb346,0,none⟩) (Kd.N_mono HO_16.out (fun k_ hk=>(⟨hk,hk.2⟩:_∧k_≠gb346))) (fun _ hk=>hk.2) (.slice A345_0 (rd_L1 t342 x18_2).length c345_0)) (fun _ h_=>h_.1))) hb);replace BK341:=zA (blk_below (g:=gp1_0) (o:=.cells #[.slice A1_0 l1_0.length c1_0] 22 (0,0)) (by refine zj ?_;refine blk_far ?_ NB341_346.out _;refine zj ?_;exact BK341.out) hb);replace HR345_0:=zA (Kd.C_below ((Kd.V_reads' (by (with_reducible repeat (first|apply Kd.V_alloc|apply Kd.V_drewN|apply Kd.V_drew));exact (Kd.V_mono (Kd.V_far (p:=⟨gb346,0,none⟩) (Kd.V_mono HL345_0.out (fun k_ hk=>(⟨hk,hk.2⟩:_∧k_≠gb346))) (fun _ hk=>hk.2) (.slice A345_0 (rd_L1 t342 x18_2).length c345_0)) (fun _ h_=>h_.1)))).2.2) hb);replace HL345_0:=zA (Kd.V_below (by (with_reducible repeat (first|apply Kd.V_alloc|apply Kd.V_drewN|apply Kd.V_drew));exact (Kd.V_mono (Kd.V_far (p:=⟨gb346,0,none⟩) (Kd.V_mono HL345_0.out (fun k_ hk=>(⟨hk,hk.2⟩:_∧k_≠gb346))) (fun _ hk=>hk.2) (.slice A345_0 (rd_L1 t342 x18_2).length c345_0)) (fun _ h_=>h_.1))) hb);replace BK346:=zA (blk_below (g:=gb346) (o:=.cells #[.slice A345_0 (rd_L1 t342 x18_2).length c345_0] 30 (0,0)) (by refine zj ?_;refine blk_put (cs:=#[.slice none 0 0]) ?_ 0 _ rfl;refine zj ?_;exact BK346.out) hb);replace HB:=zu hb;clear hb))
        go_roundg k2
        case measure=>have:=HK1.out;have:=HK2.out;omega
        case rel=>exact ⟨(x5_2),(wrap64 (x18_2+1)),zT,H',⟨by have:=HK1.out;have:=HK2.out;omega⟩,⟨by (with_reducible repeat (first|apply Kd.N_alloc|apply Kd.N_drewN|apply Kd.N_drew));exact Kd.N_mono HO_5.out (fun _ hk=>⟨hk.1.1,⟨hk.1.2.1,hk.1.2.2⟩⟩)⟩,⟨by (with_reducible repeat (first|apply Kd.N_alloc|apply Kd.N_drewN|apply Kd.N_drew));exact Kd.N_mono HO_16.out (fun _ hk=>⟨hk.1.1,⟨hk.1.2.1,hk.1.2.2⟩⟩)⟩,⟨by refine zj ?_;exact BK341.out⟩,⟨by repeat (first|(with_reducible first|exact HB.out|apply below_alloc|apply pw_below_drewN|apply below_drew1|refine below_set ?_ GE341.out|refine below_set ?_ GE346.out)|exact HB.out)⟩⟩
       ·replace c15:=Bool.eq_false_iff.mpr c15
        subst c15
        have H1:((conflict_Repairs_1_v1.f k2 (rd_L1 t342 x18_2) l1_0).bind fun t348=>(if t348=true then (if x5_2.length<5864062014805 then (conflict_least_conflict_Repairs_1.l1 k2 a0 (x5_2++[rd_L1 t342 x18_2]) (wrap64 (a0+1)) x11_1 t342 (t342.length:Int) (wrap64 (x18_2+1)) l1_0) else (none)) else (conflict_least_conflict_Repairs_1.l1 k2 a0 x5_2 (wrap64 (a0+1)) x11_1 t342 (t342.length:Int) (wrap64 (x18_2+1)) l1_0)))=some r:=by rw [if_neg (show ¬ (false=true) by decide)] at H;exact H
        clear H
        have H:=H1
        clear H1
        obtain ⟨t348,A18,H⟩:=zo H
        have HC19:=zA H
        clear H
        obtain ⟨Ao20,co20,eo20⟩:=Kd.N_slice HO_5.out
        subst eo20
        go_upto_if 30 with (first|((with_reducible refine gate_callee (f:=23) rfl ?_);refine goesL_ (some 24) rfl rfl Try.func23 zK rfl #[.slice Ao20 x5_2.length co20,.func (.func 76) #[] #[.pointer (some ⟨gb346,0,none⟩)]] rfl zM ?_;(with_reducible refine (slices_ContainsFunc_int_int_conflict_least_1.calls k2 _ _ x5_2 gb346 A345_0 c345_0 (rd_L1 t342 x18_2) false _ ?side1 ?side2 ?side3 HC345_0.out ?side5 A14.out).mono ?_);(case side1=>refine (Kd.N_reads' (e:=30) (base:=w.heap.size) (ok:=fun k_=>(((w.heap.size≤k_)∧(some k_≠(.slice (some ad345) t342.length co6:Value).ownBlock∧k_≠gp1_0))∧k_≠gb346)) (n:=x5_2.length) (c:=co20) ?_).2.2;exact (by (with_reducible repeat (first|apply Kd.N_alloc|apply Kd.N_drewN|apply Kd.N_drew));exact (Kd.N_mono (Kd.N_far (p:=⟨gb346,0,none⟩) (Kd.N_mono HO_5.out (fun k_ hk=>(⟨hk,hk.2⟩:_∧k_≠gb346))) (fun _ hk=>hk.2) (.slice A345_0 (rd_L1 t342 x18_2).length c345_0)) (fun _ h_=>h_.1))));(case side2=>exact (Kd.N_reads' HO_5.out).2.1);(case side3=>repeat (first|exact ((Kd.V_reads' (by (with_reducible repeat (first|apply Kd.V_alloc|apply Kd.V_drewN|apply Kd.V_drew));exact (Kd.V_mono (Kd.V_far (p:=⟨gb346,0,none⟩) (Kd.V_mono HL345_0.out (fun k_ hk=>(⟨hk,hk.2⟩:_∧k_≠gb346))) (fun _ hk=>hk.2) (.slice A345_0 (rd_L1 t342 x18_2).length c345_0)) (fun _ h_=>h_.1)))).2.2)|(with_reducible refine Kd.C_alloc ?_ _)|(with_reducible refine Kd.C_drewN ?_ _)|(with_reducible refine Kd.C_drew ?_)));(case side5=>refine zj ?_;refine blk_put (cs:=#[.slice none 0 0]) ?_ 0 _ rfl;refine zj ?_;exact BK346.out);rintro e w21 ⟨rfl,hb⟩;refine ⟨_,rfl,?_⟩;replace HO_5:=zA (Kd.N_below (by (with_reducible repeat (first|apply Kd.N_alloc|apply Kd.N_drewN|apply Kd.N_drew));exact (Kd.N_mono (Kd.N_far (p:=⟨gb346,0,none⟩) (Kd.N_mono HO_5.out (fun k_ hk=>(⟨hk,hk.2⟩:_∧k_≠gb346))) (fun _ hk=>hk.2) (.slice A345_0 (rd_L1 t342 x18_2).length c345_0)) (fun _ h_=>h_.1))) hb);replace HO_16:=zA (Kd.N_below (by (with_reducible repeat (first|apply Kd.N_alloc|apply Kd.N_drewN|apply Kd.N_drew));exact (Kd.N_mono (Kd.N_far (p:=⟨gb346,0,none⟩) (Kd.N_mono HO_16.out (fun k_ hk=>(⟨hk,hk.2⟩:_∧k_≠gb346))) (fun _ hk=>hk.2) (.slice A345_0 (rd_L1 t342 x18_2).length c345_0)) (fun _ h_=>h_.1))) hb);replace BK341:=zA (blk_below (g:=gp1_0) (o:=.cells #[.slice A1_0 l1_0.length c1_0] 22 (0,0)) (by refine zj ?_;refine blk_far ?_ NB341_346.out _;refine zj ?_;exact BK341.out) hb);replace HR345_0:=zA (Kd.C_below ((Kd.V_reads' (by (with_reducible repeat (first|apply Kd.V_alloc|apply Kd.V_drewN|apply Kd.V_drew));exact (Kd.V_mono (Kd.V_far (p:=⟨gb346,0,none⟩) (Kd.V_mono HL345_0.out (fun k_ hk=>(⟨hk,hk.2⟩:_∧k_≠gb346))) (fun _ hk=>hk.2) (.slice A345_0 (rd_L1 t342 x18_2).length c345_0)) (fun _ h_=>h_.1)))).2.2) hb);replace HL345_0:=zA (Kd.V_below (by (with_reducible repeat (first|apply Kd.V_alloc|apply Kd.V_drewN|apply Kd.V_drew));exact (Kd.V_mono (Kd.V_far (p:=⟨gb346,0,none⟩) (Kd.V_mono HL345_0.out (fun k_ hk=>(⟨hk,hk.2⟩:_∧k_≠gb346))) (fun _ hk=>hk.2) (.slice A345_0 (rd_L1 t342 x18_2).length c345_0)) (fun _ h_=>h_.1))) hb);replace BK346:=zA (blk_below (g:=gb346) (o:=.cells #[.slice A345_0 (rd_L1 t342 x18_2).length c345_0] 30 (0,0)) (by refine zj ?_;refine blk_put (cs:=#[.slice none 0 0]) ?_ 0 _ rfl;refine zj ?_;exact BK346.out) hb);replace HB:=zu hb;clear hb;have hnb22:=NB346_341.out;have hnc22:=NB341_346.out;have hcz23_0:=zc0 BK346;have hfz23_0:=zf BK346 0)|(go_at_call 46;(with_reducible refine (conflict_Repairs_1_v1.calls k2 _ _ (rd_L1 t342 x18_2) gp1_0 A1_0 c1_0 l1_0 t348 _ ?side1 HC345_0.out (zD HR1_0 HB) HC1_0.out ?side5 A18.out).mono ?_);(case side1=>exact zC ((Kd.V_reads' HL345_0.out).2.2));(case side5=>refine zj ?_;exact BK341.out);rintro e w24 ⟨rfl,hb⟩;replace HO_5:=zA (Kd.N_below (zN HO_5) hb);replace HO_16:=zA (Kd.N_below (zN HO_16) hb);replace BK341:=zw BK341 hb;replace HR345_0:=zA (Kd.C_below ((Kd.V_reads' HL345_0.out).2.2) hb);replace HL345_0:=zA (Kd.V_below (by (with_reducible repeat (first|apply Kd.V_alloc|apply Kd.V_drewN|apply Kd.V_drew));exact HL345_0.out) hb);replace BK346:=zw BK346 hb;replace HB:=zu hb;clear hb))
        (try simp only [Act.put,zi,zs,zt])
        have H:=HC19.out
        clear HC19
        by_cases c25:t348=true
        ·subst c25
         have H1:(if x5_2.length<5864062014805 then (conflict_least_conflict_Repairs_1.l1 k2 a0 (x5_2++[rd_L1 t342 x18_2]) (wrap64 (a0+1)) x11_1 t342 (t342.length:Int) (wrap64 (x18_2+1)) l1_0) else (none))=some r:=by rw [if_pos rfl] at H;exact H
         clear H
         have H:=H1
         clear H1
         obtain ⟨c26,H⟩:=if1 H
         have LMc26:=zA c26
         clear c26
         first|(replace H:=zyb (x5_2++[rd_L1 t342 x18_2]) H;obtain ⟨y349,Ny349,H⟩:=H)|(obtain ⟨y349,hy349⟩:=zY (x5_2++[rd_L1 t342 x18_2]);(try rw (occs:=.pos [1]) [← hy349] at H);have Ny349:=zA hy349;clear hy349)
         have H':=zA H
         clear H
         have hnb27:=NB346_341.out
         have hnc27:=NB341_346.out
         have hcz28_0:=zc0 BK346
         have hfz28_0:=zf BK346 0
         go_wp2_with (first|((with_reducible refine gate_builtin (b:=.append) (xs:=#[.tmp 31,.tmp 33]) rfl ?_);at_builtin;refine Kd.N_append (Kd.slice 3 (Kd.int .i64)) (w0:=w) w.heap.size rfl (.tmp 31) (.tmp 33) 25 30 (.slice none 0 0) 24 rfl Try.underlying25 info30 rfl (by decide) (by omega) (.slice Ao20 x5_2.length co20) x5_2 (rd_L1 t342 x18_2) [.slice A345_0 (rd_L1 t342 x18_2).length c345_0] (fun k_=>(w.heap.size≤k_)∧some k_≠(.slice (some ad345) t342.length co6:Value).ownBlock∧k_≠gp1_0∧k_≠gb346) (fun k_=>((fun k_=>(w.heap.size≤k_)∧some k_≠(.slice (some ad345) t342.length co6:Value).ownBlock∧k_≠gp1_0∧k_≠gb346)) k_∧some k_≠(.slice Ao20 x5_2.length co20:Value).ownBlock) rfl rfl ?aP (fun _ hk=>hk) ?aF ?aO ?aB ?aS ?aL ?_;(case aP=>exact (Kd.FK_slice_mk (Kd.V_reads' (Kd.V_mono (ok':=(fun k_=>((fun k_=>(w.heap.size≤k_)∧some k_≠(.slice (some ad345) t342.length co6:Value).ownBlock∧k_≠gp1_0∧k_≠gb346)) k_∧some k_≠(.slice Ao20 x5_2.length co20:Value).ownBlock)) (HL345_0.out) (fun k_ hk=>⟨⟨hk.1.1.1,⟨hk.1.2,⟨hk.1.1.2.2,hk.2⟩⟩⟩,hk.1.1.2.1⟩))).2.1 (Kd.V_F (Kd.V_mono (ok':=(fun k_=>((fun k_=>(w.heap.size≤k_)∧some k_≠(.slice (some ad345) t342.length co6:Value).ownBlock∧k_≠gp1_0∧k_≠gb346)) k_∧some k_≠(.slice Ao20 x5_2.length co20:Value).ownBlock)) (HL345_0.out) (fun k_ hk=>⟨⟨hk.1.1.1,⟨hk.1.2,⟨hk.1.1.2.2,hk.2⟩⟩⟩,hk.1.1.2.1⟩)))));(case aB=>exact zB);(case aF=>exact (fun k_ hk=>⟨(Nat.le_trans (below_size zB) hk),Kd.fresh' (Kd.N_lt (zN HO_16)) k_ hk,Kd.freshB (g:=gp1_0) (o:=.cells #[.slice A1_0 l1_0.length c1_0] 22 (0,0)) (zk BK341) k_ hk,Kd.freshB (g:=gb346) (o:=.cells #[.slice A345_0 (rd_L1 t342 x18_2).length c345_0] 30 (0,0)) (zk BK346) k_ hk⟩));(case aO=>exact (by (with_reducible repeat (first|apply Kd.N_alloc|apply Kd.N_drewN|apply Kd.N_drew));exact Kd.N_mono HO_5.out (fun _ hk=>⟨hk.1.1,⟨hk.1.2.1,⟨hk.1.2.2,hk.2⟩⟩⟩)));(case aS=>exact (below_size zB));(case aL=>have:=LMc26.out;omega);intro v350 w29 ho hb hg hat;rw [← Ny349.out] at ho;have HO351:=zA (ho);replace HO_16:=zA (Kd.N_afterv (ok:=(fun k_=>(w.heap.size≤k_)∧k_≠gp1_0∧k_≠gb346)) (by (with_reducible repeat (first|apply Kd.N_alloc|apply Kd.N_drewN|apply Kd.N_drew));exact Kd.N_mono HO_16.out (fun _ hk=>⟨⟨hk.1.1,⟨hk.1.2.2,hk.2⟩⟩,hk.1.2.1⟩)) hg hat);replace BK341:=zA (blk_grown (g:=gp1_0) (o:=.cells #[.slice A1_0 l1_0.length c1_0] 22 (0,0)) (zk BK341) hg (Kd.N_ne HO_5.out BK341.out (by decide)));replace HL345_0:=zA (Kd.V_afterv (ok:=(fun k_=>(w.heap.size≤k_)∧some k_≠(.slice (some ad345) t342.length co6:Value).ownBlock∧k_≠gp1_0∧k_≠gb346)) (by (with_reducible repeat (first|apply Kd.V_alloc|apply Kd.V_drewN|apply Kd.V_drew));exact Kd.V_mono HL345_0.out (fun _ hk=>⟨⟨hk.1.1.1,⟨hk.1.2,⟨hk.1.1.2.2,hk.2⟩⟩⟩,hk.1.1.2.1⟩)) hg hat);replace BK346:=zA (blk_grown (g:=gb346) (o:=.cells #[.slice A345_0 (rd_L1 t342 x18_2).length c345_0] 30 (0,0)) (zk BK346) hg (Kd.N_away HO_5.out (fun _ hk=>hk.2)));replace HB:=zA (hb);clear HO_5;clear ho hb hg hat))
         go_roundg k2
         case measure=>have:=HK1.out;have:=HK2.out;omega
         case rel=>exact ⟨(y349),(wrap64 (x18_2+1)),zT,H',⟨by have:=HK1.out;have:=HK2.out;omega⟩,⟨by (with_reducible repeat (first|apply Kd.N_alloc|apply Kd.N_drewN|apply Kd.N_drew));exact Kd.N_mono HO351.out (fun _ hk=>⟨hk.1,⟨hk.2.1,hk.2.2.1⟩⟩)⟩,⟨by (with_reducible repeat (first|apply Kd.N_alloc|apply Kd.N_drewN|apply Kd.N_drew));exact Kd.N_mono HO_16.out (fun _ hk=>⟨hk.1.1,⟨hk.2,hk.1.2.1⟩⟩)⟩,⟨by refine zj ?_;exact BK341.out⟩,⟨by repeat (first|(with_reducible first|exact HB.out|apply below_alloc|apply pw_below_drewN|apply below_drew1|refine below_set ?_ GE341.out|refine below_set ?_ GE346.out)|exact HB.out)⟩⟩
        ·replace c25:=Bool.eq_false_iff.mpr c25
         subst c25
         have H1:(conflict_least_conflict_Repairs_1.l1 k2 a0 x5_2 (wrap64 (a0+1)) x11_1 t342 (t342.length:Int) (wrap64 (x18_2+1)) l1_0)=some r:=by rw [if_neg (show ¬ (false=true) by decide)] at H;exact H
         clear H
         have H:=H1
         clear H1
         have H':=zA H
         clear H
         go_wp2
         go_roundg k2
         case measure=>have:=HK1.out;have:=HK2.out;omega
         case rel=>exact ⟨(x5_2),(wrap64 (x18_2+1)),zT,H',⟨by have:=HK1.out;have:=HK2.out;omega⟩,⟨by (with_reducible repeat (first|apply Kd.N_alloc|apply Kd.N_drewN|apply Kd.N_drew));exact Kd.N_mono HO_5.out (fun _ hk=>⟨hk.1.1,⟨hk.1.2.1,hk.1.2.2⟩⟩)⟩,⟨by (with_reducible repeat (first|apply Kd.N_alloc|apply Kd.N_drewN|apply Kd.N_drew));exact Kd.N_mono HO_16.out (fun _ hk=>⟨hk.1.1,⟨hk.1.2.1,hk.1.2.2⟩⟩)⟩,⟨by refine zj ?_;exact BK341.out⟩,⟨by repeat (first|(with_reducible first|exact HB.out|apply below_alloc|apply pw_below_drewN|apply below_drew1|refine below_set ?_ GE341.out|refine below_set ?_ GE346.out)|exact HB.out)⟩⟩
      ·have H':=zA H
       clear H
       go_wp2
       go_roundg k2
       case measure=>have:=HK1.out;have:=HK2.out;omega
       case rel=>exact ⟨(x5_2),(wrap64 (x11_1+1)),zT,H',⟨by have:=HK1.out;have:=HK2.out;omega⟩,⟨by (with_reducible repeat (first|apply Kd.N_alloc|apply Kd.N_drewN|apply Kd.N_drew));exact Kd.N_mono HO_5.out (fun _ hk=>⟨hk.1,hk.2.2⟩)⟩,⟨by refine zj ?_;exact BK341.out⟩,⟨by repeat (first|(with_reducible first|exact HB.out|apply below_alloc|apply pw_below_drewN|apply below_drew1|refine below_set ?_ GE341.out)|exact HB.out)⟩⟩
   ·obtain rfl:=Option.some.inj H
    go_wp2
    go_ret
    exact ⟨_,ze,by (with_reducible repeat (first|apply Kd.N_alloc|apply Kd.N_drewN|apply Kd.N_drew));exact Kd.N_mono HO_5.out (fun _ hk=>hk.1),by repeat (first|(with_reducible first|exact HB.out|apply below_alloc|apply pw_below_drewN|apply below_drew1|refine below_set ?_ GE341.out)|exact HB.out)⟩
def conflict_Repairs.f (k:Nat) (l0:List (S50)):Option ((List (List Int))×Int):=(conflict_valid.f k l0).bind fun t342=>(if t342=0 then ((conflict_least_conflict_Repairs_1.f k (l0.length:Int) l0).bind fun t343=>(some (t343,0))) else (some (([]:List (List Int)),t342)))
theorem conflict_Repairs.mono:∀ a0 k,LeO (conflict_Repairs.f k a0) (conflict_Repairs.f (k+1) a0):=by
 intro a0 k
 unfold conflict_Repairs.f
 repeat' first
   | (with_reducible exact conflict_least_conflict_Repairs_1.mono _ _ _)
   | (with_reducible exact conflict_valid.mono _ _)
   | (with_reducible exact LeO.refl _)
   | (with_reducible exact LeO.none _)
   | (with_reducible refine LeO.ite ?_ ?_)
   | (with_reducible refine LeO.bind ?_ (fun _=>?_))
   | exact LeO.none _
   | refine LeO.ite ?_ ?_
   | refine LeO.bind ?_ (fun _=>?_)
set_option maxHeartbeats 8000000 in
set_option maxRecDepth 100000 in
theorem conflict_Repairs.calls (k:Nat) (A0:Option Addr) (c0:Nat) (l0:List (S50)) (r1:List (List Int)) (r2:Int) (w:World) (hr0:Kd.C k50 w A0 l0.length l0) (hc0:l0.length≤c0) (h:conflict_Repairs.f k l0=some (r1,r2)) :
  Calls Try.prog 14 #[.slice A0 l0.length c0] w fun e w'=>∃ v0_:Value,e=.returned (.tuple #[v0_,.int .i64 r2])∧Kd.N (Kd.slice 3 (Kd.int .i64)) 30 w' w.heap.size (fun k_=>(w.heap.size≤k_)) v0_ r1∧Below w.heap.size w w':=by
 have hu22:=Try.underlying22
 have HR0:=zA hr0
 have HC0:=zA hc0
 clear hr0 hc0
 have HB:=zA (Below.refl w.heap.size w)
 have H:((conflict_valid.f k l0).bind fun t342=>(if t342=0 then ((conflict_least_conflict_Repairs_1.f k (l0.length:Int) l0).bind fun t343=>(some (t343,0))) else (some (([]:List (List Int)),t342))))=some (r1,r2):=h
 clear h
 obtain ⟨t342,A2,H⟩:=zo H
 have HC3:=zA H
 clear H
 go_enter Try.func14,Try.ntmps14
 go_upto_if 8 with (first|((with_reducible refine gd 1 rfl ?_);refine zx #[.slice A0 l0.length c0] 22 (h:=?_);intro gb341 hg w4 BK341 hb GW341 HB1;have GE341:=GW341;clear HB hb hg;have HB:=HB1;clear HB1;have hcz5_0:=zc0 BK341;have hfz5_0:=zf BK341 0)|((with_reducible refine gate_callee (f:=40) rfl ?_);refine goesL_ (some 6) rfl rfl Try.func40 zK rfl #[.slice A0 l0.length c0] rfl zM ?_;(with_reducible refine (conflict_valid.calls k _ _ l0 t342 _ (zD HR0 HB) HC0.out A2.out).mono ?_);rintro e w6 ⟨rfl,hb⟩;refine ⟨_,rfl,?_⟩;replace BK341:=zw BK341 hb;replace HB:=zu hb;clear hb))
 (try simp only [Act.put,zi,zs,zt])
 have H:=HC3.out
 clear HC3
 rcases ife H with ⟨c7b0,c7b1,H⟩|⟨c7,c7b0,c7b1,H⟩
 ·(first|rw [c7b0]|(simp only [i64_w,i32_w];rw [c7b0])|skip)
  (try rw [c7b1])
  obtain ⟨t343,A8,H⟩:=zo H
  simp only [Option.some.injEq,Prod.mk.injEq] at H
  obtain ⟨rfl,rfl⟩:=H
  have hcz9_0:=zc0 BK341
  have hfz9_0:=zf BK341 0
  go_wp2_with (first|((with_reducible refine gate_callee (f:=41) rfl ?_);refine goesL_ (some 13) rfl rfl Try.func41 zK rfl #[.int .i64 (l0.length:Int),.func (.func 46) #[] #[.pointer (some ⟨gb341,0,none⟩)]] rfl zM ?_;(with_reducible refine (conflict_least_conflict_Repairs_1.calls k (l0.length:Int) gb341 A0 c0 l0 t343 _ (zD HR0 HB) HC0.out ?side3 A8.out).mono ?_);(case side3=>refine zj ?_;exact BK341.out);rintro e w10 ⟨v344,rfl,ho0,hb⟩;refine ⟨_,rfl,?_⟩;have HO345:=zA (Kd.N_lower (Kd.N_mono (ok':=fun k_=>(w.heap.size≤k_)∧k_≠gb341) ho0 (fun k_ hk_=>⟨(Nat.le_trans (below_size zB) hk_),(Kd.freshB (g:=gb341) (o:=.cells #[.slice A0 l0.length c0] 22 (0,0)) (zk BK341) k_ hk_)⟩)) (below_size zB));replace BK341:=zw BK341 hb;replace HB:=zu hb;clear hb;(try clear ho0)))
  go_ret2
  exact ⟨_,ze,by (with_reducible repeat (first|apply Kd.N_alloc|apply Kd.N_drewN|apply Kd.N_drew));exact Kd.N_mono HO345.out (fun _ hk=>hk.1),by repeat (first|(with_reducible first|exact HB.out|apply below_alloc|apply pw_below_drewN|apply below_drew1|refine below_set ?_ GE341.out)|exact HB.out)⟩
 ·(first|rw [c7b0]|(simp only [i64_w,i32_w];rw [c7b0])|skip)
  (try rw [c7b1])
  simp only [Option.some.injEq,Prod.mk.injEq] at H
  obtain ⟨rfl,rfl⟩:=H
  go_wp2
  go_ret2
  exact ⟨_,ze,by first|exact Kd.S_nil _ _ _ _ _|exact Kd.N_nil _ _ _ _ _|exact Kd.V_nil _ _ _ _ _|exact Kd.Q_nil _ _ _ _ _|exact Kd.R_nil _ _ _ _ _,by repeat (first|(with_reducible first|exact HB.out|apply below_alloc|apply pw_below_drewN|apply below_drew1|refine below_set ?_ GE341.out)|exact HB.out)⟩
section
open Go.Sort Go.Shelf
def slices_Grow_int_int.f (l0:List Int) (a1:Int):Option (List Int):=if 0≤a1 then (if l0.length+(a1:Int).toNat≤17592186044416 then some l0 else none) else none
theorem slices_Grow_int_int.calls (P0_:Nat→Prop) (u9000_:Value) (l0:List Int) (a1:Int) (r:List Int) (w0 w:World) (hB:Below w0.heap.size w0 w) (ho0:Kd.R (Kd.int .i64) 3 w w0.heap.size P0_ u9000_ l0) (h:slices_Grow_int_int.f l0 a1=some r) :
 Calls Try.prog 79 #[u9000_,.int .i64 a1] w fun e w'=>∃ v0_:Value,e=.returned (v0_)∧Kd.R (Kd.int .i64) 3 w' w0.heap.size (fun k_=>(P0_ k_∨w.heap.size≤k_)) v0_ r∧Below w0.heap.size w0 w'∧Kept w w' (fun k_=>P0_ k_):=by
 unfold slices_Grow_int_int.f at h
 by_cases h0:0≤a1
 ·rw [if_pos h0] at h
  by_cases h1:l0.length+(a1:Int).toNat≤17592186044416
  ·rw [if_pos h1] at h
   obtain rfl:=Option.some.inj h
   obtain ⟨n,rfl⟩:∃ n:Nat,a1=(n:Int):=⟨a1.toNat,by omega⟩
   rw [Int.toNat_natCast] at h1
   obtain ⟨A,c,rfl⟩:=Kd.R_slice ho0
   have ho:=Kd.own_of_R (enc:=Value.int .i64) (h1:=fun _=>rfl) ho0
   have hlc:l0.length≤c∧c≤maxLen:=by
    rcases ho.2 with ⟨e1,e2⟩|⟨g,cap,cur,e1,_,_,e2,e3,_⟩
    ·injection e1 with _ _ e3
     subst e3
     exact ⟨by omega,by unfold maxLen;omega⟩
    ·injection e1 with _ _ e4
     subst e4
     exact ⟨e2,e3⟩
   have hm:=hlc.2
   unfold maxLen at hm
   by_cases hroom:l0.length+n≤c
   ·refine (Any8.slices_Grow_room laysGrow A l0.length c n w hlc.1 (by omega) (by omega) hroom).mono ?_
    rintro e w' ⟨rfl,rfl⟩
    exact ⟨_,rfl,Kd.R_mono ho0 (fun k hk=>.inl hk),hB,Kept.refl _ _⟩
   ·obtain ⟨cs,hcl,hnil,hcs,htk⟩:∃ cs:List Value,cs.length=c∧(A=none→c=0)∧(∀ a,A=some a→∀ j v,cs[j]?=some v→w.cell? (a.add j)=some v)∧cs.take l0.length=l0.map (Value.int .i64):=by
     rcases ho.2 with ⟨e1,e2⟩|⟨g,cap,cur,e1,_,hg,e2,e3,e4,e5⟩
     ·injection e1 with e1 e4 e3
      subst e1 e3
      have hl:l0=[]:=List.eq_nil_of_length_eq_zero e2
      subst hl
      exact ⟨[],rfl,fun _=>rfl,fun a ha=>by simp at ha,rfl⟩
     ·injection e1 with e1 _ e6
      subst e1 e6
      refine ⟨cur.toList,by simpa using e4,fun h=>by simp at h,fun a ha j v hv=>?_,by simpa [encs] using e5⟩
      obtain rfl:=Option.some.inj ha
      have hadd:(⟨g,0,none⟩:Addr).add j=⟨g,j,none⟩:=by
       unfold Addr.add
       split
       ·rename_i hj;rw [hj]
       ·simp
      rw [hadd]
      exact (blk_cell hg j).trans (by simpa using hv)
    have hi0:=info3
    obtain ⟨i0,hi,hz,hs,hby⟩:=info_parts hi0
    refine (Any8.slices_Grow_grow laysGrow i0 (.int .i64 0) hi hz (by omega) A l0.length c n cs w hlc.1 (by omega) (by rw [hby];omega) (by omega) (by rw [hcl,hs,Nat.mul_one]) hnil hcs).mono ?_
    rintro e w' ⟨rfl,rfl⟩
    have hgc:=grownCap_ge w (l0.length+n) c (laysGrow_ren.t 25)
    have hgm:=grownCap_le_maxLen w (l0.length+n) c (laysGrow_ren.t 25) (by unfold maxLen;omega)
    have hlt:l0.length≤cs.length:=by omega
    refine ⟨_,rfl,Kd.R_of_own (enc:=Value.int .i64) (h1:=fun _=>rfl) ⟨by simp [encs],.inr ⟨w.heap.size,_,_,rfl,hB.size,blk_new w.drew _,by omega,hgm,?_,?_⟩⟩ (fun k hk=>?_),(hB.drew).alloc hB.size _,((Kept.refl w _).drew).alloc _⟩
    ·simp only [Array.size_append,List.size_toArray,size_zeroCells]
     show cs.length+(l0.length+n - c) * 1+(grownCap w (l0.length+n) c (laysGrow_ren.t 25) - (l0.length+n)) * 1=_
     omega
    ·simp only [Array.toList_append,Nat.mul_one]
     rw [List.append_assoc,List.take_append_of_le_length hlt,htk]
     rfl
    ·simp [Value.ownBlock] at hk
     exact .inr (by omega)
  ·rw [if_neg h1] at h;exact absurd h (by simp)
 ·rw [if_neg h0] at h;exact absurd h (by simp)
end
mutual
def slices_Concat_int_int.l0:Nat→List (List Int)→Int→List (List Int)→Int→Int→Option (List Int)
 | 0,_,_,_,_,_=>none
 | k+1,x0,x3,x9,x10,x11=>if x11<x10 then (if 0≤x11 then (if x11<(x9.length:Int) then (if (wrap64 (x3+((rd_L1 x9 x11).length:Int)))<0 then (none) else (slices_Concat_int_int.l0 k x0 (wrap64 (x3+((rd_L1 x9 x11).length:Int))) x9 x10 (wrap64 (x11+1)))) else (none)) else (none)) else ((slices_Grow_int_int.f ([]:List Int) x3).bind fun t347=>(slices_Concat_int_int.l1 k t347 x0 (x0.length:Int) 0))
def slices_Concat_int_int.l1:Nat→List Int→List (List Int)→Int→Int→Option (List Int)
 | 0,_,_,_,_=>none
 | k+1,x6,x25,x26,x27=>if x27<x26 then (if 0≤x27 then (if x27<(x25.length:Int) then (if x6.length+(rd_L1 x25 x27).length<17592186044416 then (slices_Concat_int_int.l1 k (x6++(rd_L1 x25 x27)) x25 x26 (wrap64 (x27+1))) else (none)) else (none)) else (none)) else (some x6)
end
def slices_Concat_int_int.f (k:Nat) (l0:List (List Int)):Option (List Int):=slices_Concat_int_int.l0 k l0 0 l0 (l0.length:Int) 0
theorem slices_Concat_int_int.mono_l:∀ k,(∀ y0 y1 y2 y3 y4,LeO (slices_Concat_int_int.l0 k y0 y1 y2 y3 y4) (slices_Concat_int_int.l0 (k+1) y0 y1 y2 y3 y4))∧(∀ y0 y1 y2 y3,LeO (slices_Concat_int_int.l1 k y0 y1 y2 y3) (slices_Concat_int_int.l1 (k+1) y0 y1 y2 y3))
 | 0=>⟨fun _ _ _ _ _ r h=>by simp [slices_Concat_int_int.l0] at h,fun _ _ _ _ r h=>by simp [slices_Concat_int_int.l1] at h⟩
 | k+1=>by
  obtain ⟨ih0,ih1⟩:=slices_Concat_int_int.mono_l k
  refine ⟨?_,?_⟩
  ·intro y0 y1 y2 y3 y4
   unfold slices_Concat_int_int.l0
   repeat' first
   | (with_reducible exact ih0 _ _ _ _ _)
   | (with_reducible exact ih1 _ _ _ _)
   | (with_reducible exact LeO.refl _)
   | (with_reducible exact LeO.none _)
   | (with_reducible refine LeO.ite ?_ ?_)
   | (with_reducible refine LeO.bind ?_ (fun _=>?_))
   | exact LeO.none _
   | refine LeO.ite ?_ ?_
   | refine LeO.bind ?_ (fun _=>?_)
  ·intro y0 y1 y2 y3
   unfold slices_Concat_int_int.l1
   repeat' first
   | (with_reducible exact ih0 _ _ _ _ _)
   | (with_reducible exact ih1 _ _ _ _)
   | (with_reducible exact LeO.refl _)
   | (with_reducible exact LeO.none _)
   | (with_reducible refine LeO.ite ?_ ?_)
   | (with_reducible refine LeO.bind ?_ (fun _=>?_))
   | exact LeO.none _
   | refine LeO.ite ?_ ?_
   | refine LeO.bind ?_ (fun _=>?_)
theorem slices_Concat_int_int.mono:∀ a0 k,LeO (slices_Concat_int_int.f k a0) (slices_Concat_int_int.f (k+1) a0):=by
 intro a0 k
 obtain ⟨ih0,ih1⟩:=slices_Concat_int_int.mono_l k
 unfold slices_Concat_int_int.f
 repeat' first
   | (with_reducible exact ih0 _ _ _ _ _)
   | (with_reducible exact ih1 _ _ _ _)
   | (with_reducible exact LeO.refl _)
   | (with_reducible exact LeO.none _)
   | (with_reducible refine LeO.ite ?_ ?_)
   | (with_reducible refine LeO.bind ?_ (fun _=>?_))
   | exact LeO.none _
   | refine LeO.ite ?_ ?_
   | refine LeO.bind ?_ (fun _=>?_)
set_option maxHeartbeats 8000000 in
set_option maxRecDepth 100000 in
theorem slices_Concat_int_int.calls (k:Nat) (A0:Option Addr) (c0:Nat) (l0:List (List Int)) (r:List Int) (w:World) (hr0:Kd.C (Kd.slice 3 (Kd.int .i64)) w A0 l0.length l0) (hc0:l0.length≤c0) (h:slices_Concat_int_int.f k l0=some r) :
  Calls Try.prog 49 #[.slice A0 l0.length c0] w fun e w'=>∃ v0_:Value,e=.returned (v0_)∧Kd.R (Kd.int .i64) 3 w' w.heap.size (fun _=>True) v0_ r∧Below w.heap.size w w':=by
 have hu30:=Try.underlying30
 have HR0:=zA hr0
 have HC0:=zA hc0
 clear hr0 hc0
 have HB:=zA (Below.refl w.heap.size w)
 have H:(slices_Concat_int_int.l0 k l0 0 l0 (l0.length:Int) 0)=some r:=h
 clear h
 have H':=zA H
 clear H
 go_enter Try.func49,Try.ntmps49
 go_wp2
 go_loopg [3,11] k (fun kq v3 v11 w'=>∃ (x3_1:Int) (x11_1:Int),v3=.int .i64 x3_1∧v11=.int .i64 x11_1∧Aside0 (slices_Concat_int_int.l0 kq l0 x3_1 l0 (l0.length:Int) x11_1=some r)∧Aside0 (kq≤k)∧Aside0 (Below w.heap.size w w'))
 case atStart=>exact ⟨(0),(0),zT,zT,H',⟨Nat.le_refl _⟩,⟨by repeat (first|(with_reducible first|exact HB.out|apply below_alloc|apply pw_below_drewN|apply below_drew1)|exact HB.out)⟩⟩
 case round=>
  clear H'
  obtain ⟨x3_1,x11_1,rfl,rfl,HA,HK1,HB⟩:=hrel
  cases gk with
  | zero=>exact absurd HA.out (by simp [slices_Concat_int_int.l0])
  | succ k1=>
   have H:=HA.out
   clear HA
   simp only [slices_Concat_int_int.l0] at H
   rcases ifd H with ⟨c2b0,H⟩|⟨c2b0,H⟩
   ·obtain ⟨c3b0,H⟩:=ifd1 H
    obtain ⟨c4b0,H⟩:=ifd1 H
    obtain ⟨c5b0,H⟩:=ifd2 H
    have H':=zA H
    clear H
    obtain ⟨p346,q346,ad346,A346_0,c346_0,e346,hx346_0,hl346_0,hi346_0⟩:=zp (at_L1 HR0.out x11_1)
    cases e346
    replace hx346_0:=zd HB hx346_0
    have HR346_0:=zA hi346_0
    have HC346_0:=zA hl346_0
    clear hi346_0 hl346_0
    replace p346:=eq_true p346
    replace q346:=eq_true q346
    go_wp2
    go_roundg k1
    case measure=>have:=HK1.out;omega
    case rel=>exact ⟨(wrap64 (x3_1+((rd_L1 l0 x11_1).length:Int))),(wrap64 (x11_1+1)),zT,zT,H',⟨by have:=HK1.out;omega⟩,⟨by repeat (first|(with_reducible first|exact HB.out|apply below_alloc|apply pw_below_drewN|apply below_drew1)|exact HB.out)⟩⟩
   ·obtain ⟨t347,A6,H⟩:=zo H
    have H':=zA H
    clear H
    go_wp2_with (first|((with_reducible refine gate_callee (f:=79) rfl ?_);refine goesL_ (some 24) rfl rfl Try.func79 zK rfl #[.slice none 0 0,.int .i64 x3_1] rfl zM ?_;(refine (slices_Grow_int_int.calls (fun k_=>some k_=(.slice none 0 0:Value).ownBlock) (.slice none 0 0) ([]:List Int) x3_1 t347 w _ ?side1 ?side2 A6.out).mono ?_);(case side1=>repeat (first|(with_reducible first|exact HB.out|apply below_alloc|apply pw_below_drewN|apply below_drew1)|exact HB.out));(case side2=>exact Kd.R_nil _ _ _ _ _);rintro e w7 ⟨v348,rfl,ho0,hb,hkp⟩;refine ⟨_,rfl,?_⟩;have HO349:=zA (Kd.R_mono (ok':=fun k_=>True) ho0 (fun k_ hk_=>trivial));replace HB:=zA (hb);(try clear hb);(try clear hkp);(try clear ho0)))
    go_loopg [6,27] k1 (fun kq v6 v27 w'=>∃ (x6_2:List Int) (x27_2:Int),v27=.int .i64 x27_2∧Aside0 (slices_Concat_int_int.l1 kq x6_2 l0 (l0.length:Int) x27_2=some r)∧Aside0 (kq≤k1)∧Aside0 (Kd.R (Kd.int .i64) 3 w' w.heap.size (fun _=>True) v6 x6_2)∧Aside0 (Below w.heap.size w w'))
    case atStart=>exact ⟨(t347),(0),zT,H',⟨Nat.le_refl _⟩,⟨by refine zr ?_;exact HO349.out⟩,⟨by repeat (first|(with_reducible first|exact HB.out|apply below_alloc|apply pw_below_drewN|apply below_drew1)|exact HB.out)⟩⟩
    case round=>
     clear H'
     try clear c2
     try clear c2b0
     obtain ⟨x6_2,x27_2,rfl,HA,HK2,HO_6,HB⟩:=hrel
     cases gk with
     | zero=>exact absurd HA.out (by simp [slices_Concat_int_int.l1])
     | succ k2=>
      have H:=HA.out
      clear HA
      simp only [slices_Concat_int_int.l1] at H
      rcases ifd H with ⟨c8b0,H⟩|⟨c8b0,H⟩
      ·obtain ⟨c9b0,H⟩:=ifd1 H
       obtain ⟨c10b0,H⟩:=ifd1 H
       obtain ⟨c11,H⟩:=if1 H
       have LMc11:=zA c11
       clear c11
       first|(replace H:=zyb (x6_2++(rd_L1 l0 x27_2)) H;obtain ⟨y351,Ny351,H⟩:=H)|(obtain ⟨y351,hy351⟩:=zY (x6_2++(rd_L1 l0 x27_2));(try rw (occs:=.pos [1]) [← hy351] at H);have Ny351:=zA hy351;clear hy351)
       have H':=zA H
       clear H
       obtain ⟨p350,q350,ad350,A350_0,c350_0,e350,hx350_0,hl350_0,hi350_0⟩:=zp (at_L1 HR0.out x27_2)
       cases e350
       replace hx350_0:=zd HB hx350_0
       have HR350_0:=zA hi350_0
       have HC350_0:=zA hl350_0
       clear hi350_0 hl350_0
       replace p350:=eq_true p350
       replace q350:=eq_true q350
       go_wp2_with (first|((with_reducible refine gate_builtin (b:=.append) (xs:=#[.tmp 31,.tmp 32]) rfl ?_);at_builtin;refine Kd.R_append_rows (Kd.int .i64) (w0:=w) w.heap.size rfl (.tmp 31) (.tmp 32) 30 3 (.int .i64 0) 8 rfl Try.underlying30 info3 rfl (by decide) (by omega) u6 x6_2 (rd_L1 l0 x27_2) _ _ _ (fun _=>True) (fun _=>False) rfl rfl ?aO ?aR (fun _ _ h=>h) (fun _ h=>h.elim) ?aF ?aB ?aS ?aL ?_;(case aR=>exact zC (Kd.C_below HR350_0.out HB.out));(case aB=>exact zB);(case aF=>exact (fun _ _=>trivial));(case aO=>exact (zR HO_6));(case aS=>exact (below_size zB));(case aL=>have:=LMc11.out;omega);intro v352 w12 ho hb hg hat;rw [← Ny351.out] at ho;have HO353:=zA (ho);replace HB:=zA (hb);clear HO_6;clear ho hb hg hat))
       go_roundg k2
       case measure=>have:=HK1.out;have:=HK2.out;omega
       case rel=>exact ⟨(y351),(wrap64 (x27_2+1)),zT,H',⟨by have:=HK1.out;have:=HK2.out;omega⟩,⟨by refine zr ?_;exact HO353.out⟩,⟨by repeat (first|(with_reducible first|exact HB.out|apply below_alloc|apply pw_below_drewN|apply below_drew1)|exact HB.out)⟩⟩
      ·obtain rfl:=Option.some.inj H
       go_wp2
       go_ret
       exact ⟨_,ze,by refine zr ?_;exact HO_6.out,by repeat (first|(with_reducible first|exact HB.out|apply below_alloc|apply pw_below_drewN|apply below_drew1)|exact HB.out)⟩
def conflict_Blame.f (k:Nat) (l0:List (S50)):Option (List Int×Int):=(conflict_Cores.f k l0).bind fun bt354=>(if bt354.2=0 then ((slices_Concat_int_int.f k bt354.1).bind fun t358=>((slices_Sort_int_int.f t358).bind fun t361=>((slices_Compact_int_int.f t361).bind fun t362=>(some (t362,0))))) else (some (([]:List Int),bt354.2)))
theorem conflict_Blame.mono:∀ a0 k,LeO (conflict_Blame.f k a0) (conflict_Blame.f (k+1) a0):=by
 intro a0 k
 unfold conflict_Blame.f
 repeat' first
   | (with_reducible exact conflict_Cores.mono _ _)
   | (with_reducible exact slices_Concat_int_int.mono _ _)
   | (with_reducible exact LeO.refl _)
   | (with_reducible exact LeO.none _)
   | (with_reducible refine LeO.ite ?_ ?_)
   | (with_reducible refine LeO.bind ?_ (fun _=>?_))
   | exact LeO.none _
   | refine LeO.ite ?_ ?_
   | refine LeO.bind ?_ (fun _=>?_)
set_option maxHeartbeats 8000000 in
set_option maxRecDepth 100000 in
theorem conflict_Blame.calls (k:Nat) (A0:Option Addr) (c0:Nat) (l0:List (S50)) (r1:List Int) (r2:Int) (w:World) (hr0:Kd.C k50 w A0 l0.length l0) (hc0:l0.length≤c0) (h:conflict_Blame.f k l0=some (r1,r2)) :
  Calls Try.prog 16 #[.slice A0 l0.length c0] w fun e w'=>∃ v0_:Value,e=.returned (.tuple #[v0_,.int .i64 r2])∧Kd.R (Kd.int .i64) 3 w' w.heap.size (fun _=>True) v0_ r1∧Below w.heap.size w w':=by
 have HR0:=zA hr0
 have HC0:=zA hc0
 clear hr0 hc0
 have HB:=zA (Below.refl w.heap.size w)
 have H:((conflict_Cores.f k l0).bind fun bt354=>(if bt354.2=0 then ((slices_Concat_int_int.f k bt354.1).bind fun t358=>((slices_Sort_int_int.f t358).bind fun t361=>((slices_Compact_int_int.f t361).bind fun t362=>(some (t362,0))))) else (some (([]:List Int),bt354.2))))=some (r1,r2):=h
 clear h
 obtain ⟨t354,t357,A2,H⟩:=zO H
 dsimp only at H
 have HC3:=zA H
 clear H
 go_enter Try.func16,Try.ntmps16
 go_upto_if 13 with (first|((with_reducible refine gate_callee (f:=11) rfl ?_);refine goesL_ (some 9) rfl rfl Try.func11 zK rfl #[.slice A0 l0.length c0] rfl zM ?_;(with_reducible refine (conflict_Cores.calls k _ _ l0 t354 t357 _ ?side1 HC0.out A2.out).mono ?_);(case side1=>repeat (first|exact HR0.out|(with_reducible refine Kd.C_alloc ?_ _)|(with_reducible refine Kd.C_drewN ?_ _)|(with_reducible refine Kd.C_drew ?_)));rintro e w4 ⟨v355,rfl,ho0,hb⟩;refine ⟨_,rfl,?_⟩;have HO356:=zA (Kd.N_lower (Kd.N_mono (ok':=fun k_=>True) ho0 (fun k_ hk_=>trivial)) (below_size zB));replace HB:=zu hb;clear hb;(try clear ho0)))
 (try simp only [Act.put,zi,zs,zt])
 have H:=HC3.out
 clear HC3
 rcases ife H with ⟨c5b0,c5b1,H⟩|⟨c5,c5b0,c5b1,H⟩
 ·(first|rw [c5b0]|(simp only [i64_w,i32_w];rw [c5b0])|skip)
  (try rw [c5b1])
  obtain ⟨t358,A6,H⟩:=zo H
  obtain ⟨t361,A7,H⟩:=zo H
  obtain ⟨t362,A8,H⟩:=zo H
  simp only [Option.some.injEq,Prod.mk.injEq] at H
  obtain ⟨rfl,rfl⟩:=H
  obtain ⟨Ao9,co9,eo9⟩:=Kd.N_slice HO356.out
  subst eo9
  go_wp2_with (first|((with_reducible refine gate_callee (f:=49) rfl ?_);refine goesL_ (some 16) rfl rfl Try.func49 zK rfl #[.slice Ao9 t354.length co9] rfl zM ?_;(with_reducible refine (slices_Concat_int_int.calls k _ _ t354 t358 _ ?side1 ?side2 A6.out).mono ?_);(case side1=>exact zC (Kd.N_reads' HO356.out).2.2);(case side2=>exact (Kd.N_reads' HO356.out).2.1);rintro e w10 ⟨v359,rfl,ho0,hb⟩;refine ⟨_,rfl,?_⟩;have HO360:=zA (Kd.R_lower ho0 (below_size zB));replace HO356:=zA (Kd.N_elder' (zN HO356) (Kd.R_base ho0) hb);replace HB:=zu hb;clear hb;(try clear ho0);obtain ⟨Ao11,co11,eo11⟩:=Kd.R_slice HO360.out;subst eo11)|((with_reducible refine gate_callee (f:=50) rfl ?_);refine goesL_ (some 18) rfl rfl Try.func50 zK rfl #[.slice Ao11 t358.length co11] rfl zM ?_;(with_reducible refine (slices_Sort_int_int.calls (fun k_=>some k_=(.slice Ao11 t358.length co11:Value).ownBlock) (.slice Ao11 t358.length co11) t358 t361 w _ ?side1 ?side2 A7.out).mono ?_);(case side1=>repeat (first|(with_reducible first|exact HB.out|apply below_alloc|apply pw_below_drewN|apply below_drew1)|exact HB.out));(case side2=>exact Kd.R_tight rfl HO360.out);rintro e w12 ⟨rfl,hy0,hb,hkp⟩;refine ⟨_,rfl,?_⟩;replace HO356:=zA (Kd.N_mono (ok':=fun k_=>some k_≠(.slice Ao11 t358.length co11:Value).ownBlock) (Kd.N_keptB (HO356.out) hkp (fun k_ hk_ hs_=>(hk_.2) hs_)) (fun k_ hk_=>hk_.1.2));replace HO360:=zA (Kd.R_reok rfl hy0 (fun k_ e_=>HO360.out.1 k_ e_));replace HB:=zA (hb);(try clear hb);(try clear hkp);(try clear hy0))|((with_reducible refine gate_callee (f:=51) rfl ?_);refine goesL_ (some 20) rfl rfl Try.func51 zK rfl #[.slice Ao11 t358.length co11] rfl zM ?_;(with_reducible refine (slices_Compact_int_int.calls (fun k_=>some k_=(.slice Ao11 t358.length co11:Value).ownBlock) (.slice Ao11 t358.length co11) t361 t362 w _ ?side1 ?side2 A8.out).mono ?_);(case side1=>repeat (first|(with_reducible first|exact HB.out|apply below_alloc|apply pw_below_drewN|apply below_drew1)|exact HB.out));(case side2=>exact Kd.R_tight rfl HO360.out);rintro e w13 ⟨v363,rfl,ho0,hb,hkp⟩;refine ⟨_,rfl,?_⟩;have HO364:=zA (Kd.R_mono (ok':=fun k_=>True) ho0 (fun k_ hk_=>trivial));replace HO356:=zA (Kd.N_mono (ok':=fun k_=>some k_≠(v363:Value).ownBlock) (Kd.N_keptB (HO356.out) hkp (fun k_ hk_ hs_=>(hk_) hs_)) (fun k_ hk_=>fun e_=>Or.elim (ho0.1 k_ e_.symm) (fun hs_=>hk_.2.1 hs_) (fun hn_=>Nat.not_le.2 hk_.2.2 hn_)));replace HB:=zA (hb);clear HO360;(try clear hb);(try clear hkp);(try clear ho0)))
  go_ret2
  exact ⟨_,ze,by refine zr ?_;exact HO364.out,by repeat (first|(with_reducible first|exact HB.out|apply below_alloc|apply pw_below_drewN|apply below_drew1)|exact HB.out)⟩
 ·(first|rw [c5b0]|(simp only [i64_w,i32_w];rw [c5b0])|skip)
  (try rw [c5b1])
  simp only [Option.some.injEq,Prod.mk.injEq] at H
  obtain ⟨rfl,rfl⟩:=H
  go_wp2
  go_ret2
  exact ⟨_,ze,by first|exact Kd.R_nil _ _ _ _ _|exact Kd.N_nil _ _ _ _ _|exact Kd.V_nil _ _ _ _ _|exact Kd.Q_nil _ _ _ _ _|exact Kd.S_nil _ _ _ _ _,by repeat (first|(with_reducible first|exact HB.out|apply below_alloc|apply pw_below_drewN|apply below_drew1)|exact HB.out)⟩
end Go.Proofs.Ytkjghablbeaioaa.G
