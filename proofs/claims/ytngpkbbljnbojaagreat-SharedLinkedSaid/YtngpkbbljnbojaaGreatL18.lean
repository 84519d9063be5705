import Derived.Test.YtngpkbbljnbojaaGreatL0
import Derived.Test.YtngpkbbljnbojaaGreatL12
namespace Go.Proofs.YtngpkbbljnbojaaGreat.L
open Go.RowKit Go.Proofs.YtngpkbbljnbojaaGreatW.PrintWords Go.Proofs.YtngpkbbljnbojaaGreatW.PrintLast Go.Proofs.YtngpkbbljnbojaaGreatW.PrintMore
attribute [local go_sem] max2_int min2_int max_two min_two max_three min_three max_four min_four Tryz.underlying3 Tryz.underlying43 Tryz.underlying63
set_option linter.unusedVariables false
set_option linter.unusedSimpArgs false
theorem zn8 {q p:Prop} (x:q) (h:q→p:=by intro h_;(with_reducible repeat (first|apply Kd.N_alloc|apply Kd.N_drewN|apply Kd.N_drew));exact h_):p:=h x
theorem zv8 {q p:Prop} (x:q) (h:q→p:=by intro h_;(with_reducible repeat (first|apply Kd.V_alloc|apply Kd.V_drewN|apply Kd.V_drew));exact h_):p:=h x
mutual
def ancepsref41_free.l0:Nat→List (S63)→Int→Int→Option (Bool)
 | 0,_,_,_=>none
 | k+1,x0,x1,x5=>if x5<(x0.length:Int) then (ancepsref41_free.l1 k x0 x1 x5 0) else (some true)
def ancepsref41_free.j2:Nat→List (S63)→Int→Int→Int→Option (Bool)
 | 0,_,_,_,_=>none
 | k+1,x0,x1,x5,x6=>if 0≤x5 then (if x5<(x0.length:Int) then (if x6=(((rd_T63 x0 x5).f0).length:Int) then (ancepsref41_free.l0 k x0 x1 (wrap64 (x5+1))) else (ancepsref41_free.l2 k x0 x1 x5 x6 0 ((rd_T63 x0 x5).f0) ([]:List Int))) else (none)) else (none)
def ancepsref41_free.l2:Nat→List (S63)→Int→Int→Int→Int→List Int→List Int→Option (Bool)
 | 0,_,_,_,_,_,_,_=>none
 | k+1,x0,x1,x5,x6,x8,x56,x51=>if 0≤x5 then (if x5<(x0.length:Int) then (if x8<(((rd_T63 x0 x5).f1).length:Int) then (if 0≤x8 then (if 0≤x6 then ((ancepsref41_has.f k ((rd_T63 x0 x5).f1) (Go.bits .xor .i64 (rd ((rd_T63 x0 x5).f1) x8) (shl .i64 1 x6))).bind fun t68=>(if t68=true then (ancepsref41_free.l2 k x0 x1 x5 x6 (wrap64 (x8+1)) x56 x51) else (if x51.length<17592186044416 then (ancepsref41_free.l2 k x0 x1 x5 x6 (wrap64 (x8+1)) x56 (x51++[rd ((rd_T63 x0 x5).f1) x8])) else (none)))) else (none)) else (none)) else ((some (([]:List (S63)):List (S63))).bind fun y61=>(if y61.length+x0.length<2932031007402 then ((some (y61++x0:List (S63))).bind fun y58=>(if x5<(y58.length:Int) then ((ancepsref41_solvable.f k (y58.set (x5:Int).toNat (⟨x56,x51⟩:S63))).bind fun t69=>(if t69=true then (some false) else (ancepsref41_free.l0 k x0 x1 (wrap64 (x5+1))))) else (none))) else (none)))) else (none)) else (none)
def ancepsref41_free.l1:Nat→List (S63)→Int→Int→Int→Option (Bool)
 | 0,_,_,_,_=>none
 | k+1,x0,x1,x5,x6=>if 0≤x5 then (if x5<(x0.length:Int) then (if x6<(((rd_T63 x0 x5).f0).length:Int) then (if 0≤x6 then (if (rd ((rd_T63 x0 x5).f0) x6)=x1 then (ancepsref41_free.j2 k x0 x1 x5 x6) else (ancepsref41_free.l1 k x0 x1 x5 (wrap64 (x6+1)))) else (none)) else (ancepsref41_free.j2 k x0 x1 x5 x6)) else (none)) else (none)
end
def ancepsref41_free.f (k:Nat) (l0:List (S63)) (a1:Int):Option (Bool):=ancepsref41_free.l0 k l0 a1 0
def ancepsref41_free.T12:Bool×List (List Nat×List Nat):=(true,[([],[]),([],[]),([0,1],[0,1]),([2],[2]),([3],[3]),([],[]),([],[]),([5,6],[5,6]),([7],[7]),([8],[8]),([],[]),([9,10],[9,10]),([11],[11]),([],[]),([13],[13]),([12,14],[12,14]),([4,15],[4,15]),([16],[16])])
def ancepsref41_free.B12:List Nat:=[0,0,3,7,15,0,0,96,224,480,0,2016,4064,0,8192,32736,65535,131071]
theorem ancepsref41_free.tab12:rtab .any (opsOf Tryz.f64 12)=ancepsref41_free.T12:=by kernel_rfl
theorem ancepsref41_free.bits12:waitsOk ancepsref41_free.T12.2 ancepsref41_free.B12=true:=by kernel_rfl
def ancepsref41_free.T13:Bool×List (List Nat×List Nat):=(true,[([],[]),([0],[0]),([],[]),([],[]),([2,3],[2,3]),([4],[4]),([5],[5]),([],[]),([6,7],[6,7]),([8],[8]),([9],[9]),([1,10],[1,10]),([0,1,2,3,4,5,6,7,8,9,10,11],[]),([12,11,11,0,1,2,3,4,5,6,7,8,9,10,11],[11,12])])
def ancepsref41_free.B13:List Nat:=[0,1,0,0,12,28,60,0,252,508,1020,2047,4095,8191]
theorem ancepsref41_free.tab13:rtab .any (opsOf Tryz.f64 13)=ancepsref41_free.T13:=by kernel_rfl
theorem ancepsref41_free.bits13:waitsOk ancepsref41_free.T13.2 ancepsref41_free.B13=true:=by kernel_rfl
set_option maxHeartbeats 8000000 in
set_option maxRecDepth 100000 in
theorem ancepsref41_free.calls (k:Nat) (P0_:Nat→Prop) (A0:Option Addr) (c0:Nat) (l0:List (S63)) (a1:Int) (r:Bool) (w:World) (hs0:Kd.V k63 63 w w.heap.size (fun k_=>P0_ k_) (.slice A0 l0.length c0) l0) (h:ancepsref41_free.f k l0 a1=some r) :
  Calls Tryz.prog 64 #[.slice A0 l0.length c0,.int .i64 a1] w fun e w'=>e=.returned (.bool r)∧Below w.heap.size w w':=by
 have HO0:=zA (show Kd.V k63 63 w w.heap.size (fun k_=>(P0_ k_∨w.heap.size≤k_)) (.slice A0 l0.length c0) l0 from Kd.V_mono hs0 (fun k_ hk=>.inl hk));have HB:=zA (Below.refl w.heap.size w);have H:(ancepsref41_free.l0 k l0 a1 0)=some r:=h;clear h;have H':=zA H;clear H
 go_enter Tryz.func64,Tryz.ntmps64
 go_wp2
 go_loopg [5] k (fun kq v5 w'=>∃ (x0_1:List (S63)) (x5_1:Int),v5=.int .i64 x5_1∧Aside0 (ancepsref41_free.l0 kq x0_1 a1 x5_1=some r)∧Aside0 (kq≤k)∧Aside0 (Kd.V k63 63 w' w.heap.size (fun k_=>(P0_ k_∨w.heap.size≤k_)) (.slice A0 l0.length c0) x0_1)∧Aside0 (Below w.heap.size w w'))
 case atStart=>exact ⟨(l0),(0),zT,H',⟨Nat.le_refl _⟩,⟨zV HO0⟩,⟨zv0 HB⟩⟩
 case round=>
  clear H';obtain ⟨x0_1,x5_1,rfl,HA,HK1,HO_0,HB⟩:=hrel;have hl0_1:=(Kd.V_reads' HO_0.out).1;rw [hl0_1] at HO_0;(try simp only [hl0_1])
  cases gk with
  | zero=>exact absurd HA.out (by simp [ancepsref41_free.l0])
  | succ k1=>
   have H:=HA.out;clear HA;simp only [ancepsref41_free.l0] at H
   rcases ifd H with ⟨c3b0,H⟩|⟨c3b0,H⟩
   ·have HC4:=zA H;clear H
    go_upto_block 2 with (fail)
    go_cut [6] (fun v6 wc=>∃ (kq:Nat) (x6_3:Int),v6=.int .i64 x6_3∧Aside0 (ancepsref41_free.j2 kq x0_1 a1 x5_1 x6_3=some r)∧Aside0 (kq≤k1)∧Aside0 (Kd.V k63 63 wc w.heap.size (fun k_=>(P0_ k_∨w.heap.size≤k_)) (.slice A0 x0_1.length c0) x0_1)∧Aside0 (Below w.heap.size w wc))
    case first=>
     have H:=HC4.out;clear HC4;have H':=zA H;clear H
     go_wp2
     go_loopg [6] k1 (fun kq v6 w'=>∃ (x6_2:Int),v6=.int .i64 x6_2∧Aside0 (ancepsref41_free.l1 kq x0_1 a1 x5_1 x6_2=some r)∧Aside0 (kq≤k1)∧Aside0 (Kd.V k63 63 w' w.heap.size (fun k_=>(P0_ k_∨w.heap.size≤k_)) (.slice A0 x0_1.length c0) x0_1)∧Aside0 (Below w.heap.size w w'))
     case atStart=>exact ⟨(0),zT,H',⟨Nat.le_refl _⟩,⟨by (try simp only [hl0_1]);refine zv8 ?_;exact HO_0.out⟩,⟨zv0 HB⟩⟩
     case round=>
      clear H'
      try clear c3
      try clear c3b0
      obtain ⟨x6_2,rfl,HA,HK2,HO_0,HB⟩:=hrel
      cases gk with
      | zero=>exact absurd HA.out (by simp [ancepsref41_free.l1])
      | succ k2=>
       have H:=HA.out;clear HA;simp only [ancepsref41_free.l1] at H;obtain ⟨c5b0,H⟩:=ifd1 H
       (first|rw [c5b0]|(simp only [i64_w,i32_w];rw [c5b0])|skip)
       obtain ⟨c6b0,H⟩:=ifd1 H
       rcases ifd H with ⟨c7b0,H⟩|⟨c7b0,H⟩
       ·obtain ⟨c8b0,H⟩:=ifd1 H
        rcases ife H with ⟨c9b0,c9b1,H⟩|⟨c9,c9b0,c9b1,H⟩
        ·have H':=zA H;clear H;obtain ⟨p46,q46,ad46,A46_0,c46_0,A46_1,c46_1,e46,hx46_0,hx46_1,hl46_0,hi46_0,hl46_1,hi46_1⟩:=zp (at_T63 (Kd.V_reads' HO_0.out).2.2 x5_1)
         cases e46
         obtain ⟨ce46,hce46,hMe46,hcc46⟩:=Kd.V_get HO_0.out z63 x5_1 p46 (by first|exact q46|exact of_decide_eq_true zh|(have e_:=(Kd.V_reads' HO_0.out).1;omega));obtain ⟨ua46_0,uc46_0,ua46_1,uc46_1,rfl,ul46_0,ge46_0,ul46_1,ge46_1⟩:=k63_openF hMe46;have hv46_0:=hcc46 0 _ rfl;rw [Nat.add_zero] at hv46_0;replace hv46_0:=Option.some.inj (hv46_0.symm.trans hx46_0)
         injection hv46_0 with hva_ hvn_ hvc_
         rw [hva_] at ge46_0;rw [hvc_] at ul46_0;have HL46_0:=zA (show Kd.V (Kd.int .i64) 3 _ w.heap.size _ _ ((rd_T63 x0_1 x5_1).f0) from Kd.V_mk ul46_0 ge46_0);clear hva_ hvn_ hvc_ ge46_0 ul46_0;have hv46_1:=hcc46 1 _ rfl;rw [add_field _ _ 1 (by omega)] at hv46_1;replace hv46_1:=Option.some.inj (hv46_1.symm.trans hx46_1)
         injection hv46_1 with hva_ hvn_ hvc_
         rw [hva_] at ge46_1;rw [hvc_] at ul46_1;have HL46_1:=zA (show Kd.V (Kd.int .i64) 3 _ w.heap.size _ _ ((rd_T63 x0_1 x5_1).f1) from Kd.V_mk ul46_1 ge46_1);clear hva_ hvn_ hvc_ ge46_1 ul46_1;clear hcc46 hce46;have HR46_0:=zA hi46_0;have HC46_0:=zA hl46_0;clear hi46_0 hl46_0;have HR46_1:=zA hi46_1;have HC46_1:=zA hl46_1;clear hi46_1 hl46_1;replace p46:=eq_true p46;replace q46:=eq_true q46;obtain ⟨p49,q49,ad49,A49_0,c49_0,A49_1,c49_1,e49,hx49_0,hx49_1,hl49_0,hi49_0,hl49_1,hi49_1⟩:=zp (at_T63 (Kd.V_reads' HO_0.out).2.2 x5_1)
         obtain rfl:ad46=ad49:=(by injection e49)
         obtain ⟨ce49,hce49,hMe49,hcc49⟩:=Kd.V_get HO_0.out z63 x5_1 p49 (by first|exact q49|exact of_decide_eq_true zh|(have e_:=(Kd.V_reads' HO_0.out).1;omega));obtain ⟨ua49_0,uc49_0,ua49_1,uc49_1,rfl,ul49_0,ge49_0,ul49_1,ge49_1⟩:=k63_openF hMe49;have hv49_0:=hcc49 0 _ rfl;rw [Nat.add_zero] at hv49_0;replace hv49_0:=Option.some.inj (hv49_0.symm.trans hx49_0)
         injection hv49_0 with hva_ hvn_ hvc_
         rw [hva_] at ge49_0;rw [hvc_] at ul49_0;have HL49_0:=zA (show Kd.V (Kd.int .i64) 3 _ w.heap.size _ _ ((rd_T63 x0_1 x5_1).f0) from Kd.V_mk ul49_0 ge49_0);clear hva_ hvn_ hvc_ ge49_0 ul49_0;have hv49_1:=hcc49 1 _ rfl;rw [add_field _ _ 1 (by omega)] at hv49_1;replace hv49_1:=Option.some.inj (hv49_1.symm.trans hx49_1)
         injection hv49_1 with hva_ hvn_ hvc_
         rw [hva_] at ge49_1;rw [hvc_] at ul49_1;have HL49_1:=zA (show Kd.V (Kd.int .i64) 3 _ w.heap.size _ _ ((rd_T63 x0_1 x5_1).f1) from Kd.V_mk ul49_1 ge49_1);clear hva_ hvn_ hvc_ ge49_1 ul49_1;clear hcc49 hce49;have HR49_0:=zA hi49_0;have HC49_0:=zA hl49_0;clear hi49_0 hl49_0;have HR49_1:=zA hi49_1;have HC49_1:=zA hl49_1;clear hi49_1 hl49_1;replace p49:=eq_true p49;replace q49:=eq_true q49;have ea_:=Option.some.inj (hx46_0.symm.trans hx49_0)
         injection ea_ with ea_ en_ ec_
         subst ea_;subst ec_;clear en_;have ea_:=Option.some.inj (hx46_1.symm.trans hx49_1)
         injection ea_ with ea_ en_ ec_
         subst ea_;subst ec_;clear en_;obtain ⟨p59,q59,ad59,e59,hx59_0⟩:=zp (Kd.at_int ((Kd.V_reads' HL49_0.out).2.2) x6_2)
         cases e59
         replace p59:=eq_true p59;replace q59:=eq_true q59
         go_wp2
         go_meet
         case rel=>exact ⟨_,(x6_2),zT,H',⟨by have:=HK1.out;have:=HK2.out;first|omega|exact Nat.le_refl _⟩,⟨by (try simp only [hl0_1]);refine zv8 ?_;exact HO_0.out⟩,⟨zv0 HB⟩⟩
        ·have H':=zA H;clear H;obtain ⟨p46,q46,ad46,A46_0,c46_0,A46_1,c46_1,e46,hx46_0,hx46_1,hl46_0,hi46_0,hl46_1,hi46_1⟩:=zp (at_T63 (Kd.V_reads' HO_0.out).2.2 x5_1)
         cases e46
         obtain ⟨ce46,hce46,hMe46,hcc46⟩:=Kd.V_get HO_0.out z63 x5_1 p46 (by first|exact q46|exact of_decide_eq_true zh|(have e_:=(Kd.V_reads' HO_0.out).1;omega));obtain ⟨ua46_0,uc46_0,ua46_1,uc46_1,rfl,ul46_0,ge46_0,ul46_1,ge46_1⟩:=k63_openF hMe46;have hv46_0:=hcc46 0 _ rfl;rw [Nat.add_zero] at hv46_0;replace hv46_0:=Option.some.inj (hv46_0.symm.trans hx46_0)
         injection hv46_0 with hva_ hvn_ hvc_
         rw [hva_] at ge46_0;rw [hvc_] at ul46_0;have HL46_0:=zA (show Kd.V (Kd.int .i64) 3 _ w.heap.size _ _ ((rd_T63 x0_1 x5_1).f0) from Kd.V_mk ul46_0 ge46_0);clear hva_ hvn_ hvc_ ge46_0 ul46_0;have hv46_1:=hcc46 1 _ rfl;rw [add_field _ _ 1 (by omega)] at hv46_1;replace hv46_1:=Option.some.inj (hv46_1.symm.trans hx46_1)
         injection hv46_1 with hva_ hvn_ hvc_
         rw [hva_] at ge46_1;rw [hvc_] at ul46_1;have HL46_1:=zA (show Kd.V (Kd.int .i64) 3 _ w.heap.size _ _ ((rd_T63 x0_1 x5_1).f1) from Kd.V_mk ul46_1 ge46_1);clear hva_ hvn_ hvc_ ge46_1 ul46_1;clear hcc46 hce46;have HR46_0:=zA hi46_0;have HC46_0:=zA hl46_0;clear hi46_0 hl46_0;have HR46_1:=zA hi46_1;have HC46_1:=zA hl46_1;clear hi46_1 hl46_1;replace p46:=eq_true p46;replace q46:=eq_true q46;obtain ⟨p49,q49,ad49,A49_0,c49_0,A49_1,c49_1,e49,hx49_0,hx49_1,hl49_0,hi49_0,hl49_1,hi49_1⟩:=zp (at_T63 (Kd.V_reads' HO_0.out).2.2 x5_1)
         obtain rfl:ad46=ad49:=(by injection e49)
         obtain ⟨ce49,hce49,hMe49,hcc49⟩:=Kd.V_get HO_0.out z63 x5_1 p49 (by first|exact q49|exact of_decide_eq_true zh|(have e_:=(Kd.V_reads' HO_0.out).1;omega));obtain ⟨ua49_0,uc49_0,ua49_1,uc49_1,rfl,ul49_0,ge49_0,ul49_1,ge49_1⟩:=k63_openF hMe49;have hv49_0:=hcc49 0 _ rfl;rw [Nat.add_zero] at hv49_0;replace hv49_0:=Option.some.inj (hv49_0.symm.trans hx49_0)
         injection hv49_0 with hva_ hvn_ hvc_
         rw [hva_] at ge49_0;rw [hvc_] at ul49_0;have HL49_0:=zA (show Kd.V (Kd.int .i64) 3 _ w.heap.size _ _ ((rd_T63 x0_1 x5_1).f0) from Kd.V_mk ul49_0 ge49_0);clear hva_ hvn_ hvc_ ge49_0 ul49_0;have hv49_1:=hcc49 1 _ rfl;rw [add_field _ _ 1 (by omega)] at hv49_1;replace hv49_1:=Option.some.inj (hv49_1.symm.trans hx49_1)
         injection hv49_1 with hva_ hvn_ hvc_
         rw [hva_] at ge49_1;rw [hvc_] at ul49_1;have HL49_1:=zA (show Kd.V (Kd.int .i64) 3 _ w.heap.size _ _ ((rd_T63 x0_1 x5_1).f1) from Kd.V_mk ul49_1 ge49_1);clear hva_ hvn_ hvc_ ge49_1 ul49_1;clear hcc49 hce49;have HR49_0:=zA hi49_0;have HC49_0:=zA hl49_0;clear hi49_0 hl49_0;have HR49_1:=zA hi49_1;have HC49_1:=zA hl49_1;clear hi49_1 hl49_1;replace p49:=eq_true p49;replace q49:=eq_true q49;have ea_:=Option.some.inj (hx46_0.symm.trans hx49_0)
         injection ea_ with ea_ en_ ec_
         subst ea_;subst ec_;clear en_;have ea_:=Option.some.inj (hx46_1.symm.trans hx49_1)
         injection ea_ with ea_ en_ ec_
         subst ea_;subst ec_;clear en_;obtain ⟨p59,q59,ad59,e59,hx59_0⟩:=zp (Kd.at_int ((Kd.V_reads' HL49_0.out).2.2) x6_2)
         cases e59
         replace p59:=eq_true p59;replace q59:=eq_true q59
         go_wp2
         go_roundg k2
         case measure=>have:=HK1.out;have:=HK2.out;omega
         case rel=>exact ⟨(wrap64 (x6_2+1)),zT,H',⟨by have:=HK1.out;have:=HK2.out;omega⟩,⟨by (try simp only [hl0_1]);refine zv8 ?_;exact HO_0.out⟩,⟨zv0 HB⟩⟩
       ·have H':=zA H;clear H;obtain ⟨p46,q46,ad46,A46_0,c46_0,A46_1,c46_1,e46,hx46_0,hx46_1,hl46_0,hi46_0,hl46_1,hi46_1⟩:=zp (at_T63 (Kd.V_reads' HO_0.out).2.2 x5_1)
        cases e46
        obtain ⟨ce46,hce46,hMe46,hcc46⟩:=Kd.V_get HO_0.out z63 x5_1 p46 (by first|exact q46|exact of_decide_eq_true zh|(have e_:=(Kd.V_reads' HO_0.out).1;omega));obtain ⟨ua46_0,uc46_0,ua46_1,uc46_1,rfl,ul46_0,ge46_0,ul46_1,ge46_1⟩:=k63_openF hMe46;have hv46_0:=hcc46 0 _ rfl;rw [Nat.add_zero] at hv46_0;replace hv46_0:=Option.some.inj (hv46_0.symm.trans hx46_0)
        injection hv46_0 with hva_ hvn_ hvc_
        rw [hva_] at ge46_0;rw [hvc_] at ul46_0;have HL46_0:=zA (show Kd.V (Kd.int .i64) 3 _ w.heap.size _ _ ((rd_T63 x0_1 x5_1).f0) from Kd.V_mk ul46_0 ge46_0);clear hva_ hvn_ hvc_ ge46_0 ul46_0;have hv46_1:=hcc46 1 _ rfl;rw [add_field _ _ 1 (by omega)] at hv46_1;replace hv46_1:=Option.some.inj (hv46_1.symm.trans hx46_1)
        injection hv46_1 with hva_ hvn_ hvc_
        rw [hva_] at ge46_1;rw [hvc_] at ul46_1;have HL46_1:=zA (show Kd.V (Kd.int .i64) 3 _ w.heap.size _ _ ((rd_T63 x0_1 x5_1).f1) from Kd.V_mk ul46_1 ge46_1);clear hva_ hvn_ hvc_ ge46_1 ul46_1;clear hcc46 hce46;have HR46_0:=zA hi46_0;have HC46_0:=zA hl46_0;clear hi46_0 hl46_0;have HR46_1:=zA hi46_1;have HC46_1:=zA hl46_1;clear hi46_1 hl46_1;replace p46:=eq_true p46;replace q46:=eq_true q46
        go_wp2
        go_meet
        case rel=>exact ⟨_,(x6_2),zT,H',⟨by have:=HK1.out;have:=HK2.out;first|omega|exact Nat.le_refl _⟩,⟨by (try simp only [hl0_1]);refine zv8 ?_;exact HO_0.out⟩,⟨zv0 HB⟩⟩
    case rest=>
     clear HC4
     try clear c3
     try clear c3b0
     obtain ⟨kq,x6_3,rfl,HA,HJ3,HO_0,HB⟩:=hcut
     cases kq with
     | zero=>exact absurd HA.out (by simp [ancepsref41_free.j2])
     | succ kj3=>
      have H:=HA.out;clear HA;simp only [ancepsref41_free.j2] at H;obtain ⟨c10b0,H⟩:=ifd1 H;obtain ⟨c11b0,H⟩:=ifd1 H
      rcases ife H with ⟨c12b0,c12b1,H⟩|⟨c12,c12b0,c12b1,H⟩
      ·have H':=zA H;clear H;obtain ⟨p45,q45,ad45,A45_0,c45_0,A45_1,c45_1,e45,hx45_0,hx45_1,hl45_0,hi45_0,hl45_1,hi45_1⟩:=zp (at_T63 (Kd.V_reads' HO_0.out).2.2 x5_1)
       cases e45
       obtain ⟨ce45,hce45,hMe45,hcc45⟩:=Kd.V_get HO_0.out z63 x5_1 p45 (by first|exact q45|exact of_decide_eq_true zh|(have e_:=(Kd.V_reads' HO_0.out).1;omega));obtain ⟨ua45_0,uc45_0,ua45_1,uc45_1,rfl,ul45_0,ge45_0,ul45_1,ge45_1⟩:=k63_openF hMe45;have hv45_0:=hcc45 0 _ rfl;rw [Nat.add_zero] at hv45_0;replace hv45_0:=Option.some.inj (hv45_0.symm.trans hx45_0)
       injection hv45_0 with hva_ hvn_ hvc_
       rw [hva_] at ge45_0;rw [hvc_] at ul45_0;have HL45_0:=zA (show Kd.V (Kd.int .i64) 3 _ w.heap.size _ _ ((rd_T63 x0_1 x5_1).f0) from Kd.V_mk ul45_0 ge45_0);clear hva_ hvn_ hvc_ ge45_0 ul45_0;have hv45_1:=hcc45 1 _ rfl;rw [add_field _ _ 1 (by omega)] at hv45_1;replace hv45_1:=Option.some.inj (hv45_1.symm.trans hx45_1)
       injection hv45_1 with hva_ hvn_ hvc_
       rw [hva_] at ge45_1;rw [hvc_] at ul45_1;have HL45_1:=zA (show Kd.V (Kd.int .i64) 3 _ w.heap.size _ _ ((rd_T63 x0_1 x5_1).f1) from Kd.V_mk ul45_1 ge45_1);clear hva_ hvn_ hvc_ ge45_1 ul45_1;clear hcc45 hce45;have HR45_0:=zA hi45_0;have HC45_0:=zA hl45_0;clear hi45_0 hl45_0;have HR45_1:=zA hi45_1;have HC45_1:=zA hl45_1;clear hi45_1 hl45_1;replace p45:=eq_true p45;replace q45:=eq_true q45
       go_wp2
       (try simp only [← hl0_1])
       go_roundg kj3
       case measure=>have:=HK1.out;have:=HJ3.out;omega
       case rel=>exact ⟨(x0_1),(wrap64 (x5_1+1)),zT,H',⟨by have:=HK1.out;have:=HJ3.out;omega⟩,⟨by (try simp only [hl0_1]);refine zv8 ?_;exact HO_0.out⟩,⟨zv0 HB⟩⟩
      ·have H':=zA H;clear H;obtain ⟨p45,q45,ad45,A45_0,c45_0,A45_1,c45_1,e45,hx45_0,hx45_1,hl45_0,hi45_0,hl45_1,hi45_1⟩:=zp (at_T63 (Kd.V_reads' HO_0.out).2.2 x5_1)
       cases e45
       obtain ⟨ce45,hce45,hMe45,hcc45⟩:=Kd.V_get HO_0.out z63 x5_1 p45 (by first|exact q45|exact of_decide_eq_true zh|(have e_:=(Kd.V_reads' HO_0.out).1;omega));obtain ⟨ua45_0,uc45_0,ua45_1,uc45_1,rfl,ul45_0,ge45_0,ul45_1,ge45_1⟩:=k63_openF hMe45;have hv45_0:=hcc45 0 _ rfl;rw [Nat.add_zero] at hv45_0;replace hv45_0:=Option.some.inj (hv45_0.symm.trans hx45_0)
       injection hv45_0 with hva_ hvn_ hvc_
       rw [hva_] at ge45_0;rw [hvc_] at ul45_0;have HL45_0:=zA (show Kd.V (Kd.int .i64) 3 _ w.heap.size _ _ ((rd_T63 x0_1 x5_1).f0) from Kd.V_mk ul45_0 ge45_0);clear hva_ hvn_ hvc_ ge45_0 ul45_0;have hv45_1:=hcc45 1 _ rfl;rw [add_field _ _ 1 (by omega)] at hv45_1;replace hv45_1:=Option.some.inj (hv45_1.symm.trans hx45_1)
       injection hv45_1 with hva_ hvn_ hvc_
       rw [hva_] at ge45_1;rw [hvc_] at ul45_1;have HL45_1:=zA (show Kd.V (Kd.int .i64) 3 _ w.heap.size _ _ ((rd_T63 x0_1 x5_1).f1) from Kd.V_mk ul45_1 ge45_1);clear hva_ hvn_ hvc_ ge45_1 ul45_1;clear hcc45 hce45;have HR45_0:=zA hi45_0;have HC45_0:=zA hl45_0;clear hi45_0 hl45_0;have HR45_1:=zA hi45_1;have HC45_1:=zA hl45_1;clear hi45_1 hl45_1;replace p45:=eq_true p45;replace q45:=eq_true q45;obtain ⟨p55,q55,ad55,A55_0,c55_0,A55_1,c55_1,e55,hx55_0,hx55_1,hl55_0,hi55_0,hl55_1,hi55_1⟩:=zp (at_T63 (Kd.V_reads' HO_0.out).2.2 x5_1)
       obtain rfl:ad45=ad55:=(by injection e55)
       obtain ⟨ce55,hce55,hMe55,hcc55⟩:=Kd.V_get HO_0.out z63 x5_1 p55 (by first|exact q55|exact of_decide_eq_true zh|(have e_:=(Kd.V_reads' HO_0.out).1;omega));obtain ⟨ua55_0,uc55_0,ua55_1,uc55_1,rfl,ul55_0,ge55_0,ul55_1,ge55_1⟩:=k63_openF hMe55;have hv55_0:=hcc55 0 _ rfl;rw [Nat.add_zero] at hv55_0;replace hv55_0:=Option.some.inj (hv55_0.symm.trans hx55_0)
       injection hv55_0 with hva_ hvn_ hvc_
       rw [hva_] at ge55_0;rw [hvc_] at ul55_0;have HL55_0:=zA (show Kd.V (Kd.int .i64) 3 _ w.heap.size _ _ ((rd_T63 x0_1 x5_1).f0) from Kd.V_mk ul55_0 ge55_0);clear hva_ hvn_ hvc_ ge55_0 ul55_0;have hv55_1:=hcc55 1 _ rfl;rw [add_field _ _ 1 (by omega)] at hv55_1;replace hv55_1:=Option.some.inj (hv55_1.symm.trans hx55_1)
       injection hv55_1 with hva_ hvn_ hvc_
       rw [hva_] at ge55_1;rw [hvc_] at ul55_1;have HL55_1:=zA (show Kd.V (Kd.int .i64) 3 _ w.heap.size _ _ ((rd_T63 x0_1 x5_1).f1) from Kd.V_mk ul55_1 ge55_1);clear hva_ hvn_ hvc_ ge55_1 ul55_1;clear hcc55 hce55;have HR55_0:=zA hi55_0;have HC55_0:=zA hl55_0;clear hi55_0 hl55_0;have HR55_1:=zA hi55_1;have HC55_1:=zA hl55_1;clear hi55_1 hl55_1;replace p55:=eq_true p55;replace q55:=eq_true q55;have ea_:=Option.some.inj (hx45_0.symm.trans hx55_0)
       injection ea_ with ea_ en_ ec_
       subst ea_;subst ec_;clear en_;have ea_:=Option.some.inj (hx45_1.symm.trans hx55_1)
       injection ea_ with ea_ en_ ec_
       subst ea_;subst ec_;clear en_
       go_wp2_with (first|((with_reducible refine gd 7 rfl ?_);refine zx #[.slice none 0 0,.slice none 0 0] 63 ?_;intro gb48 hg w13 BK48 hb GW48 HB1;have GE48:=GW48;replace HO_0:=zA (Kd.V_below (Kd.V_elderB (zV HO_0) gb48 (Nat.le_of_eq hg.symm)) hb);replace HR45_0:=zA (Kd.C_below ((Kd.V_reads' HL45_0.out).2.2) hb);replace HL45_0:=zA (Kd.V_below (Kd.V_elderB (zV HL45_0) gb48 (Nat.le_of_eq hg.symm)) hb);replace HR45_1:=zA (Kd.C_below ((Kd.V_reads' HL45_1.out).2.2) hb);replace HL45_1:=zA (Kd.V_below (Kd.V_elderB (zV HL45_1) gb48 (Nat.le_of_eq hg.symm)) hb);replace HR55_0:=zA (Kd.C_below ((Kd.V_reads' HL55_0.out).2.2) hb);replace HL55_0:=zA (Kd.V_below (Kd.V_elderB (zV HL55_0) gb48 (Nat.le_of_eq hg.symm)) hb);replace HR55_1:=zA (Kd.C_below ((Kd.V_reads' HL55_1.out).2.2) hb);replace HL55_1:=zA (Kd.V_below (Kd.V_elderB (zV HL55_1) gb48 (Nat.le_of_eq hg.symm)) hb);clear HB hb hg;have HB:=HB1;clear HB1;have hcz14_0:=zc0 BK48;have hcz14_1:=zc1 BK48;have hfz14_0:=zf BK48))
       (try simp only [Act.put,zi,zs,zt])
       have n0_:Aside0 (Kd.V k63 63 ((w13.setCell ⟨gb48,0,none⟩ (.slice A45_0 ((rd_T63 x0_1 x5_1).f0).length c45_0)).setCell ⟨gb48,1,none⟩ (.slice none 0 0)) w.heap.size (fun k_=>(P0_ k_∨w.heap.size≤k_)∧k_≠gb48) (.slice (some ad45) x0_1.length c0) x0_1):=⟨by refine zv8 ?_;exact Kd.V_mono (Kd.V_far (p:=⟨gb48,1,none⟩) (Kd.V_far (p:=⟨gb48,0,none⟩) (Kd.V_mono HO_0.out (fun k_ hk=>(⟨hk,hk.2⟩:_∧k_≠gb48))) (fun _ hk=>hk.2) (.slice A45_0 ((rd_T63 x0_1 x5_1).f0).length c45_0)) (fun _ hk=>hk.2) (.slice none 0 0)) (fun _ hk=>⟨hk.1.1,hk.1.2⟩)⟩
       have n1_:Aside0 (Kd.V (Kd.int .i64) 3 ((w13.setCell ⟨gb48,0,none⟩ (.slice A45_0 ((rd_T63 x0_1 x5_1).f0).length c45_0)).setCell ⟨gb48,1,none⟩ (.slice none 0 0)) w.heap.size (fun k_=>(P0_ k_∨w.heap.size≤k_)∧k_≠gb48) (.slice A45_0 ((rd_T63 x0_1 x5_1).f0).length c45_0) ((rd_T63 x0_1 x5_1).f0)):=⟨by refine zv8 ?_;exact Kd.V_mono (Kd.V_far (p:=⟨gb48,1,none⟩) (Kd.V_far (p:=⟨gb48,0,none⟩) (Kd.V_mono HL45_0.out (fun k_ hk=>(⟨hk,hk.2⟩:_∧k_≠gb48))) (fun _ hk=>hk.2) (.slice A45_0 ((rd_T63 x0_1 x5_1).f0).length c45_0)) (fun _ hk=>hk.2) (.slice none 0 0)) (fun _ hk=>⟨hk.1.1,hk.1.2⟩)⟩
       have n2_:Aside0 (Kd.V (Kd.int .i64) 3 ((w13.setCell ⟨gb48,0,none⟩ (.slice A45_0 ((rd_T63 x0_1 x5_1).f0).length c45_0)).setCell ⟨gb48,1,none⟩ (.slice none 0 0)) w.heap.size (fun k_=>(P0_ k_∨w.heap.size≤k_)∧k_≠gb48) (.slice A45_1 ((rd_T63 x0_1 x5_1).f1).length c45_1) ((rd_T63 x0_1 x5_1).f1)):=⟨by refine zv8 ?_;exact Kd.V_mono (Kd.V_far (p:=⟨gb48,1,none⟩) (Kd.V_far (p:=⟨gb48,0,none⟩) (Kd.V_mono HL45_1.out (fun k_ hk=>(⟨hk,hk.2⟩:_∧k_≠gb48))) (fun _ hk=>hk.2) (.slice A45_0 ((rd_T63 x0_1 x5_1).f0).length c45_0)) (fun _ hk=>hk.2) (.slice none 0 0)) (fun _ hk=>⟨hk.1.1,hk.1.2⟩)⟩
       have n3_:Aside0 (Kd.V (Kd.int .i64) 3 ((w13.setCell ⟨gb48,0,none⟩ (.slice A45_0 ((rd_T63 x0_1 x5_1).f0).length c45_0)).setCell ⟨gb48,1,none⟩ (.slice none 0 0)) w.heap.size (fun k_=>(P0_ k_∨w.heap.size≤k_)∧k_≠gb48) (.slice A45_0 ((rd_T63 x0_1 x5_1).f0).length c45_0) ((rd_T63 x0_1 x5_1).f0)):=⟨by refine zv8 ?_;exact Kd.V_mono (Kd.V_far (p:=⟨gb48,1,none⟩) (Kd.V_far (p:=⟨gb48,0,none⟩) (Kd.V_mono HL55_0.out (fun k_ hk=>(⟨hk,hk.2⟩:_∧k_≠gb48))) (fun _ hk=>hk.2) (.slice A45_0 ((rd_T63 x0_1 x5_1).f0).length c45_0)) (fun _ hk=>hk.2) (.slice none 0 0)) (fun _ hk=>⟨hk.1.1,hk.1.2⟩)⟩
       have n4_:Aside0 (Kd.V (Kd.int .i64) 3 ((w13.setCell ⟨gb48,0,none⟩ (.slice A45_0 ((rd_T63 x0_1 x5_1).f0).length c45_0)).setCell ⟨gb48,1,none⟩ (.slice none 0 0)) w.heap.size (fun k_=>(P0_ k_∨w.heap.size≤k_)∧k_≠gb48) (.slice A45_1 ((rd_T63 x0_1 x5_1).f1).length c45_1) ((rd_T63 x0_1 x5_1).f1)):=⟨by refine zv8 ?_;exact Kd.V_mono (Kd.V_far (p:=⟨gb48,1,none⟩) (Kd.V_far (p:=⟨gb48,0,none⟩) (Kd.V_mono HL55_1.out (fun k_ hk=>(⟨hk,hk.2⟩:_∧k_≠gb48))) (fun _ hk=>hk.2) (.slice A45_0 ((rd_T63 x0_1 x5_1).f0).length c45_0)) (fun _ hk=>hk.2) (.slice none 0 0)) (fun _ hk=>⟨hk.1.1,hk.1.2⟩)⟩
       have n5_:Aside0 (((w13.setCell ⟨gb48,0,none⟩ (.slice A45_0 ((rd_T63 x0_1 x5_1).f0).length c45_0)).setCell ⟨gb48,1,none⟩ (.slice none 0 0)).heap[gb48]?=some (.cells #[.slice A45_0 ((rd_T63 x0_1 x5_1).f0).length c45_0,.slice none 0 0] 63 (0,0))):=⟨by refine zj ?_;refine blk_put (cs:=#[.slice A45_0 ((rd_T63 x0_1 x5_1).f0).length c45_0,.slice none 0 0]) ?_ 1 _ rfl;refine zj ?_;refine blk_put (cs:=#[.slice none 0 0,.slice none 0 0]) ?_ 0 _ rfl;refine zj ?_;exact BK48.out⟩
       have n6_:Aside0 (Below w.heap.size w ((w13.setCell ⟨gb48,0,none⟩ (.slice A45_0 ((rd_T63 x0_1 x5_1).f0).length c45_0)).setCell ⟨gb48,1,none⟩ (.slice none 0 0))):=⟨zv1 HB GE48⟩
       (try clear HO_0);(try clear HL45_0);(try clear HL45_1);(try clear HL55_0);(try clear HL55_1);(try clear BK48);(try clear HB)
       generalize ((w13.setCell ⟨gb48,0,none⟩ (.slice A45_0 ((rd_T63 x0_1 x5_1).f0).length c45_0)).setCell ⟨gb48,1,none⟩ (.slice none 0 0))=w15 at n0_ n1_ n2_ n3_ n4_ n5_ n6_ ⊢
       have HO_0:=n0_;have HL45_0:=n1_;have HL45_1:=n2_;have HL55_0:=n3_;have HL55_1:=n4_;have BK48:=n5_;have HB:=n6_;clear n0_ n1_ n2_ n3_ n4_ n5_ n6_
       go_loopg [8] kj3 (fun kq v8 w'=>∃ (x8_3:Int) (x51_3:List Int) (u51:Value),v8=.int .i64 x8_3∧Aside0 (ancepsref41_free.l2 kq x0_1 a1 x5_1 x6_3 x8_3 ((rd_T63 x0_1 x5_1).f0) x51_3=some r)∧Aside0 (kq≤kj3)∧Aside0 (Kd.V k63 63 w' w.heap.size (fun k_=>(P0_ k_∨w.heap.size≤k_)∧some k_≠(u51:Value).ownBlock∧k_≠gb48) (.slice (some ad45) x0_1.length c0) x0_1)∧Aside0 (Kd.V (Kd.int .i64) 3 w' w.heap.size (fun k_=>(P0_ k_∨w.heap.size≤k_)∧some k_≠(u51:Value).ownBlock∧k_≠gb48) (.slice A45_0 ((rd_T63 x0_1 x5_1).f0).length c45_0) ((rd_T63 x0_1 x5_1).f0))∧Aside0 (Kd.R (Kd.int .i64) 3 w' w.heap.size (fun k_=>(w.heap.size≤k_)) u51 x51_3)∧Aside0 (w'.heap[gb48]?=some (.cells #[(.slice A45_0 ((rd_T63 x0_1 x5_1).f0).length c45_0),u51] 63 (0,0)))∧Aside0 (Below w.heap.size w w'))
       case atStart=>exact ⟨(0),(([]:List Int)),(.slice none 0 0),zT,H',⟨Nat.le_refl _⟩,⟨by (try simp only [hl0_1]);refine zv8 ?_;exact Kd.V_mono HO_0.out (fun _ hk=>⟨hk.1,⟨(by simp [Value.ownBlock]),hk.2⟩⟩)⟩,⟨by (try simp only [hl0_1]);refine zv8 ?_;exact Kd.V_mono HL55_0.out (fun _ hk=>⟨hk.1,⟨(by simp [Value.ownBlock]),hk.2⟩⟩)⟩,⟨by (try simp only [hl0_1]);first|exact Kd.R_nil _ _ _ _ _|exact Kd.N_nil _ _ _ _ _|exact Kd.V_nil _ _ _ _ _|exact Kd.Q_nil _ _ _ _ _|exact Kd.S_nil _ _ _ _ _⟩,⟨by (try simp only [hl0_1]);refine zj ?_;exact BK48.out⟩,⟨zv1 HB GE48⟩⟩
       case round=>
        clear H'
        try clear c3
        try clear c3b0
        try clear c10
        try clear c10b0
        try clear c11
        try clear c11b0
        try clear c12
        try clear c12b0
        try clear c12b1
        try clear hcz14_0
        try clear hcz14_1
        try clear hfz14_0
        try clear hfz14_1
        try clear hx45_0
        try clear hx45_1
        try clear hx55_0
        try clear hx55_1
        try clear p45
        try clear p55
        try clear q45
        try clear q55
        obtain ⟨x8_3,x51_3,u51,rfl,HA,HK3,HO_0,HO_56,HO_51,BK48,HB⟩:=hrel
        cases gk with
        | zero=>exact absurd HA.out (by simp [ancepsref41_free.l2])
        | succ k3=>
         have H:=HA.out;clear HA;simp only [ancepsref41_free.l2] at H;obtain ⟨c16b0,H⟩:=ifd1 H;obtain ⟨c17b0,H⟩:=ifd1 H
         rcases ifd H with ⟨c18b0,H⟩|⟨c18b0,H⟩
         ·obtain ⟨c19b0,H⟩:=ifd1 H;obtain ⟨c20,H⟩:=if1 H;have c20b0:=eq_true c20;have c20b1:decide (0≤x6_3)=true:=decide_eq_true c20;clear c20;obtain ⟨ji21,hji21⟩:=zZ (shl .i64 1 x6_3)
          first|rw [hji21] at H|simp only [hji21] at H
          have hji21_:(IntKind.i64.wrap (1 * 2 ^ min x6_3.toNat 64))=ji21:=hji21;have hji21z:x6_3≤64→(IntKind.i64.wrap (1 * 2 ^ x6_3.toNat))=ji21:=shl_small hji21
          have hji21u:(IntKind.i64.wrap (2 ^ min x6_3.toNat 64))=ji21:=by have h_:=hji21_;rw [Int.one_mul] at h_;exact h_
          have hji21v:x6_3≤64→(IntKind.i64.wrap (2 ^ x6_3.toNat))=ji21:=fun hle_=>by have h_:=hji21z hle_;rw [Int.one_mul] at h_;exact h_
          have hji21y:(wrap64 (1 * 2 ^ min x6_3.toNat 64))=ji21:=(i64_w _).symm.trans hji21_
          have hji21x:x6_3≤64→(wrap64 (1 * 2 ^ x6_3.toNat))=ji21:=fun h_=>(i64_w _).symm.trans (hji21z h_)
          obtain ⟨t68,A22,H⟩:=zo H;have HC23:=zA H;clear H;obtain ⟨p47,q47,ad47,A47_0,c47_0,A47_1,c47_1,e47,hx47_0,hx47_1,hl47_0,hi47_0,hl47_1,hi47_1⟩:=zp (at_T63 (Kd.V_reads' HO_0.out).2.2 x5_1)
          obtain rfl:ad45=ad47:=(by injection e47)
          obtain ⟨ce47,hce47,hMe47,hcc47⟩:=Kd.V_get HO_0.out z63 x5_1 p47 (by first|exact q47|exact of_decide_eq_true zh|(have e_:=(Kd.V_reads' HO_0.out).1;omega));obtain ⟨ua47_0,uc47_0,ua47_1,uc47_1,rfl,ul47_0,ge47_0,ul47_1,ge47_1⟩:=k63_openF hMe47;have hv47_0:=hcc47 0 _ rfl;rw [Nat.add_zero] at hv47_0;replace hv47_0:=Option.some.inj (hv47_0.symm.trans hx47_0)
          injection hv47_0 with hva_ hvn_ hvc_
          rw [hva_] at ge47_0;rw [hvc_] at ul47_0;have HL47_0:=zA (show Kd.V (Kd.int .i64) 3 _ w.heap.size _ _ ((rd_T63 x0_1 x5_1).f0) from Kd.V_mk ul47_0 ge47_0);clear hva_ hvn_ hvc_ ge47_0 ul47_0;have hv47_1:=hcc47 1 _ rfl;rw [add_field _ _ 1 (by omega)] at hv47_1;replace hv47_1:=Option.some.inj (hv47_1.symm.trans hx47_1)
          injection hv47_1 with hva_ hvn_ hvc_
          rw [hva_] at ge47_1;rw [hvc_] at ul47_1;have HL47_1:=zA (show Kd.V (Kd.int .i64) 3 _ w.heap.size _ _ ((rd_T63 x0_1 x5_1).f1) from Kd.V_mk ul47_1 ge47_1);clear hva_ hvn_ hvc_ ge47_1 ul47_1;clear hcc47 hce47;have HR47_0:=zA hi47_0;have HC47_0:=zA hl47_0;clear hi47_0 hl47_0;have HR47_1:=zA hi47_1;have HC47_1:=zA hl47_1;clear hi47_1 hl47_1;replace p47:=eq_true p47;replace q47:=eq_true q47
          try go_wp2
          replace HO_0:=zA (Kd.V_drew HO_0.out);replace HO_56:=zA (Kd.V_drew HO_56.out);replace HO_51:=zA (Kd.R_drew HO_51.out);replace HL47_0:=zA (Kd.V_drew HL47_0.out);replace HL47_1:=zA (Kd.V_drew HL47_1.out);replace BK48:=zA (blk_drew BK48.out);replace HR47_0:=zA (Kd.C_drew HR47_0.out);replace HR47_1:=zA (Kd.C_drew HR47_1.out);replace HB:=zA (below_drew1 HB.out);obtain ⟨p52,q52,ad52,A52_0,c52_0,A52_1,c52_1,e52,hx52_0,hx52_1,hl52_0,hi52_0,hl52_1,hi52_1⟩:=zp (at_T63 (Kd.V_reads' HO_0.out).2.2 x5_1)
          obtain rfl:ad45=ad52:=(by injection e52)
          obtain ⟨ce52,hce52,hMe52,hcc52⟩:=Kd.V_get HO_0.out z63 x5_1 p52 (by first|exact q52|exact of_decide_eq_true zh|(have e_:=(Kd.V_reads' HO_0.out).1;omega));obtain ⟨ua52_0,uc52_0,ua52_1,uc52_1,rfl,ul52_0,ge52_0,ul52_1,ge52_1⟩:=k63_openF hMe52;have hv52_0:=hcc52 0 _ rfl;rw [Nat.add_zero] at hv52_0;replace hv52_0:=Option.some.inj (hv52_0.symm.trans hx52_0)
          injection hv52_0 with hva_ hvn_ hvc_
          rw [hva_] at ge52_0;rw [hvc_] at ul52_0;have HL52_0:=zA (show Kd.V (Kd.int .i64) 3 _ w.heap.size _ _ ((rd_T63 x0_1 x5_1).f0) from Kd.V_mk ul52_0 ge52_0);clear hva_ hvn_ hvc_ ge52_0 ul52_0;have hv52_1:=hcc52 1 _ rfl;rw [add_field _ _ 1 (by omega)] at hv52_1;replace hv52_1:=Option.some.inj (hv52_1.symm.trans hx52_1)
          injection hv52_1 with hva_ hvn_ hvc_
          rw [hva_] at ge52_1;rw [hvc_] at ul52_1;have HL52_1:=zA (show Kd.V (Kd.int .i64) 3 _ w.heap.size _ _ ((rd_T63 x0_1 x5_1).f1) from Kd.V_mk ul52_1 ge52_1);clear hva_ hvn_ hvc_ ge52_1 ul52_1;clear hcc52 hce52;have HR52_0:=zA hi52_0;have HC52_0:=zA hl52_0;clear hi52_0 hl52_0;have HR52_1:=zA hi52_1;have HC52_1:=zA hl52_1;clear hi52_1 hl52_1;replace p52:=eq_true p52;replace q52:=eq_true q52;obtain ⟨p53,q53,ad53,A53_0,c53_0,A53_1,c53_1,e53,hx53_0,hx53_1,hl53_0,hi53_0,hl53_1,hi53_1⟩:=zp (at_T63 (Kd.V_reads' HO_0.out).2.2 x5_1)
          obtain rfl:ad45=ad53:=(by injection e53)
          obtain ⟨ce53,hce53,hMe53,hcc53⟩:=Kd.V_get HO_0.out z63 x5_1 p53 (by first|exact q53|exact of_decide_eq_true zh|(have e_:=(Kd.V_reads' HO_0.out).1;omega));obtain ⟨ua53_0,uc53_0,ua53_1,uc53_1,rfl,ul53_0,ge53_0,ul53_1,ge53_1⟩:=k63_openF hMe53;have hv53_0:=hcc53 0 _ rfl;rw [Nat.add_zero] at hv53_0;replace hv53_0:=Option.some.inj (hv53_0.symm.trans hx53_0)
          injection hv53_0 with hva_ hvn_ hvc_
          rw [hva_] at ge53_0;rw [hvc_] at ul53_0;have HL53_0:=zA (show Kd.V (Kd.int .i64) 3 _ w.heap.size _ _ ((rd_T63 x0_1 x5_1).f0) from Kd.V_mk ul53_0 ge53_0);clear hva_ hvn_ hvc_ ge53_0 ul53_0;have hv53_1:=hcc53 1 _ rfl;rw [add_field _ _ 1 (by omega)] at hv53_1;replace hv53_1:=Option.some.inj (hv53_1.symm.trans hx53_1)
          injection hv53_1 with hva_ hvn_ hvc_
          rw [hva_] at ge53_1;rw [hvc_] at ul53_1;have HL53_1:=zA (show Kd.V (Kd.int .i64) 3 _ w.heap.size _ _ ((rd_T63 x0_1 x5_1).f1) from Kd.V_mk ul53_1 ge53_1);clear hva_ hvn_ hvc_ ge53_1 ul53_1;clear hcc53 hce53;have HR53_0:=zA hi53_0;have HC53_0:=zA hl53_0;clear hi53_0 hl53_0;have HR53_1:=zA hi53_1;have HC53_1:=zA hl53_1;clear hi53_1 hl53_1;replace p53:=eq_true p53;replace q53:=eq_true q53;have ea_:=Option.some.inj (hx52_0.symm.trans hx53_0)
          injection ea_ with ea_ en_ ec_
          subst ea_;subst ec_;clear en_;have ea_:=Option.some.inj (hx52_1.symm.trans hx53_1)
          injection ea_ with ea_ en_ ec_
          subst ea_;subst ec_;clear en_;obtain ⟨p60,q60,ad60,e60,hx60_0⟩:=zp (Kd.at_int ((Kd.V_reads' HL53_1.out).2.2) x8_3)
          cases e60
          replace p60:=eq_true p60;replace q60:=eq_true q60;refine start_ (n:=18) (S:=fun w'=>w'.cell? (ad45.add ((x5_1).toNat * 2))=some (.slice A52_0 ((rd_T63 x0_1 x5_1).f0).length c52_0)∧w'.cell? ⟨(ad45.add ((x5_1).toNat * 2)).block,(ad45.add ((x5_1).toNat * 2)).off+1,none⟩=some (.slice (some ad60) ((rd_T63 x0_1 x5_1).f1).length c52_1)∧w'.cell? (ad45.add ((x5_1).toNat * 2))=some (.slice A52_0 ((rd_T63 x0_1 x5_1).f0).length c52_0)∧w'.cell? ⟨(ad45.add ((x5_1).toNat * 2)).block,(ad45.add ((x5_1).toNat * 2)).off+1,none⟩=some (.slice (some ad60) ((rd_T63 x0_1 x5_1).f1).length c52_1)∧w'.cell? (ad60.add (x8_3).toNat)=some (.int .i64 (rd ((rd_T63 x0_1 x5_1).f1) x8_3))) (ds:=[]) (bz 18 0) zK rfl rfl ⟨hx52_0,hx52_1,hx53_0,hx53_1,hx60_0⟩ (fun hHeld=>?_);refine with_tabW ancepsref41_free.tab12 ancepsref41_free.bits12 (fun HT_ HW_=>?_)
          generalize wr.drew=w24 at HO_0 HO_56 HO_51 HL47_0 HL47_1 BK48 HR47_0 HR47_1 HB HL52_0 HL52_1 HL53_0 HL53_1 HR52_0 HR52_1 HR53_0 HR53_1 hx52_0 hx52_1 hx53_0 hx53_1 hx60_0 hHeld ⊢
          refine zP 0 62 (bz 18 1) HT_ ?_;refine zP 1 63 (bz 18 3) HT_ ?_;refine zP 2 64 (bz 18 7) HT_ ?_;refine zP 3 65 (bz 18 15) HT_ ?_;refine zP 5 67 (bz 18 47) HT_ ?_;refine zP 6 68 (bz 18 111) HT_ ?_;refine zP 7 69 (bz 18 239) HT_ ?_;refine zP 8 70 (bz 18 495) HT_ ?_;refine zP 10 72 (bz 18 1519) HT_ ?_;refine zP 13 75 (bz 18 9711) HT_ ?_;refine zP 14 76 (bz 18 26095) HT_ ?_;refine zQ 4 66 (bz 18 26111) HT_ HW_ hHeld ?_;refine zQ 9 71 (bz 18 26623) HT_ HW_ hHeld ?_;refine zP 11 73 (bz 18 28671) HT_ ?_;refine zQ 12 74 (bz 18 32767) HT_ HW_ hHeld ?_;refine zP 15 77 (bz 18 65535) HT_ ?_;refine one_ (i:=16) (N:=some 78) (bz 18 131071) rfl rfl (one_of HT_.out zK) (by decide) (fun K hK=>?_);refine goes_ Tryz.func50 zK rfl #[.slice (some ad60) ((rd_T63 x0_1 x5_1).f1).length c52_1,.int .i64 (Go.bits .xor .i64 (rd ((rd_T63 x0_1 x5_1).f1) x8_3) (ji21))] (by rfl) rfl rfl (by (try simp only [List.map_toArray,List.map_cons,List.map_nil]);first|done|(simp only [hji21];rfl)|rfl|(simp only [List.length_drop,List.length_take];rfl)) ?_
          with_reducible refine (ancepsref41_has.calls k3 _ _ ((rd_T63 x0_1 x5_1).f1) (Go.bits .xor .i64 (rd ((rd_T63 x0_1 x5_1).f1) x8_3) (ji21)) t68 _ ?side1 ?side2 A22.out).mono ?_
          (case side1=>exact zC ((Kd.V_reads' HL52_1.out).2.2));(case side2=>exact HC52_1.out);rintro e w' ⟨rfl,⟨nd,rfl⟩⟩;refine ⟨_,rfl,?_⟩;refine hK.out _ _ ⟨hHeld.1,hHeld.2.1,hHeld.2.2.1,hHeld.2.2.2.1,hHeld.2.2.2.2⟩ (fun hHeld=>?_);clear hK K;refine norm_ (a':=?_) ?_ ?_;rotate_left
          ·show Act.put _ (some 78) _=_
           simp only [Act.put,zi,zs,zt,i64_w,i32_w];rfl
          refine zP 17 79 (bz 18 262143) HT_ ?_;refine done_ (done_of HT_.out zK) ?_
          go_upto_if 79 with (fail)
          (try simp only [Act.put,zi,zs,zt]);have H:=HC23.out;clear HC23
          by_cases c25:t68=true
          ·subst c25
           have H1:(ancepsref41_free.l2 k3 x0_1 a1 x5_1 x6_3 (wrap64 (x8_3+1)) ((rd_T63 x0_1 x5_1).f0) x51_3)=some r:=by rw [if_pos rfl] at H;exact H
           clear H;have H:=H1;clear H1;have H':=zA H;clear H
           go_wp2
           go_roundg k3
           case measure=>have:=HK1.out;have:=HJ3.out;have:=HK3.out;omega
           case rel=>exact ⟨(wrap64 (x8_3+1)),(x51_3),(u51),zT,H',⟨by have:=HK1.out;have:=HJ3.out;have:=HK3.out;omega⟩,⟨by (try simp only [hl0_1]);refine zv8 ?_;exact HO_0.out⟩,⟨by (try simp only [hl0_1]);refine zv8 ?_;exact HO_56.out⟩,⟨by (try simp only [hl0_1]);refine zr ?_;exact HO_51.out⟩,⟨by (try simp only [hl0_1]);refine zj ?_;exact BK48.out⟩,⟨zv1 HB GE48⟩⟩
          ·replace c25:=Bool.eq_false_iff.mpr c25;subst c25
           have H1:(if x51_3.length<17592186044416 then (ancepsref41_free.l2 k3 x0_1 a1 x5_1 x6_3 (wrap64 (x8_3+1)) ((rd_T63 x0_1 x5_1).f0) (x51_3++[rd ((rd_T63 x0_1 x5_1).f1) x8_3])) else (none))=some r:=by rw [if_neg (show ¬ (false=true) by decide)] at H;exact H
           clear H;have H:=H1;clear H1;obtain ⟨c26,H⟩:=if1 H;have LMc26:=zA c26;clear c26
           first|(replace H:=zyb (x51_3++[rd ((rd_T63 x0_1 x5_1).f1) x8_3]) H;obtain ⟨y57,Ny57,H⟩:=H)|(obtain ⟨y57,hy57⟩:=zY (x51_3++[rd ((rd_T63 x0_1 x5_1).f1) x8_3]);(try rw (occs:=.pos [1]) [← hy57] at H);have Ny57:=zA hy57;clear hy57)
           have H':=zA H;clear H
           try go_wp2
           replace HO_0:=zA (Kd.V_drewN HO_0.out nd);replace HO_56:=zA (Kd.V_drewN HO_56.out nd);replace HO_51:=zA (Kd.R_drewN HO_51.out nd);replace HL47_0:=zA (Kd.V_drewN HL47_0.out nd);replace HL47_1:=zA (Kd.V_drewN HL47_1.out nd);replace HL52_0:=zA (Kd.V_drewN HL52_0.out nd);replace HL52_1:=zA (Kd.V_drewN HL52_1.out nd);replace HL53_0:=zA (Kd.V_drewN HL53_0.out nd);replace HL53_1:=zA (Kd.V_drewN HL53_1.out nd);replace BK48:=zA (blk_drewN BK48.out nd);replace HR47_0:=zA (Kd.C_drewN HR47_0.out nd);replace HR47_1:=zA (Kd.C_drewN HR47_1.out nd);replace HR52_0:=zA (Kd.C_drewN HR52_0.out nd);replace HR52_1:=zA (Kd.C_drewN HR52_1.out nd);replace HR53_0:=zA (Kd.C_drewN HR53_0.out nd);replace HR53_1:=zA (Kd.C_drewN HR53_1.out nd);replace HB:=zA (pw_below_drewN HB.out nd);replace HO_0:=zA (Kd.V_drew HO_0.out);replace HO_56:=zA (Kd.V_drew HO_56.out);replace HO_51:=zA (Kd.R_drew HO_51.out);replace HL47_0:=zA (Kd.V_drew HL47_0.out);replace HL47_1:=zA (Kd.V_drew HL47_1.out);replace HL52_0:=zA (Kd.V_drew HL52_0.out);replace HL52_1:=zA (Kd.V_drew HL52_1.out);replace HL53_0:=zA (Kd.V_drew HL53_0.out);replace HL53_1:=zA (Kd.V_drew HL53_1.out);replace BK48:=zA (blk_drew BK48.out);replace HR47_0:=zA (Kd.C_drew HR47_0.out);replace HR47_1:=zA (Kd.C_drew HR47_1.out);replace HR52_0:=zA (Kd.C_drew HR52_0.out);replace HR52_1:=zA (Kd.C_drew HR52_1.out);replace HR53_0:=zA (Kd.C_drew HR53_0.out);replace HR53_1:=zA (Kd.C_drew HR53_1.out);replace HB:=zA (below_drew1 HB.out);obtain ⟨p54,q54,ad54,A54_0,c54_0,A54_1,c54_1,e54,hx54_0,hx54_1,hl54_0,hi54_0,hl54_1,hi54_1⟩:=zp (at_T63 (Kd.V_reads' HO_0.out).2.2 x5_1)
           obtain rfl:ad45=ad54:=(by injection e54)
           obtain ⟨ce54,hce54,hMe54,hcc54⟩:=Kd.V_get HO_0.out z63 x5_1 p54 (by first|exact q54|exact of_decide_eq_true zh|(have e_:=(Kd.V_reads' HO_0.out).1;omega));obtain ⟨ua54_0,uc54_0,ua54_1,uc54_1,rfl,ul54_0,ge54_0,ul54_1,ge54_1⟩:=k63_openF hMe54;have hv54_0:=hcc54 0 _ rfl;rw [Nat.add_zero] at hv54_0;replace hv54_0:=Option.some.inj (hv54_0.symm.trans hx54_0)
           injection hv54_0 with hva_ hvn_ hvc_
           rw [hva_] at ge54_0;rw [hvc_] at ul54_0;have HL54_0:=zA (show Kd.V (Kd.int .i64) 3 _ w.heap.size _ _ ((rd_T63 x0_1 x5_1).f0) from Kd.V_mk ul54_0 ge54_0);clear hva_ hvn_ hvc_ ge54_0 ul54_0;have hv54_1:=hcc54 1 _ rfl;rw [add_field _ _ 1 (by omega)] at hv54_1;replace hv54_1:=Option.some.inj (hv54_1.symm.trans hx54_1)
           injection hv54_1 with hva_ hvn_ hvc_
           rw [hva_] at ge54_1;rw [hvc_] at ul54_1;have HL54_1:=zA (show Kd.V (Kd.int .i64) 3 _ w.heap.size _ _ ((rd_T63 x0_1 x5_1).f1) from Kd.V_mk ul54_1 ge54_1);clear hva_ hvn_ hvc_ ge54_1 ul54_1;clear hcc54 hce54;have HR54_0:=zA hi54_0;have HC54_0:=zA hl54_0;clear hi54_0 hl54_0;have HR54_1:=zA hi54_1;have HC54_1:=zA hl54_1;clear hi54_1 hl54_1;replace p54:=eq_true p54;replace q54:=eq_true q54;obtain ⟨p65,q65,ad65,e65,hx65_0⟩:=zp (Kd.at_int ((Kd.V_reads' HL54_1.out).2.2) x8_3)
           cases e65
           replace p65:=eq_true p65;replace q65:=eq_true q65;refine start_ (n:=14) (S:=fun w'=>w'.cell? ⟨gb48,0,none⟩=some (.slice A45_0 ((rd_T63 x0_1 x5_1).f0).length c45_0)∧w'.cell? ⟨gb48,1,none⟩=some (u51)∧w'.cell? (ad45.add ((x5_1).toNat * 2))=some (.slice A54_0 ((rd_T63 x0_1 x5_1).f0).length c54_0)∧w'.cell? ⟨(ad45.add ((x5_1).toNat * 2)).block,(ad45.add ((x5_1).toNat * 2)).off+1,none⟩=some (.slice (some ad65) ((rd_T63 x0_1 x5_1).f1).length c54_1)∧w'.cell? (ad65.add (x8_3).toNat)=some (.int .i64 (rd ((rd_T63 x0_1 x5_1).f1) x8_3))) (ds:=[11,13]) (bz 14 0) zK rfl rfl ⟨zc0 BK48,zc1 BK48,hx54_0,hx54_1,hx65_0⟩ (fun hHeld=>?_);refine with_tabW ancepsref41_free.tab13 ancepsref41_free.bits13 (fun HT_ HW_=>?_)
           generalize (w24.drewN nd).drew=w27 at HO_0 HO_56 HO_51 HL47_0 HL47_1 HL52_0 HL52_1 HL53_0 HL53_1 BK48 HR47_0 HR47_1 HR52_0 HR52_1 HR53_0 HR53_1 HB HL54_0 HL54_1 HR54_0 HR54_1 hx54_0 hx54_1 hx65_0 hHeld ⊢
           refine zP 0 80 (bz 14 1) HT_ ?_;refine zP 2 82 (bz 14 5) HT_ ?_;refine zP 3 83 (bz 14 13) HT_ ?_;refine zP 4 84 (bz 14 29) HT_ ?_;refine zP 5 85 (bz 14 61) HT_ ?_;refine zP 7 87 (bz 14 189) HT_ ?_;refine zQ 1 81 (bz 14 191) HT_ HW_ hHeld ?_;refine zQ 6 86 (bz 14 255) HT_ HW_ hHeld ?_;refine zP 8 88 (bz 14 511) HT_ ?_;refine zQ 9 89 (bz 14 1023) HT_ HW_ hHeld ?_;refine one_ (i:=10) (N:=some 90) (bz 14 2047) rfl rfl (one_of HT_.out zK) (by decide) (fun K hK=>?_);refine value_ (w1:=?_) (v:=?_) (by rfl) rfl ?_ ?_;rotate_left 2
           ·go_simp
            constructor
            ·rfl
            ·rfl
           refine hK.out _ _ ⟨(blk_cell (blk_alloc BK48.out _) 0).trans rfl,(blk_cell (blk_alloc BK48.out _) 1).trans rfl,(World.cell?_alloc_lt _ _ _ (World.block_lt_of_cell? _ _ (hHeld.2.2.1))).trans (hHeld.2.2.1),(World.cell?_alloc_lt _ _ _ (World.block_lt_of_cell? _ _ (hHeld.2.2.2.1))).trans (hHeld.2.2.2.1),(World.cell?_alloc_lt _ _ _ (World.block_lt_of_cell? _ _ (hHeld.2.2.2.2))).trans (hHeld.2.2.2.2)⟩ (fun hHeld=>?_);clear hK K;refine norm_ (a':=?_) ?_ ?_;rotate_left
           ·show Act.put _ (some 90) _=_
            simp only [Act.put,zi,zs,zt,i64_w,i32_w];rfl
           refine last_ (i:=11) (N:=some 91) (bz 14 4095) rfl rfl (one_of HT_.out zK) (by decide) (fun K hK=>?_);refine Kd.R_append_step (Kd.int .i64) (w0:=w) w.heap.size (by rfl) (.tmp 81) (.tmp 90) 43 3 (.int .i64 0) 8 rfl Tryz.underlying43 info3 rfl (by decide) (by omega) u51 x51_3 (rd ((rd_T63 x0_1 x5_1).f1) x8_3) [.int .i64 (rd ((rd_T63 x0_1 x5_1).f1) x8_3)] (fun k_=>(w.heap.size≤k_)) (fun _=>False) rfl rfl ?aP (fun _ hk=>hk.elim) ?aF ?aO ?aB ?aS ?aL ?_;(case aP=>exact rfl);(case aB=>exact zB);(case aF=>exact (fun k_ hk=>(Nat.le_trans (below_size zB) hk)));(case aO=>exact (zR HO_51));(case aS=>exact (below_size zB));(case aL=>have:=LMc26.out;omega);intro v72 w28 ho hb hg hat;rw [← Ny57.out] at ho;have HO67:=zA (ho);replace HO_0:=zA (Kd.V_afterv (ok:=(fun k_=>(P0_ k_∨w.heap.size≤k_)∧k_≠gb48)) (by refine zv8 ?_;exact Kd.V_mono HO_0.out (fun _ hk=>⟨⟨hk.1,hk.2.2⟩,hk.2.1⟩)) hg hat);replace HO_56:=zA (Kd.V_afterv (ok:=(fun k_=>(P0_ k_∨w.heap.size≤k_)∧k_≠gb48)) (by refine zv8 ?_;exact Kd.V_mono HO_56.out (fun _ hk=>⟨⟨hk.1,hk.2.2⟩,hk.2.1⟩)) hg hat);replace BK48:=zA (blk_grown (g:=gb48) (o:=.cells #[.slice A45_0 ((rd_T63 x0_1 x5_1).f0).length c45_0,u51] 63 (0,0)) (zk BK48) hg (Kd.R_ne HO_51.out BK48.out (by decide)));replace HL47_0:=zA (Kd.V_afterv (ok:=(fun k_=>(P0_ k_∨w.heap.size≤k_)∧k_≠gb48)) (by refine zv8 ?_;exact Kd.V_mono HL47_0.out (fun _ hk=>⟨⟨hk.1,hk.2.2⟩,hk.2.1⟩)) hg hat);replace HL47_1:=zA (Kd.V_afterv (ok:=(fun k_=>(P0_ k_∨w.heap.size≤k_)∧k_≠gb48)) (by refine zv8 ?_;exact Kd.V_mono HL47_1.out (fun _ hk=>⟨⟨hk.1,hk.2.2⟩,hk.2.1⟩)) hg hat);replace HL52_0:=zA (Kd.V_afterv (ok:=(fun k_=>(P0_ k_∨w.heap.size≤k_)∧k_≠gb48)) (by refine zv8 ?_;exact Kd.V_mono HL52_0.out (fun _ hk=>⟨⟨hk.1,hk.2.2⟩,hk.2.1⟩)) hg hat);replace HL52_1:=zA (Kd.V_afterv (ok:=(fun k_=>(P0_ k_∨w.heap.size≤k_)∧k_≠gb48)) (by refine zv8 ?_;exact Kd.V_mono HL52_1.out (fun _ hk=>⟨⟨hk.1,hk.2.2⟩,hk.2.1⟩)) hg hat);replace HL53_0:=zA (Kd.V_afterv (ok:=(fun k_=>(P0_ k_∨w.heap.size≤k_)∧k_≠gb48)) (by refine zv8 ?_;exact Kd.V_mono HL53_0.out (fun _ hk=>⟨⟨hk.1,hk.2.2⟩,hk.2.1⟩)) hg hat);replace HL53_1:=zA (Kd.V_afterv (ok:=(fun k_=>(P0_ k_∨w.heap.size≤k_)∧k_≠gb48)) (by refine zv8 ?_;exact Kd.V_mono HL53_1.out (fun _ hk=>⟨⟨hk.1,hk.2.2⟩,hk.2.1⟩)) hg hat);replace HL54_0:=zA (Kd.V_afterv (ok:=(fun k_=>(P0_ k_∨w.heap.size≤k_)∧k_≠gb48)) (by refine zv8 ?_;exact Kd.V_mono HL54_0.out (fun _ hk=>⟨⟨hk.1,hk.2.2⟩,hk.2.1⟩)) hg hat);replace HL54_1:=zA (Kd.V_afterv (ok:=(fun k_=>(P0_ k_∨w.heap.size≤k_)∧k_≠gb48)) (by refine zv8 ?_;exact Kd.V_mono HL54_1.out (fun _ hk=>⟨⟨hk.1,hk.2.2⟩,hk.2.1⟩)) hg hat);replace HB:=zA (hb);clear HO_51;clear ho hb hg hat;obtain ⟨Ao29,co29,eo29⟩:=Kd.R_slice HO67.out
           (first|subst eo29|(injection eo29 with f1_ f2_ f3_;have f4_:=f1_.symm;have f5_:=f3_.symm;clear f1_ f2_ f3_;subst f4_;subst f5_))
           refine hK.out _ _ ?_;clear hK K;refine norm_ (a':=?_) ?_ ?_;rotate_left
           ·show Act.put _ (some 91) _=_
            simp only [Act.put,zi,zs,zt,i64_w,i32_w];rfl
           refine zP 12 92 (bz 14 8191) HT_ ?_;refine last_ (i:=13) (N:=none) (bz 14 16383) rfl rfl (one_of HT_.out zK) (by decide) (fun K hK=>?_);have hs30:w28.cell? ⟨gb48,1,none⟩=some (u51):=zc1 BK48;have hfs30:=zf BK48 1;refine skip_ (w1:=?_) (by rfl) rfl ?_ ?_;rotate_left
           ·go_simp
            rfl
           refine hK.out _ _ ?_;clear hK K;refine done_ (done_of HT_.out zK) ?_
           try go_wp2
           (try simp only [Act.put,zi,zs,zt])
           have n0_:Aside0 (Kd.V k63 63 (w28.setCell ⟨gb48,1,none⟩ (.slice Ao29 y57.length co29)) w.heap.size (fun k_=>(P0_ k_∨w.heap.size≤k_)∧some k_≠(.slice Ao29 y57.length co29:Value).ownBlock∧k_≠gb48) (.slice (some ad45) x0_1.length c0) x0_1):=⟨by refine zv8 ?_;exact Kd.V_mono (Kd.V_far (p:=⟨gb48,1,none⟩) (Kd.V_mono HO_0.out (fun k_ hk=>(⟨hk,hk.1.2⟩:_∧k_≠gb48))) (fun _ hk=>hk.2) (.slice Ao29 y57.length co29)) (fun _ hk=>⟨hk.1.1.1,⟨hk.1.2,hk.1.1.2⟩⟩)⟩
           have n1_:Aside0 (Kd.V (Kd.int .i64) 3 (w28.setCell ⟨gb48,1,none⟩ (.slice Ao29 y57.length co29)) w.heap.size (fun k_=>(P0_ k_∨w.heap.size≤k_)∧some k_≠(.slice Ao29 y57.length co29:Value).ownBlock∧k_≠gb48) (.slice A45_0 ((rd_T63 x0_1 x5_1).f0).length c45_0) ((rd_T63 x0_1 x5_1).f0)):=⟨by refine zv8 ?_;exact Kd.V_mono (Kd.V_far (p:=⟨gb48,1,none⟩) (Kd.V_mono HO_56.out (fun k_ hk=>(⟨hk,hk.1.2⟩:_∧k_≠gb48))) (fun _ hk=>hk.2) (.slice Ao29 y57.length co29)) (fun _ hk=>⟨hk.1.1.1,⟨hk.1.2,hk.1.1.2⟩⟩)⟩
           have n2_:Aside0 (Kd.V (Kd.int .i64) 3 (w28.setCell ⟨gb48,1,none⟩ (.slice Ao29 y57.length co29)) w.heap.size (fun k_=>(P0_ k_∨w.heap.size≤k_)∧some k_≠(.slice Ao29 y57.length co29:Value).ownBlock∧k_≠gb48) (.slice A47_0 ((rd_T63 x0_1 x5_1).f0).length c47_0) ((rd_T63 x0_1 x5_1).f0)):=⟨by refine zv8 ?_;exact Kd.V_mono (Kd.V_far (p:=⟨gb48,1,none⟩) (Kd.V_mono HL47_0.out (fun k_ hk=>(⟨hk,hk.1.2⟩:_∧k_≠gb48))) (fun _ hk=>hk.2) (.slice Ao29 y57.length co29)) (fun _ hk=>⟨hk.1.1.1,⟨hk.1.2,hk.1.1.2⟩⟩)⟩
           have n3_:Aside0 (Kd.V (Kd.int .i64) 3 (w28.setCell ⟨gb48,1,none⟩ (.slice Ao29 y57.length co29)) w.heap.size (fun k_=>(P0_ k_∨w.heap.size≤k_)∧some k_≠(.slice Ao29 y57.length co29:Value).ownBlock∧k_≠gb48) (.slice A47_1 ((rd_T63 x0_1 x5_1).f1).length c47_1) ((rd_T63 x0_1 x5_1).f1)):=⟨by refine zv8 ?_;exact Kd.V_mono (Kd.V_far (p:=⟨gb48,1,none⟩) (Kd.V_mono HL47_1.out (fun k_ hk=>(⟨hk,hk.1.2⟩:_∧k_≠gb48))) (fun _ hk=>hk.2) (.slice Ao29 y57.length co29)) (fun _ hk=>⟨hk.1.1.1,⟨hk.1.2,hk.1.1.2⟩⟩)⟩
           have n4_:Aside0 (Kd.V (Kd.int .i64) 3 (w28.setCell ⟨gb48,1,none⟩ (.slice Ao29 y57.length co29)) w.heap.size (fun k_=>(P0_ k_∨w.heap.size≤k_)∧some k_≠(.slice Ao29 y57.length co29:Value).ownBlock∧k_≠gb48) (.slice A52_0 ((rd_T63 x0_1 x5_1).f0).length c52_0) ((rd_T63 x0_1 x5_1).f0)):=⟨by refine zv8 ?_;exact Kd.V_mono (Kd.V_far (p:=⟨gb48,1,none⟩) (Kd.V_mono HL52_0.out (fun k_ hk=>(⟨hk,hk.1.2⟩:_∧k_≠gb48))) (fun _ hk=>hk.2) (.slice Ao29 y57.length co29)) (fun _ hk=>⟨hk.1.1.1,⟨hk.1.2,hk.1.1.2⟩⟩)⟩
           have n5_:Aside0 (Kd.V (Kd.int .i64) 3 (w28.setCell ⟨gb48,1,none⟩ (.slice Ao29 y57.length co29)) w.heap.size (fun k_=>(P0_ k_∨w.heap.size≤k_)∧some k_≠(.slice Ao29 y57.length co29:Value).ownBlock∧k_≠gb48) (.slice (some ad60) ((rd_T63 x0_1 x5_1).f1).length c52_1) ((rd_T63 x0_1 x5_1).f1)):=⟨by refine zv8 ?_;exact Kd.V_mono (Kd.V_far (p:=⟨gb48,1,none⟩) (Kd.V_mono HL52_1.out (fun k_ hk=>(⟨hk,hk.1.2⟩:_∧k_≠gb48))) (fun _ hk=>hk.2) (.slice Ao29 y57.length co29)) (fun _ hk=>⟨hk.1.1.1,⟨hk.1.2,hk.1.1.2⟩⟩)⟩
           have n6_:Aside0 (Kd.V (Kd.int .i64) 3 (w28.setCell ⟨gb48,1,none⟩ (.slice Ao29 y57.length co29)) w.heap.size (fun k_=>(P0_ k_∨w.heap.size≤k_)∧some k_≠(.slice Ao29 y57.length co29:Value).ownBlock∧k_≠gb48) (.slice A52_0 ((rd_T63 x0_1 x5_1).f0).length c52_0) ((rd_T63 x0_1 x5_1).f0)):=⟨by refine zv8 ?_;exact Kd.V_mono (Kd.V_far (p:=⟨gb48,1,none⟩) (Kd.V_mono HL53_0.out (fun k_ hk=>(⟨hk,hk.1.2⟩:_∧k_≠gb48))) (fun _ hk=>hk.2) (.slice Ao29 y57.length co29)) (fun _ hk=>⟨hk.1.1.1,⟨hk.1.2,hk.1.1.2⟩⟩)⟩
           have n7_:Aside0 (Kd.V (Kd.int .i64) 3 (w28.setCell ⟨gb48,1,none⟩ (.slice Ao29 y57.length co29)) w.heap.size (fun k_=>(P0_ k_∨w.heap.size≤k_)∧some k_≠(.slice Ao29 y57.length co29:Value).ownBlock∧k_≠gb48) (.slice (some ad60) ((rd_T63 x0_1 x5_1).f1).length c52_1) ((rd_T63 x0_1 x5_1).f1)):=⟨by refine zv8 ?_;exact Kd.V_mono (Kd.V_far (p:=⟨gb48,1,none⟩) (Kd.V_mono HL53_1.out (fun k_ hk=>(⟨hk,hk.1.2⟩:_∧k_≠gb48))) (fun _ hk=>hk.2) (.slice Ao29 y57.length co29)) (fun _ hk=>⟨hk.1.1.1,⟨hk.1.2,hk.1.1.2⟩⟩)⟩
           have n8_:Aside0 (Kd.V (Kd.int .i64) 3 (w28.setCell ⟨gb48,1,none⟩ (.slice Ao29 y57.length co29)) w.heap.size (fun k_=>(P0_ k_∨w.heap.size≤k_)∧some k_≠(.slice Ao29 y57.length co29:Value).ownBlock∧k_≠gb48) (.slice A54_0 ((rd_T63 x0_1 x5_1).f0).length c54_0) ((rd_T63 x0_1 x5_1).f0)):=⟨by refine zv8 ?_;exact Kd.V_mono (Kd.V_far (p:=⟨gb48,1,none⟩) (Kd.V_mono HL54_0.out (fun k_ hk=>(⟨hk,hk.1.2⟩:_∧k_≠gb48))) (fun _ hk=>hk.2) (.slice Ao29 y57.length co29)) (fun _ hk=>⟨hk.1.1.1,⟨hk.1.2,hk.1.1.2⟩⟩)⟩
           have n9_:Aside0 (Kd.V (Kd.int .i64) 3 (w28.setCell ⟨gb48,1,none⟩ (.slice Ao29 y57.length co29)) w.heap.size (fun k_=>(P0_ k_∨w.heap.size≤k_)∧some k_≠(.slice Ao29 y57.length co29:Value).ownBlock∧k_≠gb48) (.slice (some ad65) ((rd_T63 x0_1 x5_1).f1).length c54_1) ((rd_T63 x0_1 x5_1).f1)):=⟨by refine zv8 ?_;exact Kd.V_mono (Kd.V_far (p:=⟨gb48,1,none⟩) (Kd.V_mono HL54_1.out (fun k_ hk=>(⟨hk,hk.1.2⟩:_∧k_≠gb48))) (fun _ hk=>hk.2) (.slice Ao29 y57.length co29)) (fun _ hk=>⟨hk.1.1.1,⟨hk.1.2,hk.1.1.2⟩⟩)⟩
           have n10_:Aside0 (Kd.R (Kd.int .i64) 3 (w28.setCell ⟨gb48,1,none⟩ (.slice Ao29 y57.length co29)) w.heap.size (fun k_=>(w.heap.size≤k_)) (.slice Ao29 y57.length co29) y57):=⟨by refine zr ?_;exact Kd.R_mono (Kd.R_far (p:=⟨gb48,1,none⟩) (Kd.R_types HO67.out BK48.out (by decide)) (fun _ hk=>hk.2) (.slice Ao29 y57.length co29)) (fun _ hk=>hk.1)⟩
           have n11_:Aside0 ((w28.setCell ⟨gb48,1,none⟩ (.slice Ao29 y57.length co29)).heap[gb48]?=some (.cells #[.slice A45_0 ((rd_T63 x0_1 x5_1).f0).length c45_0,.slice Ao29 y57.length co29] 63 (0,0))):=⟨by refine zj ?_;refine blk_put (cs:=#[.slice A45_0 ((rd_T63 x0_1 x5_1).f0).length c45_0,u51]) ?_ 1 _ rfl;refine zj ?_;exact BK48.out⟩
           have n12_:Aside0 (Below w.heap.size w (w28.setCell ⟨gb48,1,none⟩ (.slice Ao29 y57.length co29))):=⟨zv1 HB GE48⟩
           (try clear HO_0);(try clear HO_56);(try clear HL47_0);(try clear HL47_1);(try clear HL52_0);(try clear HL52_1);(try clear HL53_0);(try clear HL53_1);(try clear HL54_0);(try clear HL54_1);(try clear HO67);(try clear BK48);(try clear HB)
           generalize (w28.setCell ⟨gb48,1,none⟩ (.slice Ao29 y57.length co29))=w31 at n0_ n1_ n2_ n3_ n4_ n5_ n6_ n7_ n8_ n9_ n10_ n11_ n12_ ⊢
           have HO_0:=n0_;have HO_56:=n1_;have HL47_0:=n2_;have HL47_1:=n3_;have HL52_0:=n4_;have HL52_1:=n5_;have HL53_0:=n6_;have HL53_1:=n7_;have HL54_0:=n8_;have HL54_1:=n9_;have HO67:=n10_;have BK48:=n11_;have HB:=n12_;clear n0_ n1_ n2_ n3_ n4_ n5_ n6_ n7_ n8_ n9_ n10_ n11_ n12_
           go_roundg k3
           case measure=>have:=HK1.out;have:=HJ3.out;have:=HK3.out;omega
           case rel=>exact ⟨(wrap64 (x8_3+1)),(y57),(.slice Ao29 y57.length co29),zT,H',⟨by have:=HK1.out;have:=HJ3.out;have:=HK3.out;omega⟩,⟨by (try simp only [hl0_1]);refine zv8 ?_;exact HO_0.out⟩,⟨by (try simp only [hl0_1]);refine zv8 ?_;exact HO_56.out⟩,⟨by (try simp only [hl0_1]);refine zr ?_;exact HO67.out⟩,⟨by (try simp only [hl0_1]);refine zj ?_;exact BK48.out⟩,⟨zv1 HB GE48⟩⟩
         ·first|(replace H:=zyb (([]:List (S63))) H;obtain ⟨y61,Ny61,H⟩:=H)|(obtain ⟨y61,hy61⟩:=zY (([]:List (S63)));(try rw (occs:=.pos [1]) [← hy61] at H);have Ny61:=zA hy61;clear hy61)
          obtain ⟨c32,H⟩:=if1 H;have LMc32:=zA c32;clear c32
          first|(replace H:=zyb (y61++x0_1) H;obtain ⟨y58,Ny58,H⟩:=H)|(obtain ⟨y58,hy58⟩:=zY (y61++x0_1);(try rw (occs:=.pos [1]) [← hy58] at H);have Ny58:=zA hy58;clear hy58)
          obtain ⟨c33b0,H⟩:=ifd1 H
          first|(replace H:=zyb (y58.set (x5_1:Int).toNat (⟨((rd_T63 x0_1 x5_1).f0),x51_3⟩:S63)) H;obtain ⟨y66,Ny66,H⟩:=H)|(obtain ⟨y66,hy66⟩:=zY (y58.set (x5_1:Int).toNat (⟨((rd_T63 x0_1 x5_1).f0),x51_3⟩:S63));(try rw (occs:=.pos [1]) [← hy66] at H);have Ny66:=zA hy66;clear hy66)
          obtain ⟨t69,A35,H⟩:=zo H;have HC36:=zA H;clear H;obtain ⟨p47,q47,ad47,A47_0,c47_0,A47_1,c47_1,e47,hx47_0,hx47_1,hl47_0,hi47_0,hl47_1,hi47_1⟩:=zp (at_T63 (Kd.V_reads' HO_0.out).2.2 x5_1)
          obtain rfl:ad45=ad47:=(by injection e47)
          obtain ⟨ce47,hce47,hMe47,hcc47⟩:=Kd.V_get HO_0.out z63 x5_1 p47 (by first|exact q47|exact of_decide_eq_true zh|(have e_:=(Kd.V_reads' HO_0.out).1;omega));obtain ⟨ua47_0,uc47_0,ua47_1,uc47_1,rfl,ul47_0,ge47_0,ul47_1,ge47_1⟩:=k63_openF hMe47;have hv47_0:=hcc47 0 _ rfl;rw [Nat.add_zero] at hv47_0;replace hv47_0:=Option.some.inj (hv47_0.symm.trans hx47_0)
          injection hv47_0 with hva_ hvn_ hvc_
          rw [hva_] at ge47_0;rw [hvc_] at ul47_0;have HL47_0:=zA (show Kd.V (Kd.int .i64) 3 _ w.heap.size _ _ ((rd_T63 x0_1 x5_1).f0) from Kd.V_mk ul47_0 ge47_0);clear hva_ hvn_ hvc_ ge47_0 ul47_0;have hv47_1:=hcc47 1 _ rfl;rw [add_field _ _ 1 (by omega)] at hv47_1;replace hv47_1:=Option.some.inj (hv47_1.symm.trans hx47_1)
          injection hv47_1 with hva_ hvn_ hvc_
          rw [hva_] at ge47_1;rw [hvc_] at ul47_1;have HL47_1:=zA (show Kd.V (Kd.int .i64) 3 _ w.heap.size _ _ ((rd_T63 x0_1 x5_1).f1) from Kd.V_mk ul47_1 ge47_1);clear hva_ hvn_ hvc_ ge47_1 ul47_1;clear hcc47 hce47;have HR47_0:=zA hi47_0;have HC47_0:=zA hl47_0;clear hi47_0 hl47_0;have HR47_1:=zA hi47_1;have HC47_1:=zA hl47_1;clear hi47_1 hl47_1;replace p47:=eq_true p47;replace q47:=eq_true q47
          obtain ⟨Au51,cu51,eu51⟩:=Kd.R_slice HO_51.out;subst eu51
          go_upto_if 101 with (first|((with_reducible refine gate_dst (N:=93) rfl ?_);refine Kd.N_lit k63 _ 63 ?hg (N':=93) ?hd (xs:=([]:List (S63))) (inner:=[]) (ok:=(fun k_=>(P0_ k_∨w.heap.size≤k_)∧some k_≠((.slice Au51 x51_3.length cu51):Value).ownBlock∧k_≠gb48)) (okp:=(fun k_=>(P0_ k_∨w.heap.size≤k_)∧some k_≠((.slice Au51 x51_3.length cu51):Value).ownBlock∧k_≠gb48)) ?hr ?hp (fun _ hk=>hk) ((show ∀ k_,wr.heap.size≤k_→(fun k_=>(P0_ k_∨w.heap.size≤k_)∧some k_≠((.slice Au51 x51_3.length cu51):Value).ownBlock∧k_≠gb48) k_ from fun k_ hk=>⟨(.inr (Nat.le_trans (below_size zB) hk)),Kd.fresh' (Kd.R_lt (zR HO_51)) k_ hk,Kd.freshB (g:=gb48) (o:=.cells #[.slice A45_0 ((rd_T63 x0_1 x5_1).f0).length c45_0,(.slice Au51 x51_3.length cu51)] 63 (0,0)) (zk BK48) k_ hk⟩) _ (Nat.le_refl _)) (Below.refl _ _) (Nat.le_refl _) (by simp) ?_;(case hd=>rfl);(case hg=>rfl);(case hr=>first|(go_simp;done)|(go_simp;rfl));(case hp=>exact (Reps.none _ _));intro v71 w37 ho38 hb hg_ hnew_;clear hg_ hnew_;(first|rw [← Ny61.out] at ho38|(simp only [Int.reduceToNat] at ho38;rw [← Ny61.out] at ho38));have HO70:=zA (Kd.N_lower ho38 (below_size zB));replace HO_0:=zA (Kd.V_elder' (zV HO_0) (Kd.N_base ho38) hb);replace HO_56:=zA (Kd.V_elder' (zV HO_56) (Kd.N_base ho38) hb);replace HO_51:=zA (Kd.R_below (zR HO_51) hb);replace BK48:=zw BK48 hb;replace HR47_0:=zA (Kd.C_below ((Kd.V_reads' HL47_0.out).2.2) hb);replace HL47_0:=zA (Kd.V_elder' (zV HL47_0) (Kd.N_base ho38) hb);replace HR47_1:=zA (Kd.C_below ((Kd.V_reads' HL47_1.out).2.2) hb);replace HL47_1:=zA (Kd.V_elder' (zV HL47_1) (Kd.N_base ho38) hb);replace HB:=zu hb;clear hb ho38)|((with_reducible refine gate_builtin (b:=.append) (xs:=#[.tmp 93,.tmp 94]) rfl ?_);at_builtin;refine Kd.N_append_rows k63 (w0:=w) w.heap.size rfl (.tmp 93) (.tmp 94) 22 63 (.agg #[(.slice none 0 0),(.slice none 0 0)]) 48 rfl Tryz.underlying22 info63 rfl (by decide) (by omega) v71 y61 x0_1 _ _ _ (fun k_=>(P0_ k_∨w.heap.size≤k_)∧some k_≠((.slice Au51 x51_3.length cu51):Value).ownBlock∧k_≠gb48) (fun k_=>((fun k_=>(P0_ k_∨w.heap.size≤k_)∧some k_≠((.slice Au51 x51_3.length cu51):Value).ownBlock∧k_≠gb48)) k_∧some k_≠(v71:Value).ownBlock) rfl rfl ?aO ?aR (fun _ hk=>hk) ?aF ?aB ?aS ?aL ?_;(case aR=>exact (by skip;exact Kd.V_F (Kd.V_mono (ok':=(fun k_=>((fun k_=>(P0_ k_∨w.heap.size≤k_)∧some k_≠((.slice Au51 x51_3.length cu51):Value).ownBlock∧k_≠gb48)) k_∧some k_≠(v71:Value).ownBlock)) (HO_0.out) (fun k_ hk=>⟨⟨hk.1.1,⟨hk.1.2.1,hk.1.2.2⟩⟩,hk.2⟩))));(case aB=>exact zB);(case aF=>exact (fun k_ hk=>⟨(.inr (Nat.le_trans (below_size zB) hk)),Kd.fresh' (Kd.R_lt (zR HO_51)) k_ hk,Kd.freshB (g:=gb48) (o:=.cells #[.slice A45_0 ((rd_T63 x0_1 x5_1).f0).length c45_0,(.slice Au51 x51_3.length cu51)] 63 (0,0)) (zk BK48) k_ hk⟩));(case aO=>exact (zN HO70));(case aS=>exact (below_size zB));(case aL=>have:=LMc32.out;omega);intro v73 w39 ho hb hg hat;rw [← Ny58.out] at ho;have HO62:=zA (ho);replace HO_0:=zA (Kd.V_afterv (ok:=(fun k_=>(P0_ k_∨w.heap.size≤k_)∧some k_≠((.slice Au51 x51_3.length cu51):Value).ownBlock∧k_≠gb48)) (zV HO_0) hg hat);replace HO_56:=zA (Kd.V_afterv (ok:=(fun k_=>(P0_ k_∨w.heap.size≤k_)∧some k_≠((.slice Au51 x51_3.length cu51):Value).ownBlock∧k_≠gb48)) (zV HO_56) hg hat);replace HO_51:=zA (Kd.R_over' (zR HO_51) (Kd.N_typed (zN HO70)) (by decide) hg);replace BK48:=zA (blk_grown (g:=gb48) (o:=.cells #[.slice A45_0 ((rd_T63 x0_1 x5_1).f0).length c45_0,(.slice Au51 x51_3.length cu51)] 63 (0,0)) (zk BK48) hg (Kd.N_away HO70.out (fun _ hk=>hk.2.2)));replace HL47_0:=zA (Kd.V_afterv (ok:=(fun k_=>(P0_ k_∨w.heap.size≤k_)∧some k_≠((.slice Au51 x51_3.length cu51):Value).ownBlock∧k_≠gb48)) (zV HL47_0) hg hat);replace HL47_1:=zA (Kd.V_afterv (ok:=(fun k_=>(P0_ k_∨w.heap.size≤k_)∧some k_≠((.slice Au51 x51_3.length cu51):Value).ownBlock∧k_≠gb48)) (zV HL47_1) hg hat);replace HB:=zA (hb);clear HO70;clear ho hb hg hat;have hcz40_0:=zc0 BK48;have hcz40_1:=zc1 BK48;have hfz40_0:=zf BK48;have p34:0≤(x5_1:Int):=of_decide_eq_true zh;have q34:(x5_1:Int)<((y58.length:Int):Int):=of_decide_eq_true zh;obtain ⟨go34,co34,eo34,gb34,gl34,cl34,HG34⟩:=Kd.N_form HO62.out (by omega);(first|cases eo34|(injection eo34 with ea_ en_ ec_;(first|subst ea_|(injection ea_ with ea_;subst ea_));subst ec_;clear en_));have GB34:=zA gb34;have GG34:=zA HG34;clear gb34 gl34 HG34;obtain ⟨ce34,hcl34,hM34,hcc34,hfr34⟩:=Kd.N_elem HO62.out z63 (x5_1:Int) p34 q34;obtain ⟨ua34_0,uc34_0,ua34_1,uc34_1,rfl,ul34_0,ge34_0,ul34_1,ge34_1⟩:=k63_openF hM34;have hx34_0:w39.cell? ⟨go34,(x5_1:Int).toNat * 2,none⟩=some (.slice ua34_0 ((rd_T63 y58 x5_1).f0).length uc34_0):=hcc34 0 _ rfl;have hx34_1:w39.cell? ⟨go34,(x5_1:Int).toNat * 2+1,none⟩=some (.slice ua34_1 ((rd_T63 y58 x5_1).f1).length uc34_1):=hcc34 1 _ rfl;have hf34_0:w39.frozen? ⟨go34,(x5_1:Int).toNat * 2,none⟩=false:=hfr34 0;have hf34_1:w39.frozen? ⟨go34,(x5_1:Int).toNat * 2+1,none⟩=false:=hfr34 1;clear hcl34 hcc34 hfr34 hM34;replace p34:=eq_true p34;replace q34:=eq_true q34;have HX41:=zA (show Kd.N k63 63 w39 w.heap.size (fun k_=>(P0_ k_∨w.heap.size≤k_)∧k_≠gb48) (.slice (some ⟨go34,0,none⟩) y58.length co34) y58 from (by refine zn8 ?_;exact Kd.N_mono HO62.out (fun _ hk=>⟨hk.1,hk.2.2⟩)));obtain ⟨ce41,hcl41,hM41,hcc41,hfr41⟩:=Kd.N_elem HX41.out z63 (x5_1:Int) (of_decide_eq_true zh) (by have h_:(x5_1:Int)<((y58.length:Int):Int):=of_decide_eq_true zh;first|exact h_|(have e_:=(Kd.N_reads' HO62.out).1;omega)|simpa using h_);obtain ⟨ua41_0,uc41_0,ua41_1,uc41_1,rfl,ul41_0,ge41_0,ul41_1,ge41_1⟩:=k63_openF hM41;have HP41:=Kd.N_seg HX41.out (x5_1:Int) (of_decide_eq_true zh) (by have h_:(x5_1:Int)<((y58.length:Int):Int):=of_decide_eq_true zh;first|exact h_|(have e_:=(Kd.N_reads' HO62.out).1;omega)|simpa using h_) (seg:=[.slice A45_0 ((rd_T63 x0_1 x5_1).f0).length c45_0,(.slice Au51 x51_3.length cu51)]) (j:=0) hcl41 hcc41 (show 2≤2 from by decide) (x':=(⟨((rd_T63 x0_1 x5_1).f0),x51_3⟩:S63)) (k63_mkF _ _ (⟨((rd_T63 x0_1 x5_1).f0),x51_3⟩:S63) (Kd.V_reads' (Kd.V_mono (ok':=(fun k_=>((fun k_=>(P0_ k_∨w.heap.size≤k_)∧k_≠gb48)) k_∧k_≠go34)) (HO_56.out) (fun k_ hk=>⟨⟨hk.1.1,hk.1.2.2⟩,fun e_=>(hk.2) (by rw [e_];rfl)⟩))).2.1 (Kd.V_F (Kd.V_mono (ok':=(fun k_=>((fun k_=>(P0_ k_∨w.heap.size≤k_)∧k_≠gb48)) k_∧k_≠go34)) (HO_56.out) (fun k_ hk=>⟨⟨hk.1.1,hk.1.2.2⟩,fun e_=>(hk.2) (by rw [e_];rfl)⟩))) (Kd.R_reads' (Kd.R_mono (ok':=(fun k_=>((fun k_=>(P0_ k_∨w.heap.size≤k_)∧k_≠gb48)) k_∧k_≠go34)) (Kd.R_types (Kd.R_apart' (HO_51.out) (Kd.N_typed HO62.out) (by decide)) BK48.out (by decide)) (fun k_ hk=>⟨⟨(.inr (hk.1.1)),hk.2⟩,fun e_=>(hk.1.2) (by rw [e_];rfl)⟩))).2.1 (Kd.R_F (Kd.R_mono (ok':=(fun k_=>((fun k_=>(P0_ k_∨w.heap.size≤k_)∧k_≠gb48)) k_∧k_≠go34)) (Kd.R_types (Kd.R_apart' (HO_51.out) (Kd.N_typed HO62.out) (by decide)) BK48.out (by decide)) (fun k_ hk=>⟨⟨(.inr (hk.1.1)),hk.2⟩,fun e_=>(hk.1.2) (by rw [e_];rfl)⟩)))) (fun _ hk=>hk);have hx41_0:=hcc41 0 _ rfl;(try simp only [show (k63).sz=2 from rfl,Nat.mul_one,Nat.add_zero,Int.toNat_natCast] at hx41_0);have hf41_0:=hfr41 0;(try simp only [show (k63).sz=2 from rfl,Nat.mul_one,Nat.add_zero,Int.toNat_natCast] at hf41_0);have hx41_1:=hcc41 1 _ rfl;(try simp only [show (k63).sz=2 from rfl,Nat.mul_one,Nat.add_zero,Int.toNat_natCast] at hx41_1);have hf41_1:=hfr41 1;(try simp only [show (k63).sz=2 from rfl,Nat.mul_one,Nat.add_zero,Int.toNat_natCast] at hf41_1);clear hcl41 hcc41 hfr41 hM41)|((with_reducible refine gate_store (t:=63) (p:=99) rfl ?_);refine store_event (t:=63) (p:=99) (v:=?vo_w42) (w1:=((w39.setCell ⟨go34,(x5_1:Int).toNat * 2,none⟩ (.slice A45_0 ((rd_T63 x0_1 x5_1).f0).length c45_0)).setCell ⟨go34,(x5_1:Int).toNat * 2+1,none⟩ ((.slice Au51 x51_3.length cu51)))) ?hg ?ho ?hn ?hr ?_;(case ho=>rfl);(case hg=>rfl);(case hn=>rfl);(case hr=>first|(go_simp;done)|(go_simp;rfl));intro w42 hw;have hg:w39.grownBy w42 (some go34):=(by rw [hw];exact HP41.2);have hp_:Kd.N k63 63 w42 w.heap.size (fun k_=>(P0_ k_∨w.heap.size≤k_)∧k_≠gb48) (.slice (some ⟨go34,0,none⟩) y58.length co34) y66:=(by rw [hw,Ny66.out];exact HP41.1);clear HP41;replace HO_0:=zA (Kd.V_afterv (v:=(.slice (some ⟨go34,0,none⟩) y58.length co34)) (v1:=(.slice (some ⟨go34,0,none⟩) y58.length co34)) (ok:=(fun k_=>(P0_ k_∨w.heap.size≤k_)∧some k_≠((.slice Au51 x51_3.length cu51):Value).ownBlock∧k_≠gb48)) (zV HO_0) hg (.inl rfl));replace HO_56:=zA (Kd.V_afterv (v:=(.slice (some ⟨go34,0,none⟩) y58.length co34)) (v1:=(.slice (some ⟨go34,0,none⟩) y58.length co34)) (ok:=(fun k_=>(P0_ k_∨w.heap.size≤k_)∧some k_≠((.slice Au51 x51_3.length cu51):Value).ownBlock∧k_≠gb48)) (zV HO_56) hg (.inl rfl));replace BK48:=zA (blk_grown (g:=gb48) (o:=.cells #[.slice A45_0 ((rd_T63 x0_1 x5_1).f0).length c45_0,(.slice Au51 x51_3.length cu51)] 63 (0,0)) (zk BK48) hg (Kd.N_away HO62.out (fun _ hk=>hk.2.2)));replace HL47_0:=zA (Kd.V_afterv (v:=(.slice (some ⟨go34,0,none⟩) y58.length co34)) (v1:=(.slice (some ⟨go34,0,none⟩) y58.length co34)) (ok:=(fun k_=>(P0_ k_∨w.heap.size≤k_)∧some k_≠((.slice Au51 x51_3.length cu51):Value).ownBlock∧k_≠gb48)) (zV HL47_0) hg (.inl rfl));replace HL47_1:=zA (Kd.V_afterv (v:=(.slice (some ⟨go34,0,none⟩) y58.length co34)) (v1:=(.slice (some ⟨go34,0,none⟩) y58.length co34)) (ok:=(fun k_=>(P0_ k_∨w.heap.size≤k_)∧some k_≠((.slice Au51 x51_3.length cu51):Value).ownBlock∧k_≠gb48)) (zV HL47_1) hg (.inl rfl));replace HO62:=zA (hp_);replace HB:=zA ((by rw [hw];exact below_set (below_set (HB.out) GB34.out) GB34.out:Below w.heap.size w w42));clear HO_51;clear hg hw hp_)|((with_reducible refine gate_callee (f:=40) rfl ?_);refine goesL_ (some 101) rfl rfl Tryz.func40 zK rfl #[.slice (some ⟨go34,0,none⟩) y66.length co34] rfl (by (try simp only [List.map_toArray,List.map_cons,List.map_nil]);first|done|(rw [show y66.length=y58.length from (Kd.N_reads' HO62.out).1.symm] <;> rfl)|rfl|(simp only [List.length_drop,List.length_take];rfl)) ?_;(with_reducible refine (ancepsref41_solvable.calls k3 _ _ y66 t69 _ ?side1 ?side2 A35.out).mono ?_);(case side1=>exact zC (Kd.N_reads' HO62.out).2.2);(case side2=>rw [show y66.length=y58.length from (Kd.N_reads' HO62.out).1.symm];exact (Kd.N_reads' HO62.out).2.1);rintro e w43 ⟨rfl,hb⟩;refine ⟨_,rfl,?_⟩;replace HO_0:=zA (Kd.V_below (zV HO_0) hb);replace HO_56:=zA (Kd.V_below (zV HO_56) hb);replace HL47_0:=zA (Kd.V_below (zV HL47_0) hb);replace HL47_1:=zA (Kd.V_below (zV HL47_1) hb);replace HO62:=zA (Kd.N_below (zN HO62) hb);replace BK48:=zw BK48 hb;replace HB:=zu hb;clear hb))
          (try simp only [Act.put,zi,zs,zt]);have H:=HC36.out;clear HC36
          by_cases c44:t69=true
          ·subst c44
           have H1:(some false)=some r:=by rw [if_pos rfl] at H;exact H
           clear H;have H:=H1;clear H1;obtain rfl:=Option.some.inj H
           go_wp2
           go_ret
           exact ⟨ze,zv1 HB GE48⟩
          ·replace c44:=Bool.eq_false_iff.mpr c44;subst c44
           have H1:(ancepsref41_free.l0 k3 x0_1 a1 (wrap64 (x5_1+1)))=some r:=by rw [if_neg (show ¬ (false=true) by decide)] at H;exact H
           clear H;have H:=H1;clear H1;have H':=zA H;clear H
           go_wp2
           (try simp only [← hl0_1])
           go_roundg k3
           case measure=>have:=HK1.out;have:=HJ3.out;have:=HK3.out;omega
           case rel=>exact ⟨(x0_1),(wrap64 (x5_1+1)),zT,H',⟨by have:=HK1.out;have:=HJ3.out;have:=HK3.out;omega⟩,⟨by (try simp only [hl0_1]);refine zv8 ?_;exact Kd.V_mono HO_0.out (fun _ hk=>hk.1.1)⟩,⟨zv1 HB GE48⟩⟩
   ·obtain rfl:=Option.some.inj H
    go_wp2
    go_ret
    exact ⟨ze,zv0 HB⟩
end Go.Proofs.YtngpkbbljnbojaaGreat.L
