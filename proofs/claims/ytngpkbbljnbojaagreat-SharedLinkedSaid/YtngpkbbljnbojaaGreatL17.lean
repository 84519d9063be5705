import Derived.Test.YtngpkbbljnbojaaGreatL0
import Derived.Test.YtngpkbbljnbojaaGreatL4
import Derived.Test.YtngpkbbljnbojaaGreatL16
namespace Go.Proofs.YtngpkbbljnbojaaGreat.L
open Go.RowKit Go.Proofs.YtngpkbbljnbojaaGreatW.PrintWords Go.Proofs.YtngpkbbljnbojaaGreatW.PrintLast Go.Proofs.YtngpkbbljnbojaaGreatW.PrintMore
attribute [local go_sem] max2_int min2_int max_two min_two max_three min_three max_four min_four Tryz.underlying3
set_option linter.unusedVariables false
set_option linter.unusedSimpArgs false
def shared_Free.l0:Nat→List (S63)→List Int→List Int→Int→Int→Option (List Int×Int)
 | 0,_,_,_,_,_=>none
 | k+1,x0,x5,x14,x15,x16=>if x16<x15 then (if 0≤x16 then (if x16<(x14.length:Int) then ((shared_free.f k x0 (rd x14 x16)).bind fun t22=>(if t22=true then (if x5.length<17592186044416 then (shared_Free.l0 k x0 (x5++[rd x14 x16]) x14 x15 (wrap64 (x16+1))) else (none)) else (shared_Free.l0 k x0 x5 x14 x15 (wrap64 (x16+1))))) else (none)) else (none)) else (some (x5,0))
def shared_Free.f (k:Nat) (l0:List (S63)):Option (List Int×Int):=(shared_solvable.f k l0).bind fun t21=>(if t21=0 then ((solve_Vars.f k l0).bind fun t18=>(shared_Free.l0 k l0 ([]:List Int) t18 (t18.length:Int) 0)) else (some (([]:List Int),t21)))
set_option maxHeartbeats 8000000 in
set_option maxRecDepth 100000 in
theorem shared_Free.calls (k:Nat) (A0:Option Addr) (c0:Nat) (l0:List (S63)) (r1:List Int) (r2:Int) (w:World) (hr0:Kd.C k63 w A0 l0.length l0) (hc0:l0.length≤c0) (h:shared_Free.f k l0=some (r1,r2)) :
  Calls Tryz.prog 23 #[.slice A0 l0.length c0] w fun e w'=>∃ v0_:Value,e=.returned (.tuple #[v0_,.int .i64 r2])∧Kd.R (Kd.int .i64) 3 w' w.heap.size (fun _=>True) v0_ r1∧Below w.heap.size w w':=by
 have HR0:=zA hr0;have HC0:=zA hc0;clear hr0 hc0;have HB:=zA (Below.refl w.heap.size w);have H:((shared_solvable.f k l0).bind fun t21=>(if t21=0 then ((solve_Vars.f k l0).bind fun t18=>(shared_Free.l0 k l0 ([]:List Int) t18 (t18.length:Int) 0)) else (some (([]:List Int),t21))))=some (r1,r2):=h;clear h;obtain ⟨t21,A2,H⟩:=zo H;have HC3:=zA H;clear H
 go_enter Tryz.func23,Tryz.ntmps23
 go_upto_if 11 with (first|((with_reducible refine gate_callee (f:=35) rfl ?_);refine zgo 9 Tryz.func35 #[.slice A0 l0.length c0] ?_;(with_reducible refine (shared_solvable.calls k _ _ l0 t21 _ ?side1 HC0.out A2.out).mono ?_);(case side1=>repeat (first|exact HR0.out|(with_reducible refine Kd.C_alloc ?_ _)|(with_reducible refine Kd.C_drewN ?_ _)|(with_reducible refine Kd.C_drew ?_)));rintro e w4 ⟨rfl,hb⟩;refine ⟨_,rfl,?_⟩;replace HB:=zu hb;clear hb))
 (try simp only [Act.put,zi,zs,zt]);have H:=HC3.out;clear HC3
 rcases ife H with ⟨c5b0,c5b1,H⟩|⟨c5,c5b0,c5b1,H⟩
 ·(first|rw [c5b0]|(simp only [i64_w,i32_w];rw [c5b0])|skip)
  (try rw [c5b1]);obtain ⟨t18,A6,H⟩:=zo H;have H':=zA H;clear H
  go_wp2_with (first|((with_reducible refine gate_callee (f:=36) rfl ?_);refine zgo 14 Tryz.func36 #[.slice A0 l0.length c0] ?_;(with_reducible refine (solve_Vars.calls k _ _ l0 t18 _ (zD HR0 HB) HC0.out A6.out).mono ?_);rintro e w7 ⟨v26,rfl,ho0,hb⟩;refine ⟨_,rfl,?_⟩;have HO24:=zA (Kd.R_lower ho0 (below_size zB));replace HB:=zu hb;clear hb;(try clear ho0);obtain ⟨Ao8,co8,eo8⟩:=Kd.R_slice HO24.out;subst eo8))
  go_loopg [5,16] k (fun kq v5 v16 w'=>∃ (x5_1:List Int) (x16_1:Int),v16=.int .i64 x16_1∧Aside0 (shared_Free.l0 kq l0 x5_1 t18 (t18.length:Int) x16_1=some (r1,r2))∧Aside0 (kq≤k)∧Aside0 (Kd.R (Kd.int .i64) 3 w' w.heap.size (fun k_=>some k_≠((.slice Ao8 t18.length co8):Value).ownBlock) v5 x5_1)∧Aside0 (Kd.R (Kd.int .i64) 3 w' w.heap.size (fun k_=>some k_≠(v5:Value).ownBlock) (.slice Ao8 t18.length co8) t18)∧Aside0 (Below w.heap.size w w'))
  case atStart=>exact ⟨(([]:List Int)),(0),zT,H',⟨Nat.le_refl _⟩,⟨by first|exact Kd.R_nil _ _ _ _ _|exact Kd.N_nil _ _ _ _ _|exact Kd.V_nil _ _ _ _ _|exact Kd.Q_nil _ _ _ _ _|exact Kd.S_nil _ _ _ _ _⟩,⟨by refine zr ?_;exact Kd.R_mono HO24.out (fun _ hk=>(by simp [Value.ownBlock]))⟩,⟨zv0 HB⟩⟩
  case round=>
   clear H'
   try clear c5
   try clear c5b0
   try clear c5b1
   obtain ⟨x5_1,x16_1,rfl,HA,HK1,HO_5,HO_14,HB⟩:=hrel
   cases gk with
   | zero=>exact absurd HA.out (by simp [shared_Free.l0])
   | succ k1=>
    have H:=HA.out;clear HA;simp only [shared_Free.l0] at H
    rcases ifd H with ⟨c9b0,H⟩|⟨c9b0,H⟩
    ·obtain ⟨c10b0,H⟩:=ifd1 H;obtain ⟨c11b0,H⟩:=ifd1 H;obtain ⟨t22,A12,H⟩:=zo H;have HC13:=zA H;clear H;obtain ⟨p19,q19,ad19,e19,hx19_0⟩:=zp (Kd.at_int (Kd.R_reads' HO_14.out).2.2 x16_1)
     cases e19
     replace p19:=eq_true p19;replace q19:=eq_true q19
     go_upto_if 22 with (first|((with_reducible refine gate_callee (f:=63) rfl ?_);refine zgo 22 Tryz.func63 #[.slice A0 l0.length c0,.int .i64 (rd t18 x16_1)] ?_;(with_reducible refine (shared_free.calls k1 (fun k_=>k_<w.heap.size) _ _ l0 (rd t18 x16_1) t22 _ ?side1 A12.out).mono ?_);(case side1=>exact Kd.V_mk HC0.out (Kd.F_below (Kd.C_F k63_heap HR0.out) zB));rintro e w14 ⟨rfl,hb⟩;refine ⟨_,rfl,?_⟩;replace HO_5:=zA (Kd.R_below (zR HO_5) hb);replace HO_14:=zA (Kd.R_below (zR HO_14) hb);replace HB:=zu hb;clear hb))
     (try simp only [Act.put,zi,zs,zt]);have H:=HC13.out;clear HC13
     by_cases c15:t22=true
     ·subst c15
      have H1:(if x5_1.length<17592186044416 then (shared_Free.l0 k1 l0 (x5_1++[rd t18 x16_1]) t18 (t18.length:Int) (wrap64 (x16_1+1))) else (none))=some (r1,r2):=by rw [if_pos rfl] at H;exact H
      clear H;have H:=H1;clear H1;obtain ⟨c16,H⟩:=if1 H;have LMc16:=zA c16;clear c16
      first|(replace H:=zyb (x5_1++[rd t18 x16_1]) H;obtain ⟨y20,Ny20,H⟩:=H)|(obtain ⟨y20,hy20⟩:=zY (x5_1++[rd t18 x16_1]);(try rw (occs:=.pos [1]) [← hy20] at H);have Ny20:=zA hy20;clear hy20)
      have H':=zA H;clear H
      go_wp2_with (first|((with_reducible refine gate_builtin (b:=.append) (xs:=#[.tmp 23,.tmp 25]) rfl ?_);at_builtin;refine Kd.R_append (Kd.int .i64) (w0:=w) w.heap.size rfl (.tmp 23) (.tmp 25) 43 3 (.int .i64 0) 8 rfl Tryz.underlying43 info3 rfl (by decide) (by omega) u5 x5_1 (rd t18 x16_1) [.int .i64 (rd t18 x16_1)] (fun k_=>some k_≠(.slice (some ad19) t18.length co8:Value).ownBlock) (fun _=>False) rfl rfl ?aP (fun _ hk=>hk.elim) ?aF ?aO ?aB ?aS ?aL ?_;(case aP=>exact rfl);(case aB=>exact zB);(case aF=>exact (fun k_ hk=>Kd.fresh' (Kd.R_lt (zR HO_14)) k_ hk));(case aO=>exact (zR HO_5));(case aS=>exact (below_size zB));(case aL=>have:=LMc16.out;omega);intro v27 w17 ho hb hg hat;rw [← Ny20.out] at ho;have HO25:=zA (ho);replace HO_14:=zA (Kd.R_after (ok:=(fun _=>True)) (by refine zr ?_;exact Kd.R_mono HO_14.out (fun _ hk=>⟨trivial,hk⟩)) hg hat);replace HB:=zA (hb);clear HO_5;clear ho hb hg hat))
      go_roundg k1
      case measure=>have:=HK1.out;omega
      case rel=>exact ⟨(y20),(wrap64 (x16_1+1)),zT,H',⟨by have:=HK1.out;omega⟩,⟨by refine zr ?_;exact HO25.out⟩,⟨by refine zr ?_;exact Kd.R_mono HO_14.out (fun _ hk=>hk.2)⟩,⟨zv0 HB⟩⟩
     ·replace c15:=Bool.eq_false_iff.mpr c15;subst c15
      have H1:(shared_Free.l0 k1 l0 x5_1 t18 (t18.length:Int) (wrap64 (x16_1+1)))=some (r1,r2):=by rw [if_neg (show ¬ (false=true) by decide)] at H;exact H
      clear H;have H:=H1;clear H1;have H':=zA H;clear H
      go_wp2
      go_roundg k1
      case measure=>have:=HK1.out;omega
      case rel=>exact ⟨(x5_1),(wrap64 (x16_1+1)),zT,H',⟨by have:=HK1.out;omega⟩,⟨by refine zr ?_;exact HO_5.out⟩,⟨by refine zr ?_;exact HO_14.out⟩,⟨zv0 HB⟩⟩
    ·simp only [Option.some.injEq,Prod.mk.injEq] at H;obtain ⟨rfl,rfl⟩:=H
     go_wp2
     go_ret2
     exact ⟨_,ze,by refine zr ?_;exact Kd.R_mono HO_5.out (fun _ hk=>trivial),zv0 HB⟩
 ·(first|rw [c5b0]|(simp only [i64_w,i32_w];rw [c5b0])|skip)
  (try rw [c5b1]);simp only [Option.some.injEq,Prod.mk.injEq] at H;obtain ⟨rfl,rfl⟩:=H
  go_wp2
  go_ret2
  exact ⟨_,ze,by first|exact Kd.R_nil _ _ _ _ _|exact Kd.N_nil _ _ _ _ _|exact Kd.V_nil _ _ _ _ _|exact Kd.Q_nil _ _ _ _ _|exact Kd.S_nil _ _ _ _ _,zv0 HB⟩
end Go.Proofs.YtngpkbbljnbojaaGreat.L
