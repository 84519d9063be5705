import Derived.Test.YtngpkbbljnbojaaGreatL0
import Derived.Test.YtngpkbbljnbojaaGreatL6
import Derived.Test.YtngpkbbljnbojaaGreatL9
import Derived.Test.YtngpkbbljnbojaaGreatL10
import Derived.Test.YtngpkbbljnbojaaGreatL11
import Derived.Test.YtngpkbbljnbojaaGreatL12
import Derived.Test.YtngpkbbljnbojaaGreatL13
import Derived.Test.YtngpkbbljnbojaaGreatL17
import Derived.Test.YtngpkbbljnbojaaGreatL18
namespace Go.Proofs.YtngpkbbljnbojaaGreat.L
open Go.RowKit Go.Proofs.YtngpkbbljnbojaaGreatW.PrintWords Go.Proofs.YtngpkbbljnbojaaGreatW.PrintLast Go.Proofs.YtngpkbbljnbojaaGreatW.PrintMore
attribute [local go_sem] max2_int min2_int max_two min_two max_three min_three max_four min_four Tryz.underlying3 Tryz.underlying53
set_option linter.unusedVariables false
set_option linter.unusedSimpArgs false
def ancepsref41_Free.l0:Nat→List (S63)→List Int→List Int→Int→Option (List Int×Int)
 | 0,_,_,_,_=>none
 | k+1,x0,x5,x6,x7=>if x7<(x6.length:Int) then (if 0≤x7 then ((ancepsref41_free.f k x0 (rd x6 x7)).bind fun t91=>(if t91=true then (if x5.length<17592186044416 then (ancepsref41_Free.l0 k x0 (x5++[rd x6 x7]) x6 (wrap64 (x7+1))) else (none)) else (ancepsref41_Free.l0 k x0 x5 x6 (wrap64 (x7+1))))) else (none)) else (some (x5,0))
def ancepsref41_Free.f (k:Nat) (l0:List (S63)):Option (List Int×Int):=(ancepsref41_given.f k l0).bind fun t81=>(if t81=0 then ((ancepsref41_solvable.f k l0).bind fun t85=>(if t85=true then ((ancepsref40_Vars.f k l0).bind fun t58=>(ancepsref41_Free.l0 k l0 ([]:List Int) t58 0)) else (some (([]:List Int),12)))) else (some (([]:List Int),t81)))
set_option maxHeartbeats 8000000 in
set_option maxRecDepth 100000 in
theorem ancepsref41_Free.calls (k:Nat) (A0:Option Addr) (c0:Nat) (l0:List (S63)) (r1:List Int) (r2:Int) (w:World) (hr0:Kd.C k63 w A0 l0.length l0) (hc0:l0.length≤c0) (h:ancepsref41_Free.f k l0=some (r1,r2)) :
  Calls Tryz.prog 24 #[.slice A0 l0.length c0] w fun e w'=>∃ v0_:Value,e=.returned (.tuple #[v0_,.int .i64 r2])∧Kd.R (Kd.int .i64) 3 w' w.heap.size (fun _=>True) v0_ r1∧Below w.heap.size w w':=by
 have HR0:=zA hr0;have HC0:=zA hc0;clear hr0 hc0;have HB:=zA (Below.refl w.heap.size w);have H:((ancepsref41_given.f k l0).bind fun t81=>(if t81=0 then ((ancepsref41_solvable.f k l0).bind fun t85=>(if t85=true then ((ancepsref40_Vars.f k l0).bind fun t58=>(ancepsref41_Free.l0 k l0 ([]:List Int) t58 0)) else (some (([]:List Int),12)))) else (some (([]:List Int),t81))))=some (r1,r2):=h;clear h;obtain ⟨t81,A2,H⟩:=zo H;have HC3:=zA H;clear H
 go_enter Tryz.func24,Tryz.ntmps24
 go_upto_if 11 with (first|((with_reducible refine gate_callee (f:=39) rfl ?_);refine zgo 9 Tryz.func39 #[.slice A0 l0.length c0] ?_;(with_reducible refine (ancepsref41_given.calls k _ _ l0 t81 _ ?side1 HC0.out A2.out).mono ?_);(case side1=>repeat (first|exact HR0.out|(with_reducible refine Kd.C_alloc ?_ _)|(with_reducible refine Kd.C_drewN ?_ _)|(with_reducible refine Kd.C_drew ?_)));rintro e w4 ⟨rfl,hb⟩;refine ⟨_,rfl,?_⟩;replace HB:=zu hb;clear hb))
 (try simp only [Act.put,zi,zs,zt]);have H:=HC3.out;clear HC3
 rcases ife H with ⟨c5b0,c5b1,H⟩|⟨c5,c5b0,c5b1,H⟩
 ·(first|rw [c5b0]|(simp only [i64_w,i32_w];rw [c5b0])|skip)
  (try rw [c5b1]);obtain ⟨t85,A6,H⟩:=zo H;have HC7:=zA H;clear H
  go_upto_if 15 with (first|((with_reducible refine gate_callee (f:=40) rfl ?_);refine zgo 14 Tryz.func40 #[.slice A0 l0.length c0] ?_;(with_reducible refine (ancepsref41_solvable.calls k _ _ l0 t85 _ (zD HR0 HB) HC0.out A6.out).mono ?_);rintro e w8 ⟨rfl,hb⟩;refine ⟨_,rfl,?_⟩;replace HB:=zu hb;clear hb))
  (try simp only [Act.put,zi,zs,zt]);have H:=HC7.out;clear HC7
  by_cases c9:t85=true
  ·subst c9
   have H1:((ancepsref40_Vars.f k l0).bind fun t58=>(ancepsref41_Free.l0 k l0 ([]:List Int) t58 0))=some (r1,r2):=by rw [if_pos rfl] at H;exact H
   clear H;have H:=H1;clear H1;obtain ⟨t58,A10,H⟩:=zo H;have H':=zA H;clear H
   go_wp2_with (first|((with_reducible refine gate_callee (f:=34) rfl ?_);refine zgo 17 Tryz.func34 #[.slice A0 l0.length c0] ?_;(with_reducible refine (ancepsref40_Vars.calls k _ _ l0 t58 _ (zD HR0 HB) HC0.out A10.out).mono ?_);rintro e w11 ⟨v883,rfl,ho0,hb⟩;refine ⟨_,rfl,?_⟩;have HO884:=zA (Kd.R_lower ho0 (below_size zB));replace HB:=zu hb;clear hb;(try clear ho0)))
   go_loopg [5,7] k (fun kq v5 v7 w'=>∃ (x5_1:List Int) (x7_1:Int),v7=.int .i64 x7_1∧Aside0 (ancepsref41_Free.l0 kq l0 x5_1 t58 x7_1=some (r1,r2))∧Aside0 (kq≤k)∧Aside0 (Kd.R (Kd.int .i64) 3 w' w.heap.size (fun k_=>some k_≠(v883:Value).ownBlock) v5 x5_1)∧Aside0 (Kd.R (Kd.int .i64) 3 w' w.heap.size (fun k_=>some k_≠(v5:Value).ownBlock) v883 t58)∧Aside0 (Below w.heap.size w w'))
   case atStart=>exact ⟨(([]:List Int)),(0),zT,H',⟨Nat.le_refl _⟩,⟨by first|exact Kd.R_nil _ _ _ _ _|exact Kd.N_nil _ _ _ _ _|exact Kd.V_nil _ _ _ _ _|exact Kd.Q_nil _ _ _ _ _|exact Kd.S_nil _ _ _ _ _⟩,⟨by refine zr ?_;exact Kd.R_mono HO884.out (fun _ hk=>(by simp [Value.ownBlock]))⟩,⟨zv0 HB⟩⟩
   case round=>
    clear H'
    try clear c5
    try clear c5b0
    try clear c5b1
    try clear c9
    obtain ⟨x5_1,x7_1,rfl,HA,HK1,HO_5,HO_6,HB⟩:=hrel
    cases gk with
    | zero=>exact absurd HA.out (by simp [ancepsref41_Free.l0])
    | succ k1=>
     have H:=HA.out;clear HA;simp only [ancepsref41_Free.l0] at H
     rcases ifd H with ⟨c12b0,H⟩|⟨c12b0,H⟩
     ·(first|rw [c12b0]|(simp only [i64_w,i32_w];rw [c12b0])|skip)
      obtain ⟨c13b0,H⟩:=ifd1 H;obtain ⟨t91,A14,H⟩:=zo H;have HC15:=zA H;clear H;obtain ⟨Ao16,co16,eo16⟩:=Kd.R_slice HO_6.out;subst eo16;obtain ⟨p71,q71,ad71,e71,hx71_0⟩:=zp (Kd.at_int (Kd.R_reads' HO_6.out).2.2 x7_1)
      cases e71
      replace p71:=eq_true p71;replace q71:=eq_true q71
      go_upto_if 29 with (first|((with_reducible refine gate_callee (f:=64) rfl ?_);refine zgo 29 Tryz.func64 #[.slice A0 l0.length c0,.int .i64 (rd t58 x7_1)] ?_;(with_reducible refine (ancepsref41_free.calls k1 (fun k_=>k_<w.heap.size) _ _ l0 (rd t58 x7_1) t91 _ ?side1 A14.out).mono ?_);(case side1=>exact Kd.V_mk HC0.out (Kd.F_below (Kd.C_F k63_heap HR0.out) zB));rintro e w17 ⟨rfl,hb⟩;refine ⟨_,rfl,?_⟩;replace HO_5:=zA (Kd.R_below (zR HO_5) hb);replace HO_6:=zA (Kd.R_below (zR HO_6) hb);replace HB:=zu hb;clear hb))
      (try simp only [Act.put,zi,zs,zt]);have H:=HC15.out;clear HC15
      by_cases c18:t91=true
      ·subst c18
       have H1:(if x5_1.length<17592186044416 then (ancepsref41_Free.l0 k1 l0 (x5_1++[rd t58 x7_1]) t58 (wrap64 (x7_1+1))) else (none))=some (r1,r2):=by rw [if_pos rfl] at H;exact H
       clear H;have H:=H1;clear H1;obtain ⟨c19,H⟩:=if1 H;have LMc19:=zA c19;clear c19
       first|(replace H:=zyb (x5_1++[rd t58 x7_1]) H;obtain ⟨y75,Ny75,H⟩:=H)|(obtain ⟨y75,hy75⟩:=zY (x5_1++[rd t58 x7_1]);(try rw (occs:=.pos [1]) [← hy75] at H);have Ny75:=zA hy75;clear hy75)
       have H':=zA H;clear H;obtain ⟨p74,q74,ad74,e74,hx74_0⟩:=zp (Kd.at_int (Kd.R_reads' HO_6.out).2.2 x7_1)
       obtain rfl:ad71=ad74:=(by injection e74)
       replace p74:=eq_true p74;replace q74:=eq_true q74
       go_wp2_with (first|((with_reducible refine gate_builtin (b:=.append) (xs:=#[.tmp 30,.tmp 35]) rfl ?_);at_builtin;refine Kd.R_append (Kd.int .i64) (w0:=w) w.heap.size rfl (.tmp 30) (.tmp 35) 43 3 (.int .i64 0) 8 rfl Tryz.underlying43 info3 rfl (by decide) (by omega) u5 x5_1 (rd t58 x7_1) [.int .i64 (rd t58 x7_1)] (fun k_=>some k_≠(.slice (some ad71) t58.length co16:Value).ownBlock) (fun _=>False) rfl rfl ?aP (fun _ hk=>hk.elim) ?aF ?aO ?aB ?aS ?aL ?_;(case aP=>exact rfl);(case aB=>exact zB);(case aF=>exact (fun k_ hk=>Kd.fresh' (Kd.R_lt (zR HO_6)) k_ hk));(case aO=>exact (zR HO_5));(case aS=>exact (below_size zB));(case aL=>have:=LMc19.out;omega);intro v889 w20 ho hb hg hat;rw [← Ny75.out] at ho;have HO890:=zA (ho);replace HO_6:=zA (Kd.R_after (ok:=(fun _=>True)) (by refine zr ?_;exact Kd.R_mono HO_6.out (fun _ hk=>⟨trivial,hk⟩)) hg hat);replace HB:=zA (hb);clear HO_5;clear ho hb hg hat))
       go_roundg k1
       case measure=>have:=HK1.out;omega
       case rel=>exact ⟨(y75),(wrap64 (x7_1+1)),zT,H',⟨by have:=HK1.out;omega⟩,⟨by refine zr ?_;exact HO890.out⟩,⟨by refine zr ?_;exact Kd.R_mono HO_6.out (fun _ hk=>hk.2)⟩,⟨zv0 HB⟩⟩
      ·replace c18:=Bool.eq_false_iff.mpr c18;subst c18
       have H1:(ancepsref41_Free.l0 k1 l0 x5_1 t58 (wrap64 (x7_1+1)))=some (r1,r2):=by rw [if_neg (show ¬ (false=true) by decide)] at H;exact H
       clear H;have H:=H1;clear H1;have H':=zA H;clear H
       go_wp2
       go_roundg k1
       case measure=>have:=HK1.out;omega
       case rel=>exact ⟨(x5_1),(wrap64 (x7_1+1)),zT,H',⟨by have:=HK1.out;omega⟩,⟨by refine zr ?_;exact HO_5.out⟩,⟨by refine zr ?_;exact HO_6.out⟩,⟨zv0 HB⟩⟩
     ·(first|rw [c12b0]|(simp only [i64_w,i32_w];rw [c12b0])|skip)
      simp only [Option.some.injEq,Prod.mk.injEq] at H;obtain ⟨rfl,rfl⟩:=H;obtain ⟨Ao21,co21,eo21⟩:=Kd.R_slice HO_6.out;subst eo21
      go_wp2
      go_ret2
      exact ⟨_,ze,by refine zr ?_;exact Kd.R_mono HO_5.out (fun _ hk=>trivial),zv0 HB⟩
  ·replace c9:=Bool.eq_false_iff.mpr c9;subst c9
   have H1:(some (([]:List Int),12))=some (r1,r2):=by rw [if_neg (show ¬ (false=true) by decide)] at H;exact H
   clear H;have H:=H1;clear H1;simp only [Option.some.injEq,Prod.mk.injEq] at H;obtain ⟨rfl,rfl⟩:=H
   go_wp2
   go_ret2
   exact ⟨_,ze,by first|exact Kd.R_nil _ _ _ _ _|exact Kd.N_nil _ _ _ _ _|exact Kd.V_nil _ _ _ _ _|exact Kd.Q_nil _ _ _ _ _|exact Kd.S_nil _ _ _ _ _,zv0 HB⟩
 ·(first|rw [c5b0]|(simp only [i64_w,i32_w];rw [c5b0])|skip)
  (try rw [c5b1]);simp only [Option.some.injEq,Prod.mk.injEq] at H;obtain ⟨rfl,rfl⟩:=H
  go_wp2
  go_ret2
  exact ⟨_,ze,by first|exact Kd.R_nil _ _ _ _ _|exact Kd.N_nil _ _ _ _ _|exact Kd.V_nil _ _ _ _ _|exact Kd.Q_nil _ _ _ _ _|exact Kd.S_nil _ _ _ _ _,zv0 HB⟩
def ancepslaw41_SharedLinked_1_v1.f (a0_0:Int) (a0_1:Int) (a0_2:Bool) (a1_0:Int):Option (Bool):=if a0_0=a1_0 then (some true) else (some (a0_1 == a1_0))
set_option maxHeartbeats 8000000 in
set_option maxRecDepth 100000 in
theorem ancepslaw41_SharedLinked_1_v1.calls (a0_0:Int) (a0_1:Int) (a0_2:Bool) (gp1_0:Nat) (a1_0:Int) (r:Bool) (w:World) (hb_gp1_0:w.heap[gp1_0]?=some (.cells #[.int .i64 a1_0] 3 (0,0))) (h:ancepslaw41_SharedLinked_1_v1.f a0_0 a0_1 a0_2 a1_0=some r) :
  Calls Tryz.prog 29 #[.agg #[.int .i64 a0_0,.int .i64 a0_1,.bool a0_2],.pointer (some ⟨gp1_0,0,none⟩)] w fun e w'=>e=.returned (.bool r)∧Below w.heap.size w w':=by
 have BK61:=zA hb_gp1_0;clear hb_gp1_0;have HB:=zA (Below.refl w.heap.size w);have H:(if a0_0=a1_0 then (some true) else (some (a0_1 == a1_0)))=some r:=h;clear h;have HC3:=zA H;clear H
 go_enter Tryz.func29,Tryz.ntmps29
 go_upto_region 1 with (first|((with_reducible refine gd 2 rfl ?_);refine zx #[.int .i64 a0_0,.int .i64 a0_1,.bool a0_2] 53 ?_;intro gb56 hg w4 BK56 hb GW56 HB1;have GE56:=GW56;have NB61_56:=zL hg BK61;have NB56_61:=zLs NB61_56;replace BK61:=zw BK61 hb;clear HB hb hg;have HB:=HB1;clear HB1))
 (try simp only [Act.put,zi,zs,zt]);have H:=HC3.out;clear HC3
 rcases ife H with ⟨c5b0,c5b1,H⟩|⟨c5,c5b0,c5b1,H⟩
 ·(first|rw [c5b0]|(simp only [i64_w,i32_w];rw [c5b0])|skip)
  (try rw [c5b1]);obtain rfl:=Option.some.inj H;have hnb6:=NB56_61.out;have hnc6:=NB61_56.out;have hcz7_0:=zc0 BK56;have hcz7_1:=zc1 BK56;have hcz7_2:=zc2 BK56;have hfz7_0:=zf BK56;have hcz8_0:w4.cell? ⟨gp1_0,0,none⟩=some (.int .i64 a1_0):=zc0 BK61;have hfz8_0:=zf BK61 0
  go_wp2
  go_ret
  exact ⟨ze,zv1 HB GE56⟩
 ·(first|rw [c5b0]|(simp only [i64_w,i32_w];rw [c5b0])|skip)
  (try rw [c5b1]);obtain rfl:=Option.some.inj H;have hnb9:=NB56_61.out;have hnc9:=NB61_56.out;have hcz10_0:=zc0 BK56;have hcz10_1:=zc1 BK56;have hcz10_2:=zc2 BK56;have hfz10_0:=zf BK56;have hcz11_0:w4.cell? ⟨gp1_0,0,none⟩=some (.int .i64 a1_0):=zc0 BK61;have hfz11_0:=zf BK61 0
  go_wp2
  go_ret
  exact ⟨ze,zv1 HB GE56⟩
def api_Link_ancepslaw41_SharedLinked_1_v1.l0:Nat→List (S53)→Int→Int→Int→Option (Int)
 | 0,_,_,_,_=>none
 | k+1,x0,x7,x8,x88=>if x8<x7 then (if 0≤x8 then (if x8<(x0.length:Int) then ((ancepslaw41_SharedLinked_1_v1.f ((rd_T53 x0 x8).f0) ((rd_T53 x0 x8).f1) ((rd_T53 x0 x8).f2) x88).bind fun t92=>(if t92=true then (some x8) else (api_Link_ancepslaw41_SharedLinked_1_v1.l0 k x0 x7 (wrap64 (x8+1)) x88))) else (none)) else (none)) else (some (-1))
def api_Link_ancepslaw41_SharedLinked_1_v1.f (k:Nat) (l0:List (S53)) (a1_0:Int):Option (Int):=api_Link_ancepslaw41_SharedLinked_1_v1.l0 k l0 (l0.length:Int) 0 a1_0
set_option maxHeartbeats 8000000 in
set_option maxRecDepth 100000 in
theorem api_Link_ancepslaw41_SharedLinked_1_v1.calls (k:Nat) (A0:Option Addr) (c0:Nat) (l0:List (S53)) (gp1_0:Nat) (a1_0:Int) (r:Int) (w:World) (hr0:Kd.C k53 w A0 l0.length l0) (hc0:l0.length≤c0) (hb_gp1_0:w.heap[gp1_0]?=some (.cells #[.int .i64 a1_0] 3 (0,0))) (h:api_Link_ancepslaw41_SharedLinked_1_v1.f k l0 a1_0=some r) :
  Calls Tryz.prog 65 #[.slice A0 l0.length c0,.func (.func 29) #[] #[.pointer (some ⟨gp1_0,0,none⟩)]] w fun e w'=>e=.returned (.int .i64 r)∧Below w.heap.size w w':=by
 have HR0:=zA hr0;have HC0:=zA hc0;clear hr0 hc0;have BK86:=zA hb_gp1_0;clear hb_gp1_0;have HB:=zA (Below.refl w.heap.size w);have H:(api_Link_ancepslaw41_SharedLinked_1_v1.l0 k l0 (l0.length:Int) 0 a1_0)=some r:=h;clear h;have H':=zA H;clear H
 go_enter Tryz.func65,Tryz.ntmps65
 go_wp2
 go_loopg [8] k (fun kq v8 w'=>∃ (x8_1:Int),v8=.int .i64 x8_1∧Aside0 (api_Link_ancepslaw41_SharedLinked_1_v1.l0 kq l0 (l0.length:Int) x8_1 a1_0=some r)∧Aside0 (kq≤k)∧Aside0 (w'.heap[gp1_0]?=some (.cells #[.int .i64 a1_0] 3 (0,0)))∧Aside0 (Below w.heap.size w w'))
 case atStart=>exact ⟨(0),zT,H',⟨Nat.le_refl _⟩,⟨by refine zj ?_;exact BK86.out⟩,⟨zv0 HB⟩⟩
 case round=>
  clear H';obtain ⟨x8_1,rfl,HA,HK1,BK86,HB⟩:=hrel
  cases gk with
  | zero=>exact absurd HA.out (by simp [api_Link_ancepslaw41_SharedLinked_1_v1.l0])
  | succ k1=>
   have H:=HA.out;clear HA;simp only [api_Link_ancepslaw41_SharedLinked_1_v1.l0] at H
   rcases ifd H with ⟨c3b0,H⟩|⟨c3b0,H⟩
   ·obtain ⟨c4b0,H⟩:=ifd1 H;obtain ⟨c5b0,H⟩:=ifd1 H;obtain ⟨t92,A6,H⟩:=zo H;have HC7:=zA H;clear H;obtain ⟨p59,q59,ad59,e59,hx59_0,hx59_1,hx59_2⟩:=zp (at_T53 HR0.out x8_1)
    cases e59
    replace hx59_0:=zd HB hx59_0;replace hx59_1:=zd HB hx59_1;replace hx59_2:=zd HB hx59_2;replace p59:=eq_true p59;replace q59:=eq_true q59
    go_upto_if 16 with (first|(go_at_call 29;(with_reducible refine (ancepslaw41_SharedLinked_1_v1.calls ((rd_T53 l0 x8_1).f0) ((rd_T53 l0 x8_1).f1) ((rd_T53 l0 x8_1).f2) gp1_0 a1_0 t92 _ ?side1 A6.out).mono ?_);(case side1=>refine zj ?_;exact BK86.out);rintro e w8 ⟨rfl,hb⟩;replace BK86:=zw BK86 hb;replace HB:=zu hb;clear hb))
    (try simp only [Act.put,zi,zs,zt]);have H:=HC7.out;clear HC7
    by_cases c9:t92=true
    ·subst c9
     have H1:(some x8_1)=some r:=by rw [if_pos rfl] at H;exact H
     clear H;have H:=H1;clear H1;obtain rfl:=Option.some.inj H
     go_wp2
     go_ret
     exact ⟨ze,zv0 HB⟩
    ·replace c9:=Bool.eq_false_iff.mpr c9;subst c9
     have H1:(api_Link_ancepslaw41_SharedLinked_1_v1.l0 k1 l0 (l0.length:Int) (wrap64 (x8_1+1)) a1_0)=some r:=by rw [if_neg (show ¬ (false=true) by decide)] at H;exact H
     clear H;have H:=H1;clear H1;have H':=zA H;clear H
     go_wp2
     go_roundg k1
     case measure=>have:=HK1.out;omega
     case rel=>exact ⟨(wrap64 (x8_1+1)),zT,H',⟨by have:=HK1.out;omega⟩,⟨by refine zj ?_;exact BK86.out⟩,⟨zv0 HB⟩⟩
   ·obtain rfl:=Option.some.inj H
    go_wp2
    go_ret
    exact ⟨ze,zv0 HB⟩
def api_Link_ancepslaw41_SharedLinked_1.f (k:Nat) (l0:List (S53)) (a1_0:Int):Option (Bool):=(api_Link_ancepslaw41_SharedLinked_1_v1.f k l0 a1_0).bind fun t89=>(some (decide (t89≥0)))
set_option maxHeartbeats 8000000 in
set_option maxRecDepth 100000 in
theorem api_Link_ancepslaw41_SharedLinked_1.calls (k:Nat) (A0:Option Addr) (c0:Nat) (l0:List (S53)) (gp1_0:Nat) (a1_0:Int) (r:Bool) (w:World) (hr0:Kd.C k53 w A0 l0.length l0) (hc0:l0.length≤c0) (hb_gp1_0:w.heap[gp1_0]?=some (.cells #[.int .i64 a1_0] 3 (0,0))) (h:api_Link_ancepslaw41_SharedLinked_1.f k l0 a1_0=some r) :
  Calls Tryz.prog 28 #[.slice A0 l0.length c0,.func (.func 29) #[] #[.pointer (some ⟨gp1_0,0,none⟩)]] w fun e w'=>e=.returned (.bool r)∧Below w.heap.size w w':=by
 have HR0:=zA hr0;have HC0:=zA hc0;clear hr0 hc0;have BK94:=zA hb_gp1_0;clear hb_gp1_0;have HB:=zA (Below.refl w.heap.size w);have H:((api_Link_ancepslaw41_SharedLinked_1_v1.f k l0 a1_0).bind fun t89=>(some (decide (t89≥0))))=some r:=h;clear h;obtain ⟨t89,A3,H⟩:=zo H;obtain rfl:=Option.some.inj H
 go_enter Tryz.func28,Tryz.ntmps28
 go_wp2_with (first|((with_reducible refine gate_callee (f:=65) rfl ?_);refine zgo 7 Tryz.func65 #[.slice A0 l0.length c0,.func (.func 29) #[] #[.pointer (some ⟨gp1_0,0,none⟩)]] ?_;(with_reducible refine (api_Link_ancepslaw41_SharedLinked_1_v1.calls k _ _ l0 gp1_0 a1_0 t89 _ ?side1 HC0.out ?side3 A3.out).mono ?_);(case side1=>repeat (first|exact HR0.out|(with_reducible refine Kd.C_alloc ?_ _)|(with_reducible refine Kd.C_drewN ?_ _)|(with_reducible refine Kd.C_drew ?_)));(case side3=>refine zj ?_;exact BK94.out);rintro e w4 ⟨rfl,hb⟩;refine ⟨_,rfl,?_⟩;replace BK94:=zw BK94 hb;replace HB:=zu hb;clear hb))
 go_ret
 exact ⟨ze,zv0 HB⟩
def ancepslaw41_SharedLinked.l0:Nat→List (S63)→List (S53)→List Int→Int→Int→Option (Bool)
 | 0,_,_,_,_,_=>none
 | k+1,x0,x3,x65,x66,x67=>if x67<x66 then (if 0≤x67 then (if x67<(x65.length:Int) then ((shared_Value.f k x0 (rd x65 x67)).bind fun bt87=>(if bt87.2=0 then (if bt87.1=3 then ((api_Link_ancepslaw41_SharedLinked_1.f k x3 (rd x65 x67)).bind fun t93=>(if t93=true then (none) else (ancepslaw41_SharedLinked.l0 k x0 x3 x65 x66 (wrap64 (x67+1))))) else (none)) else (none))) else (none)) else (none)) else (some true)
def ancepslaw41_SharedLinked.f (k:Nat) (l0:List (S63)):Option (Bool):=(ancepslaw41_awake.f k).bind fun t90=>(if t90=true then ((ancepsref41_FewTables.f k l0).bind fun t80=>(if t80=true then ((ancepslaw41_own.f k l0).bind fun t72=>((shared_Linked.f k t72).bind fun bt55=>((ancepsref41_Linked.f k l0).bind fun bt62=>((ancepslaw41_own.f k l0).bind fun t73=>((shared_Free.f k t73).bind fun bt54=>((ancepsref41_Free.f k l0).bind fun bt60=>(if bt55.2=bt62.2 then (if bt54.2=bt60.2 then ((api_Link_25.f k bt55.1 bt62.1).bind fun t76=>(if t76=true then ((slices_Equal_int_int.f k bt54.1 bt60.1).bind fun t70=>(if t70=true then (ancepslaw41_SharedLinked.l0 k l0 bt55.1 bt54.1 (bt54.1.length:Int) 0) else (none))) else (none))) else (none)) else (none)))))))) else ((ancepslaw41_awake.f k).bind fun t77=>(some t77)))) else ((ancepslaw41_awake.f k).bind fun t82=>(some t82)))
set_option maxHeartbeats 8000000 in
set_option maxRecDepth 100000 in
theorem ancepslaw41_SharedLinked.calls (k:Nat) (A0:Option Addr) (c0:Nat) (l0:List (S63)) (r:Bool) (w:World) (hr0:Kd.C k63 w A0 l0.length l0) (hc0:l0.length≤c0) (h:ancepslaw41_SharedLinked.f k l0=some r) :
  Calls Tryz.prog 6 #[.slice A0 l0.length c0] w fun e w'=>e=.returned (.bool r)∧Below w.heap.size w w':=by
 have HR0:=zA hr0;have HC0:=zA hc0;clear hr0 hc0;have HB:=zA (Below.refl w.heap.size w);have H:((ancepslaw41_awake.f k).bind fun t90=>(if t90=true then ((ancepsref41_FewTables.f k l0).bind fun t80=>(if t80=true then ((ancepslaw41_own.f k l0).bind fun t72=>((shared_Linked.f k t72).bind fun bt55=>((ancepsref41_Linked.f k l0).bind fun bt62=>((ancepslaw41_own.f k l0).bind fun t73=>((shared_Free.f k t73).bind fun bt54=>((ancepsref41_Free.f k l0).bind fun bt60=>(if bt55.2=bt62.2 then (if bt54.2=bt60.2 then ((api_Link_25.f k bt55.1 bt62.1).bind fun t76=>(if t76=true then ((slices_Equal_int_int.f k bt54.1 bt60.1).bind fun t70=>(if t70=true then (ancepslaw41_SharedLinked.l0 k l0 bt55.1 bt54.1 (bt54.1.length:Int) 0) else (none))) else (none))) else (none)) else (none)))))))) else ((ancepslaw41_awake.f k).bind fun t77=>(some t77)))) else ((ancepslaw41_awake.f k).bind fun t82=>(some t82))))=some r:=h;clear h;obtain ⟨t90,A2,H⟩:=zo H
 by_cases c3:t90=true
 ·subst c3
  have H1:((ancepsref41_FewTables.f k l0).bind fun t80=>(if t80=true then ((ancepslaw41_own.f k l0).bind fun t72=>((shared_Linked.f k t72).bind fun bt55=>((ancepsref41_Linked.f k l0).bind fun bt62=>((ancepslaw41_own.f k l0).bind fun t73=>((shared_Free.f k t73).bind fun bt54=>((ancepsref41_Free.f k l0).bind fun bt60=>(if bt55.2=bt62.2 then (if bt54.2=bt60.2 then ((api_Link_25.f k bt55.1 bt62.1).bind fun t76=>(if t76=true then ((slices_Equal_int_int.f k bt54.1 bt60.1).bind fun t70=>(if t70=true then (ancepslaw41_SharedLinked.l0 k l0 bt55.1 bt54.1 (bt54.1.length:Int) 0) else (none))) else (none))) else (none)) else (none)))))))) else ((ancepslaw41_awake.f k).bind fun t77=>(some t77))))=some r:=by rw [if_pos rfl] at H;exact H
  clear H;have H:=H1;clear H1;obtain ⟨t80,A4,H⟩:=zo H;have HC5:=zA H;clear H
  go_enter Tryz.func6,Tryz.ntmps6
  go_upto_if 21 with (first|((with_reducible refine gate_callee (f:=7) rfl ?_);refine zgo 15 Tryz.func7 #[] ?_;(with_reducible refine (ancepslaw41_awake.calls k  true _ A2.out).mono ?_);rintro e w6 ⟨rfl,hb⟩;refine ⟨_,rfl,?_⟩;replace HB:=zu hb;clear hb)|(go_at_call 8;(with_reducible refine (ancepsref41_FewTables.calls k _ _ l0 t80 _ (zD HR0 HB) HC0.out A4.out).mono ?_);rintro e w7 ⟨rfl,hb⟩;replace HB:=zu hb;clear hb))
  (try simp only [Act.put,zi,zs,zt]);have H:=HC5.out;clear HC5
  by_cases c8:t80=true
  ·subst c8
   have H1:((ancepslaw41_own.f k l0).bind fun t72=>((shared_Linked.f k t72).bind fun bt55=>((ancepsref41_Linked.f k l0).bind fun bt62=>((ancepslaw41_own.f k l0).bind fun t73=>((shared_Free.f k t73).bind fun bt54=>((ancepsref41_Free.f k l0).bind fun bt60=>(if bt55.2=bt62.2 then (if bt54.2=bt60.2 then ((api_Link_25.f k bt55.1 bt62.1).bind fun t76=>(if t76=true then ((slices_Equal_int_int.f k bt54.1 bt60.1).bind fun t70=>(if t70=true then (ancepslaw41_SharedLinked.l0 k l0 bt55.1 bt54.1 (bt54.1.length:Int) 0) else (none))) else (none))) else (none)) else (none))))))))=some r:=by rw [if_pos rfl] at H;exact H
   clear H;have H:=H1;clear H1;obtain ⟨t72,A9,H⟩:=zo H;obtain ⟨t55,t95,A10,H⟩:=zO H
   dsimp only at H
   obtain ⟨t62,t96,A11,H⟩:=zO H
   dsimp only at H
   obtain ⟨t73,A12,H⟩:=zo H;obtain ⟨t54,t97,A13,H⟩:=zO H
   dsimp only at H
   obtain ⟨t60,t98,A14,H⟩:=zO H
   dsimp only at H
   obtain ⟨c15,H⟩:=if1 H;have c15b0:(t95 == t96)=true:=beq_iff_eq.mpr c15;have c15b1:(t95 != t96)=false:=bne_eq_false_iff_eq.mpr c15;clear c15
   (first|rw [c15b0]|(simp only [i64_w,i32_w];rw [c15b0])|skip)
   (try rw [c15b1]);obtain ⟨c16,H⟩:=if1 H;have c16b0:(t97 == t98)=true:=beq_iff_eq.mpr c16;have c16b1:(t97 != t98)=false:=bne_eq_false_iff_eq.mpr c16;clear c16;obtain ⟨t76,A17,H⟩:=zo H
   by_cases c18:t76=true
   ·subst c18
    have H1:((slices_Equal_int_int.f k t54 t60).bind fun t70=>(if t70=true then (ancepslaw41_SharedLinked.l0 k l0 t55 t54 (t54.length:Int) 0) else (none)))=some r:=by rw [if_pos rfl] at H;exact H
    clear H;have H:=H1;clear H1;obtain ⟨t70,A19,H⟩:=zo H;have HC20:=zA H;clear H
    go_upto_if 64 with (first|((with_reducible refine gate_callee (f:=10) rfl ?_);refine zgo 25 Tryz.func10 #[.slice A0 l0.length c0] ?_;(with_reducible refine (ancepslaw41_own.calls k _ _ l0 t72 _ (zD HR0 HB) HC0.out A9.out).mono ?_);rintro e w21 ⟨v901,rfl,ho0,hb⟩;refine ⟨_,rfl,?_⟩;have HO68:=zA (Kd.S_lower ho0 (below_size zB));replace HB:=zu hb;clear hb;(try clear ho0);obtain ⟨Ao22,co22,eo22⟩:=Kd.S_slice HO68.out;subst eo22)|((with_reducible refine gate_callee (f:=21) rfl ?_);refine zgo 26 Tryz.func21 #[.slice Ao22 t72.length co22] ?_;(with_reducible refine (shared_Linked.calls k _ _ t72 t55 t95 _ ?side1 ?side2 A10.out).mono ?_);(case side1=>exact zC (Kd.S_reads' HO68.out).2.2);(case side2=>exact (Kd.S_reads' HO68.out).2.1);rintro e w23 ⟨v905,rfl,ho0,hb⟩;refine ⟨_,rfl,?_⟩;have HO69:=zA (Kd.R_lower ho0 (below_size zB));replace HO68:=zA (Kd.S_below (zS HO68) hb);replace HB:=zu hb;clear hb;(try clear ho0))|((with_reducible refine gate_callee (f:=22) rfl ?_);refine zgo 31 Tryz.func22 #[.slice A0 l0.length c0] ?_;(with_reducible refine (ancepsref41_Linked.calls k _ _ l0 t62 t96 _ (zD HR0 HB) HC0.out A11.out).mono ?_);rintro e w24 ⟨v909,rfl,ho0,hb⟩;refine ⟨_,rfl,?_⟩;have HO78:=zA (Kd.R_lower (Kd.R_new' ho0 (Kd.R_lt (zR HO69))) (below_size zB));replace HO68:=zA (Kd.S_below (zS HO68) hb);replace HO69:=zA (Kd.R_elder' (zR HO69) (Kd.R_base ho0) hb);replace HB:=zu hb;clear hb;(try clear ho0))|((with_reducible refine gate_callee (f:=10) rfl ?_);refine zgo 36 Tryz.func10 #[.slice A0 l0.length c0] ?_;(with_reducible refine (ancepslaw41_own.calls k _ _ l0 t73 _ (zD HR0 HB) HC0.out A12.out).mono ?_);rintro e w25 ⟨v912,rfl,ho0,hb⟩;refine ⟨_,rfl,?_⟩;have HO83:=zA (Kd.S_lower (Kd.S_new' ho0 (Kd.S_lt (zS HO68))) (below_size zB));replace HO68:=zA (Kd.S_elder' (zS HO68) (Kd.S_base ho0) hb);replace HO69:=zA (Kd.R_below (zR HO69) hb);replace HO78:=zA (Kd.R_below (zR HO78) hb);replace HB:=zu hb;clear hb;(try clear ho0);obtain ⟨Ao26,co26,eo26⟩:=Kd.S_slice HO83.out;subst eo26)|((with_reducible refine gate_callee (f:=23) rfl ?_);refine zgo 37 Tryz.func23 #[.slice Ao26 t73.length co26] ?_;(with_reducible refine (shared_Free.calls k _ _ t73 t54 t97 _ ?side1 ?side2 A13.out).mono ?_);(case side1=>exact zC (Kd.S_reads' HO83.out).2.2);(case side2=>exact (Kd.S_reads' HO83.out).2.1);rintro e w27 ⟨v916,rfl,ho0,hb⟩;refine ⟨_,rfl,?_⟩;have HO84:=zA (Kd.R_lower ho0 (below_size zB));replace HO68:=zA (Kd.S_elder' (zS HO68) (Kd.R_base ho0) hb);replace HO69:=zA (Kd.R_below (zR HO69) hb);replace HO78:=zA (Kd.R_below (zR HO78) hb);replace HO83:=zA (Kd.S_elder' (zS HO83) (Kd.R_base ho0) hb);replace HB:=zu hb;clear hb;(try clear ho0))|((with_reducible refine gate_callee (f:=24) rfl ?_);refine zgo 42 Tryz.func24 #[.slice A0 l0.length c0] ?_;(with_reducible refine (ancepsref41_Free.calls k _ _ l0 t60 t98 _ (zD HR0 HB) HC0.out A14.out).mono ?_);rintro e w28 ⟨v920,rfl,ho0,hb⟩;refine ⟨_,rfl,?_⟩;have HO99:=zA (Kd.R_lower (Kd.R_new' ho0 (Kd.R_lt (zR HO84))) (below_size zB));replace HO68:=zA (Kd.S_elder' (zS HO68) (Kd.R_base ho0) hb);replace HO69:=zA (Kd.R_below (zR HO69) hb);replace HO78:=zA (Kd.R_below (zR HO78) hb);replace HO83:=zA (Kd.S_elder' (zS HO83) (Kd.R_base ho0) hb);replace HO84:=zA (Kd.R_elder' (zR HO84) (Kd.R_base ho0) hb);replace HB:=zu hb;clear hb;(try clear ho0);obtain ⟨Ao29,co29,eo29⟩:=Kd.R_slice HO69.out;subst eo29;obtain ⟨Ao30,co30,eo30⟩:=Kd.R_slice HO78.out;subst eo30)|(go_at_call 25;(with_reducible refine (api_Link_25.calls k _ _ t55 _ _ t62 true _ ?side1 ?side2 ?side3 ?side4 A17.out).mono ?_);(case side1=>exact zC (Kd.R_reads' HO69.out).2.2);(case side2=>exact (Kd.R_reads' HO69.out).2.1);(case side3=>exact zC (Kd.R_reads' HO78.out).2.2);(case side4=>exact (Kd.R_reads' HO78.out).2.1);rintro e w' ⟨rfl,⟨nd,rfl⟩⟩;obtain ⟨Ao31,co31,eo31⟩:=Kd.R_slice HO84.out;subst eo31;obtain ⟨Ao32,co32,eo32⟩:=Kd.R_slice HO99.out;subst eo32)|(go_at_call 26;(with_reducible refine (slices_Equal_int_int.calls k _ _ t54 _ _ t60 t70 _ ?side1 ?side2 ?side3 ?side4 A19.out).mono ?_);(case side1=>exact zC (Kd.R_reads' HO84.out).2.2);(case side2=>exact (Kd.R_reads' HO84.out).2.1);(case side3=>exact zC (Kd.R_reads' HO99.out).2.2);(case side4=>exact (Kd.R_reads' HO99.out).2.1);rintro e w' ⟨rfl,⟨nd,rfl⟩⟩))
    (try simp only [Act.put,zi,zs,zt]);have H:=HC20.out;clear HC20
    by_cases c33:t70=true
    ·subst c33
     have H1:(ancepslaw41_SharedLinked.l0 k l0 t55 t54 (t54.length:Int) 0)=some r:=by rw [if_pos rfl] at H;exact H
     clear H;have H:=H1;clear H1;have H':=zA H;clear H
     go_wp2
     go_loopg [67] k (fun kq v67 w'=>∃ (x67_1:Int),v67=.int .i64 x67_1∧Aside0 (ancepslaw41_SharedLinked.l0 kq l0 t55 t54 (t54.length:Int) x67_1=some r)∧Aside0 (kq≤k)∧Aside0 (Kd.R k53 53 w' w.heap.size (fun _=>True) (.slice Ao29 t55.length co29) t55)∧Aside0 (Kd.R (Kd.int .i64) 3 w' w.heap.size (fun _=>True) (.slice Ao31 t54.length co31) t54)∧Aside0 (Below w.heap.size w w'))
     case atStart=>exact ⟨(0),zT,H',⟨Nat.le_refl _⟩,⟨by refine zr ?_;exact Kd.R_mono HO69.out (fun _ hk=>trivial)⟩,⟨by refine zr ?_;exact Kd.R_mono HO84.out (fun _ hk=>trivial)⟩,⟨zv0 HB⟩⟩
     case round=>
      clear H'
      try clear c3
      try clear c8
      try clear c15
      try clear c15b0
      try clear c15b1
      try clear c16
      try clear c16b0
      try clear c16b1
      try clear c18
      try clear c33
      obtain ⟨x67_1,rfl,HA,HK1,HO_3,HO_65,HB⟩:=hrel
      cases gk with
      | zero=>exact absurd HA.out (by simp [ancepslaw41_SharedLinked.l0])
      | succ k1=>
       have H:=HA.out;clear HA;simp only [ancepslaw41_SharedLinked.l0] at H
       rcases ifd H with ⟨c34b0,H⟩|⟨c34b0,H⟩
       ·(first|rw [c34b0]|(simp only [i64_w,i32_w];rw [c34b0])|skip)
        obtain ⟨c35b0,H⟩:=ifd1 H;obtain ⟨c36b0,H⟩:=ifd1 H;obtain ⟨t87,t927,A37,H⟩:=zO H
        dsimp only at H
        obtain ⟨c38,H⟩:=if1 H;have c38b0:(t927 == 0)=true:=beq_iff_eq.mpr c38;have c38b1:(t927 != 0)=false:=bne_eq_false_iff_eq.mpr c38;clear c38;have HC39:=zA H;clear H;obtain ⟨p79,q79,ad79,e79,hx79_0⟩:=zp (Kd.at_int (Kd.R_reads' HO_65.out).2.2 x67_1)
        cases e79
        replace p79:=eq_true p79;replace q79:=eq_true q79
        go_upto_if 82 with (first|((with_reducible refine gd 12 rfl ?_);refine zx #[.int .i64 0] 3 ?_;intro gb57 hg w40 BK57 hb GW57 HB1;have GE57:=GW57;replace HO_3:=zA (Kd.R_below (zR HO_3) hb);replace HO_65:=zA (Kd.R_below (Kd.R_elderB (zR HO_65) gb57 (Nat.le_of_eq hg.symm)) hb);clear HB hb hg;have HB:=HB1;clear HB1;have hcz41_0:=zc0 BK57;have hfz41_0:=zf BK57 0)|((with_reducible refine gate_callee (f:=27) rfl ?_);refine zgo 74 Tryz.func27 #[.slice A0 l0.length c0,.int .i64 (rd t54 x67_1)] ?_;(with_reducible refine (shared_Value.calls k1 _ _ l0 (rd t54 x67_1) t87 t927 _ ?side1 HC0.out A37.out).mono ?_);(case side1=>exact Kd.C_below HR0.out zB);rintro e w42 ⟨rfl,hb⟩;refine ⟨_,rfl,?_⟩;replace HO_3:=zA (Kd.R_below (by refine zr ?_;exact (Kd.R_mono (Kd.R_far (p:=⟨gb57,0,none⟩) (Kd.R_types HO_3.out BK57.out (by decide)) (fun _ hk=>hk.2) (.int .i64 (rd t54 x67_1))) (fun _ h_=>h_.1))) hb);replace HO_65:=zA (Kd.R_below (by refine zr ?_;exact (Kd.R_mono (Kd.R_far (p:=⟨gb57,0,none⟩) (Kd.R_mono HO_65.out (fun k_ hk=>(⟨hk,hk.2⟩:_∧k_≠gb57))) (fun _ hk=>hk.2) (.int .i64 (rd t54 x67_1))) (fun _ h_=>h_.1))) hb);replace BK57:=zA (blk_below (g:=gb57) (o:=.cells #[.int .i64 (rd t54 x67_1)] 3 (0,0)) (by refine zj ?_;refine blk_put (cs:=#[.int .i64 0]) ?_ 0 _ rfl;refine zj ?_;exact BK57.out) hb);replace HB:=zu hb;clear hb))
        (try simp only [Act.put,zi,zs,zt]);have H:=HC39.out;clear HC39;obtain ⟨c43,H⟩:=if1 H;have c43b0:(t87 == 3)=true:=beq_iff_eq.mpr c43;have c43b1:(t87 != 3)=false:=bne_eq_false_iff_eq.mpr c43;clear c43
        (first|rw [c43b0]|(simp only [i64_w,i32_w];rw [c43b0])|skip)
        (try rw [c43b1]);obtain ⟨t93,A44,H⟩:=zo H;have HC45:=zA H;clear H
        go_upto_if 85 with (first|((with_reducible refine gate_callee (f:=28) rfl ?_);refine zgo 85 Tryz.func28 #[.slice Ao29 t55.length co29,.func (.func 29) #[] #[.pointer (some ⟨gb57,0,none⟩)]] ?_;(with_reducible refine (api_Link_ancepslaw41_SharedLinked_1.calls k1 _ _ t55 gb57 (rd t54 x67_1) t93 _ ?side1 ?side2 ?side3 A44.out).mono ?_);(case side1=>exact zC (Kd.R_reads' HO_3.out).2.2);(case side2=>exact (Kd.R_reads' HO_3.out).2.1);(case side3=>refine zj ?_;exact BK57.out);rintro e w46 ⟨rfl,hb⟩;refine ⟨_,rfl,?_⟩;replace HO_3:=zA (Kd.R_below (zR HO_3) hb);replace HO_65:=zA (Kd.R_below (zR HO_65) hb);replace BK57:=zw BK57 hb;replace HB:=zu hb;clear hb))
        (try simp only [Act.put,zi,zs,zt]);have H:=HC45.out;clear HC45
        by_cases c47:t93=true
        ·subst c47
         have H1:(none)=some r:=by rw [if_pos rfl] at H;exact H
         clear H;have H:=H1;clear H1;exact absurd H (by simp)
        ·replace c47:=Bool.eq_false_iff.mpr c47;subst c47
         have H1:(ancepslaw41_SharedLinked.l0 k1 l0 t55 t54 (t54.length:Int) (wrap64 (x67_1+1)))=some r:=by rw [if_neg (show ¬ (false=true) by decide)] at H;exact H
         clear H;have H:=H1;clear H1;have H':=zA H;clear H
         go_wp2
         go_roundg k1
         case measure=>have:=HK1.out;omega
         case rel=>exact ⟨(wrap64 (x67_1+1)),zT,H',⟨by have:=HK1.out;omega⟩,⟨by refine zr ?_;exact HO_3.out⟩,⟨by refine zr ?_;exact Kd.R_mono HO_65.out (fun _ hk=>trivial)⟩,⟨zv1 HB GE57⟩⟩
       ·(first|rw [c34b0]|(simp only [i64_w,i32_w];rw [c34b0])|skip)
        obtain rfl:=Option.some.inj H
        go_wp2
        go_ret
        exact ⟨ze,zv0 HB⟩
    ·replace c33:=Bool.eq_false_iff.mpr c33;subst c33
     have H1:(none)=some r:=by rw [if_neg (show ¬ (false=true) by decide)] at H;exact H
     clear H;have H:=H1;clear H1;exact absurd H (by simp)
   ·replace c18:=Bool.eq_false_iff.mpr c18;subst c18
    have H1:(none)=some r:=by rw [if_neg (show ¬ (false=true) by decide)] at H;exact H
    clear H;have H:=H1;clear H1;exact absurd H (by simp)
  ·replace c8:=Bool.eq_false_iff.mpr c8;subst c8
   have H1:((ancepslaw41_awake.f k).bind fun t77=>(some t77))=some r:=by rw [if_neg (show ¬ (false=true) by decide)] at H;exact H
   clear H;have H:=H1;clear H1;obtain ⟨t77,A48,H⟩:=zo H;obtain rfl:=Option.some.inj H
   go_wp2_with (first|((with_reducible refine gate_callee (f:=7) rfl ?_);refine zgo 22 Tryz.func7 #[] ?_;(with_reducible refine (ancepslaw41_awake.calls k  t77 _ A48.out).mono ?_);rintro e w49 ⟨rfl,hb⟩;refine ⟨_,rfl,?_⟩;replace HB:=zu hb;clear hb))
   go_ret
   exact ⟨ze,zv0 HB⟩
 ·replace c3:=Bool.eq_false_iff.mpr c3;subst c3
  have H1:((ancepslaw41_awake.f k).bind fun t82=>(some t82))=some r:=by rw [if_neg (show ¬ (false=true) by decide)] at H;exact H
  clear H;have H:=H1;clear H1;obtain ⟨t82,A50,H⟩:=zo H;obtain rfl:=Option.some.inj H
  go_enter Tryz.func6,Tryz.ntmps6
  go_wp2_with (first|((with_reducible refine gate_callee (f:=7) rfl ?_);refine zgo 15 Tryz.func7 #[] ?_;(with_reducible refine (ancepslaw41_awake.calls k  false _ A2.out).mono ?_);rintro e w51 ⟨rfl,hb⟩;refine ⟨_,rfl,?_⟩;replace HB:=zu hb;clear hb)|((with_reducible refine gate_callee (f:=7) rfl ?_);refine zgo 22 Tryz.func7 #[] ?_;(with_reducible refine (ancepslaw41_awake.calls k  t82 _ A50.out).mono ?_);rintro e w52 ⟨rfl,hb⟩;refine ⟨_,rfl,?_⟩;replace HB:=zu hb;clear hb))
  go_ret
  exact ⟨ze,zv0 HB⟩
end Go.Proofs.YtngpkbbljnbojaaGreat.L
