import Derived.Test.YtngpkbbljnbojaaGreatA0
import Derived.Test.YtngpkbbljnbojaaGreatA12
import Derived.Test.YtngpkbbljnbojaaGreatA13
namespace Go.Proofs.YtngpkbbljnbojaaGreat.A
open Go.RowKit Go.Proofs.YtngpkbbljnbojaaGreatW.PrintWords Go.Proofs.YtngpkbbljnbojaaGreatW.PrintLast Go.Proofs.YtngpkbbljnbojaaGreatW.PrintMore
attribute [local go_sem] max2_int min2_int max_two min_two max_three min_three max_four min_four Tryz.underlying124 Tryz.underlying3 Tryz.underlying43 Tryz.underlying63
set_option linter.unusedVariables false
set_option linter.unusedSimpArgs false
def ancepsref41_given.f (k:Nat) (l0:List (S63)):Option (Int):=(ancepsref40_Valid.f k l0).bind fun t58=>(if t58=0 then (if (l0.length:Int)>15 then (some 3) else (some 0)) else (some t58))
set_option maxHeartbeats 8000000 in
set_option maxRecDepth 100000 in
theorem ancepsref41_given.calls (k:Nat) (A0:Option Addr) (c0:Nat) (l0:List (S63)) (r:Int) (w:World) (hr0:Kd.C k63 w A0 l0.length l0) (hc0:l0.length≤c0) (h:ancepsref41_given.f k l0=some r) :
  Calls Tryz.prog 39 #[.slice A0 l0.length c0] w fun e w'=>e=.returned (.int .i64 r)∧Below w.heap.size w w':=by
 have HR0:=zA hr0;have HC0:=zA hc0;clear hr0 hc0;have HB:=zA (Below.refl w.heap.size w);have H:((ancepsref40_Valid.f k l0).bind fun t58=>(if t58=0 then (if (l0.length:Int)>15 then (some 3) else (some 0)) else (some t58)))=some r:=h;clear h;obtain ⟨t58,A2,H⟩:=zo H;have HC3:=zA H;clear H
 go_enter Tryz.func39,Tryz.ntmps39
 go_upto_if 7 with (first|((with_reducible refine gate_callee (f:=33) rfl ?_);refine zgo 5 Tryz.func33 #[.slice A0 l0.length c0] ?_;(with_reducible refine (ancepsref40_Valid.calls k _ _ l0 t58 _ ?side1 HC0.out A2.out).mono ?_);(case side1=>repeat (first|exact HR0.out|(with_reducible refine Kd.C_alloc ?_ _)|(with_reducible refine Kd.C_drewN ?_ _)|(with_reducible refine Kd.C_drew ?_)));rintro e w4 ⟨rfl,hb⟩;refine ⟨_,rfl,?_⟩;replace HB:=zu hb;clear hb))
 (try simp only [Act.put,zi,zs,zt]);have H:=HC3.out;clear HC3
 rcases ife H with ⟨c5b0,c5b1,H⟩|⟨c5,c5b0,c5b1,H⟩
 ·(first|rw [c5b0]|(simp only [i64_w,i32_w];rw [c5b0])|skip)
  (try rw [c5b1])
  rcases if0 H with ⟨c6,H⟩|⟨c6,H⟩
  ·have c6b0:decide (15<(l0.length:Int))=true:=decide_eq_true c6;have c6b1:decide (15<l0.length)=true:=decide_eq_true (by omega);clear c6;obtain rfl:=Option.some.inj H
   go_wp2
   go_ret
   exact ⟨ze,zv0 HB⟩
  ·have c6b0:decide (15<(l0.length:Int))=false:=decide_eq_false c6;have c6b1:decide (15<l0.length)=false:=decide_eq_false (by omega);clear c6;obtain rfl:=Option.some.inj H
   go_wp2
   go_ret
   exact ⟨ze,zv0 HB⟩
 ·(first|rw [c5b0]|(simp only [i64_w,i32_w];rw [c5b0])|skip)
  (try rw [c5b1]);obtain rfl:=Option.some.inj H
  go_wp2
  go_ret
  exact ⟨ze,zv0 HB⟩
def ancepsref40_First.f (k:Nat) (l0:List (S63)):Option (Int×Int):=(ancepsref40_Valid.f k l0).bind fun t59=>(if t59=0 then ((ancepsref40_solutions.f k l0 1).bind fun t52=>(if (t52.length:Int)=0 then (some (0,10)) else (if 0<(t52.length:Int) then (some (rd t52 0,0)) else (none)))) else (some (0,t59)))
set_option maxHeartbeats 8000000 in
set_option maxRecDepth 100000 in
theorem ancepsref40_First.calls (k:Nat) (A0:Option Addr) (c0:Nat) (l0:List (S63)) (r1:Int) (r2:Int) (w:World) (hr0:Kd.C k63 w A0 l0.length l0) (hc0:l0.length≤c0) (h:ancepsref40_First.f k l0=some (r1,r2)) :
  Calls Tryz.prog 73 #[.slice A0 l0.length c0] w fun e w'=>e=.returned (.tuple #[.int .i64 r1,.int .i64 r2])∧Below w.heap.size w w':=by
 have HR0:=zA hr0;have HC0:=zA hc0;clear hr0 hc0;have HB:=zA (Below.refl w.heap.size w);have H:((ancepsref40_Valid.f k l0).bind fun t59=>(if t59=0 then ((ancepsref40_solutions.f k l0 1).bind fun t52=>(if (t52.length:Int)=0 then (some (0,10)) else (if 0<(t52.length:Int) then (some (rd t52 0,0)) else (none)))) else (some (0,t59))))=some (r1,r2):=h;clear h;obtain ⟨t59,A2,H⟩:=zo H;have HC3:=zA H;clear H
 go_enter Tryz.func73,Tryz.ntmps73
 go_upto_if 9 with (first|((with_reducible refine gate_callee (f:=33) rfl ?_);refine zgo 7 Tryz.func33 #[.slice A0 l0.length c0] ?_;(with_reducible refine (ancepsref40_Valid.calls k _ _ l0 t59 _ ?side1 HC0.out A2.out).mono ?_);(case side1=>repeat (first|exact HR0.out|(with_reducible refine Kd.C_alloc ?_ _)|(with_reducible refine Kd.C_drewN ?_ _)|(with_reducible refine Kd.C_drew ?_)));rintro e w4 ⟨rfl,hb⟩;refine ⟨_,rfl,?_⟩;replace HB:=zu hb;clear hb))
 (try simp only [Act.put,zi,zs,zt]);have H:=HC3.out;clear HC3
 rcases ife H with ⟨c5b0,c5b1,H⟩|⟨c5,c5b0,c5b1,H⟩
 ·(first|rw [c5b0]|(simp only [i64_w,i32_w];rw [c5b0])|skip)
  (try rw [c5b1]);obtain ⟨t52,A6,H⟩:=zo H;have HC7:=zA H;clear H
  go_upto_if 15 with (first|((with_reducible refine gate_callee (f:=54) rfl ?_);refine zgo 12 Tryz.func54 #[.slice A0 l0.length c0,.int .i64 1] ?_;(with_reducible refine (ancepsref40_solutions.calls k _ _ l0 1 t52 _ (zD HR0 HB) HC0.out A6.out).mono ?_);rintro e w8 ⟨v80,rfl,ho0,hb⟩;refine ⟨_,rfl,?_⟩;have HO71:=zA (Kd.R_lower ho0 (below_size zB));replace HB:=zu hb;clear hb;(try clear ho0);obtain ⟨Ao9,co9,eo9⟩:=Kd.R_slice HO71.out;subst eo9))
  (try simp only [Act.put,zi,zs,zt]);have H:=HC7.out;clear HC7
  rcases ife H with ⟨c10b0,c10b1,H⟩|⟨c10,c10b0,c10b1,H⟩
  ·(first|rw [c10b0]|(simp only [i64_w,i32_w];rw [c10b0])|skip)
   (try rw [c10b1]);simp only [Option.some.injEq,Prod.mk.injEq] at H;obtain ⟨rfl,rfl⟩:=H
   go_wp2
   go_ret2
   exact ⟨ze,zv0 HB⟩
  ·have c10b2:¬ (t52=[]):=fun h_=>c10 (by rw [h_];rfl)
   (first|rw [c10b0]|(simp only [i64_w,i32_w];rw [c10b0])|skip)
   (try rw [c10b1]);(try rw [c10b2]);obtain ⟨c11,H⟩:=if1 H;have c11b0:decide (0<(t52.length:Int))=true:=decide_eq_true c11;have c11b1:decide (0<t52.length)=true:=decide_eq_true (by omega);clear c11;simp only [Option.some.injEq,Prod.mk.injEq] at H;obtain ⟨rfl,rfl⟩:=H
   have p53:0≤(0:Int):=(by omega)
   have q53:0<(t52.length:Int):=of_decide_eq_true zh;obtain ⟨ad53,e53,hx53_0⟩:=Kd.at_int (Kd.R_reads' HO71.out).2.2 0 p53 q53
   cases e53
   have qi53:(0<t52.length)=True:=eq_true (by omega);(try rw [show ((0:Int)).toNat=0 from rfl] at hx53_0);(try rw [Addr.add_zero'] at hx53_0);replace p53:=eq_true p53;replace q53:=eq_true q53
   go_wp2
   go_ret2
   exact ⟨ze,zv0 HB⟩
 ·(first|rw [c5b0]|(simp only [i64_w,i32_w];rw [c5b0])|skip)
  (try rw [c5b1]);simp only [Option.some.injEq,Prod.mk.injEq] at H;obtain ⟨rfl,rfl⟩:=H
  go_wp2
  go_ret2
  exact ⟨ze,zv0 HB⟩
def ancepsref41_solvable.f (k:Nat) (l0:List (S63)):Option (Bool):=(ancepsref40_First.f k l0).bind fun bt67=>(some (bt67.2 == 0))
set_option maxHeartbeats 8000000 in
set_option maxRecDepth 100000 in
theorem ancepsref41_solvable.calls (k:Nat) (A0:Option Addr) (c0:Nat) (l0:List (S63)) (r:Bool) (w:World) (hr0:Kd.C k63 w A0 l0.length l0) (hc0:l0.length≤c0) (h:ancepsref41_solvable.f k l0=some r) :
  Calls Tryz.prog 40 #[.slice A0 l0.length c0] w fun e w'=>e=.returned (.bool r)∧Below w.heap.size w w':=by
 have HR0:=zA hr0;have HC0:=zA hc0;clear hr0 hc0;have HB:=zA (Below.refl w.heap.size w);have H:((ancepsref40_First.f k l0).bind fun bt67=>(some (bt67.2 == 0)))=some r:=h;clear h;obtain ⟨t67,t76,A2,H⟩:=zO H
 dsimp only at H
 obtain rfl:=Option.some.inj H
 go_enter Tryz.func40,Tryz.ntmps40
 go_wp2_with (first|((with_reducible refine gate_callee (f:=73) rfl ?_);refine zgo 7 Tryz.func73 #[.slice A0 l0.length c0] ?_;(with_reducible refine (ancepsref40_First.calls k _ _ l0 t67 t76 _ ?side1 HC0.out A2.out).mono ?_);(case side1=>repeat (first|exact HR0.out|(with_reducible refine Kd.C_alloc ?_ _)|(with_reducible refine Kd.C_drewN ?_ _)|(with_reducible refine Kd.C_drew ?_)));rintro e w3 ⟨rfl,hb⟩;refine ⟨_,rfl,?_⟩;replace HB:=zu hb;clear hb))
 go_ret
 exact ⟨ze,zv0 HB⟩
def ancepsref40_Given.f (k:Nat) (l0:List (S63)) (a1:Int) (a2:Int):Option ((List (S63))×Int):=(ancepsref40_Valid.f k l0).bind fun t60=>(if t60=0 then (if a1<0 then (some (([]:List (S63)),6)) else (if a1>23 then (some (([]:List (S63)),6)) else (if a2<0 then (some (([]:List (S63)),6)) else (if a2>1 then (some (([]:List (S63)),6)) else (if (l0.length:Int)=16 then (some (([]:List (S63)),3)) else ((some (([]:List (S63)):List (S63))).bind fun y44=>(if y44.length+l0.length<2932031007402 then ((some (y44++l0:List (S63))).bind fun y45=>(if y45.length<2932031007402 then (some ((y45++[(⟨(([a1]:List Int)),(([a2]:List Int))⟩:S63)]),0)) else (none))) else (none)))))))) else (some (([]:List (S63)),t60)))
set_option maxHeartbeats 8000000 in
set_option maxRecDepth 100000 in
theorem ancepsref40_Given.calls (k:Nat) (P0_:Nat→Prop) (A0:Option Addr) (c0:Nat) (l0:List (S63)) (a1:Int) (a2:Int) (r1:List (S63)) (r2:Int) (w:World) (hs0:Kd.V k63 63 w w.heap.size (fun k_=>P0_ k_) (.slice A0 l0.length c0) l0) (h:ancepsref40_Given.f k l0 a1 a2=some (r1,r2)) :
  Calls Tryz.prog 75 #[.slice A0 l0.length c0,.int .i64 a1,.int .i64 a2] w fun e w'=>∃ v0_:Value,e=.returned (.tuple #[v0_,.int .i64 r2])∧Kd.N k63 63 w' w.heap.size (fun k_=>(P0_ k_∨w.heap.size≤k_)) v0_ r1∧Below w.heap.size w w':=by
 have HO0:=zA (show Kd.V k63 63 w w.heap.size (fun k_=>(P0_ k_∨w.heap.size≤k_)) (.slice A0 l0.length c0) l0 from Kd.V_mono hs0 (fun k_ hk=>.inl hk));have HB:=zA (Below.refl w.heap.size w);have H:((ancepsref40_Valid.f k l0).bind fun t60=>(if t60=0 then (if a1<0 then (some (([]:List (S63)),6)) else (if a1>23 then (some (([]:List (S63)),6)) else (if a2<0 then (some (([]:List (S63)),6)) else (if a2>1 then (some (([]:List (S63)),6)) else (if (l0.length:Int)=16 then (some (([]:List (S63)),3)) else ((some (([]:List (S63)):List (S63))).bind fun y44=>(if y44.length+l0.length<2932031007402 then ((some (y44++l0:List (S63))).bind fun y45=>(if y45.length<2932031007402 then (some ((y45++[(⟨(([a1]:List Int)),(([a2]:List Int))⟩:S63)]),0)) else (none))) else (none)))))))) else (some (([]:List (S63)),t60))))=some (r1,r2):=h;clear h;obtain ⟨t60,A4,H⟩:=zo H;have HC5:=zA H;clear H
 go_enter Tryz.func75,Tryz.ntmps75
 go_upto_if 12 with (first|((with_reducible refine gate_callee (f:=33) rfl ?_);refine zgo 10 Tryz.func33 #[.slice A0 l0.length c0] ?_;(with_reducible refine (ancepsref40_Valid.calls k _ _ l0 t60 _ ?side1 ?side2 A4.out).mono ?_);(case side1=>exact zC (Kd.V_reads' HO0.out).2.2);(case side2=>exact (Kd.V_reads' HO0.out).2.1);rintro e w6 ⟨rfl,hb⟩;refine ⟨_,rfl,?_⟩;replace HO0:=zA (Kd.V_below (zV HO0) hb);replace HB:=zu hb;clear hb))
 (try simp only [Act.put,zi,zs,zt]);have H:=HC5.out;clear HC5
 rcases ife H with ⟨c7b0,c7b1,H⟩|⟨c7,c7b0,c7b1,H⟩
 ·(first|rw [c7b0]|(simp only [i64_w,i32_w];rw [c7b0])|skip)
  (try rw [c7b1])
  rcases ifd H with ⟨c8b0,H⟩|⟨c8b0,H⟩
  ·simp only [Option.some.injEq,Prod.mk.injEq] at H;obtain ⟨rfl,rfl⟩:=H
   go_wp2
   go_ret2
   exact ⟨_,ze,by first|exact Kd.S_nil _ _ _ _ _|exact Kd.N_nil _ _ _ _ _|exact Kd.V_nil _ _ _ _ _|exact Kd.Q_nil _ _ _ _ _|exact Kd.R_nil _ _ _ _ _,zv0 HB⟩
  ·rcases if0 H with ⟨c9,H⟩|⟨c9,H⟩
   ·have c9b0:decide (23<a1)=true:=decide_eq_true c9;clear c9;simp only [Option.some.injEq,Prod.mk.injEq] at H;obtain ⟨rfl,rfl⟩:=H
    go_wp2
    go_ret2
    exact ⟨_,ze,by first|exact Kd.S_nil _ _ _ _ _|exact Kd.N_nil _ _ _ _ _|exact Kd.V_nil _ _ _ _ _|exact Kd.Q_nil _ _ _ _ _|exact Kd.R_nil _ _ _ _ _,zv0 HB⟩
   ·have c9b0:decide (23<a1)=false:=decide_eq_false c9;clear c9
    rcases ifd H with ⟨c10b0,H⟩|⟨c10b0,H⟩
    ·simp only [Option.some.injEq,Prod.mk.injEq] at H;obtain ⟨rfl,rfl⟩:=H
     go_wp2
     go_ret2
     exact ⟨_,ze,by first|exact Kd.S_nil _ _ _ _ _|exact Kd.N_nil _ _ _ _ _|exact Kd.V_nil _ _ _ _ _|exact Kd.Q_nil _ _ _ _ _|exact Kd.R_nil _ _ _ _ _,zv0 HB⟩
    ·rcases if0 H with ⟨c11,H⟩|⟨c11,H⟩
     ·have c11b0:decide (1<a2)=true:=decide_eq_true c11;clear c11;simp only [Option.some.injEq,Prod.mk.injEq] at H;obtain ⟨rfl,rfl⟩:=H
      go_wp2
      go_ret2
      exact ⟨_,ze,by first|exact Kd.S_nil _ _ _ _ _|exact Kd.N_nil _ _ _ _ _|exact Kd.V_nil _ _ _ _ _|exact Kd.Q_nil _ _ _ _ _|exact Kd.R_nil _ _ _ _ _,zv0 HB⟩
     ·have c11b0:decide (1<a2)=false:=decide_eq_false c11;clear c11
      rcases ife H with ⟨c12b0,c12b1,H⟩|⟨c12,c12b0,c12b1,H⟩
      ·simp only [Option.some.injEq,Prod.mk.injEq] at H;obtain ⟨rfl,rfl⟩:=H
       go_wp2
       go_ret2
       exact ⟨_,ze,by first|exact Kd.S_nil _ _ _ _ _|exact Kd.N_nil _ _ _ _ _|exact Kd.V_nil _ _ _ _ _|exact Kd.Q_nil _ _ _ _ _|exact Kd.R_nil _ _ _ _ _,zv0 HB⟩
      ·first|(replace H:=zyb (([]:List (S63))) H;obtain ⟨y44,Ny44,H⟩:=H)|(obtain ⟨y44,hy44⟩:=zY (([]:List (S63)));(try rw (occs:=.pos [1]) [← hy44] at H);have Ny44:=zA hy44;clear hy44)
       obtain ⟨c13,H⟩:=if1 H;have LMc13:=zA c13;clear c13
       first|(replace H:=zyb (y44++l0) H;obtain ⟨y45,Ny45,H⟩:=H)|(obtain ⟨y45,hy45⟩:=zY (y44++l0);(try rw (occs:=.pos [1]) [← hy45] at H);have Ny45:=zA hy45;clear hy45)
       first|(replace H:=zyb (([a1]:List Int)) H;obtain ⟨y47,Ny47,H⟩:=H)|(obtain ⟨y47,hy47⟩:=zY (([a1]:List Int));(try rw (occs:=.pos [1]) [← hy47] at H);have Ny47:=zA hy47;clear hy47)
       first|(replace H:=zyb (([a2]:List Int)) H;obtain ⟨y48,Ny48,H⟩:=H)|(obtain ⟨y48,hy48⟩:=zY (([a2]:List Int));(try rw (occs:=.pos [1]) [← hy48] at H);have Ny48:=zA hy48;clear hy48)
       obtain ⟨c14,H⟩:=if1 H;have LMc14:=zA c14;clear c14
       first|(replace H:=zyb (y45++[(⟨y47,y48⟩:S63)]) H;obtain ⟨y57,Ny57,H⟩:=H)|(obtain ⟨y57,hy57⟩:=zY (y45++[(⟨y47,y48⟩:S63)]);(try rw (occs:=.pos [1]) [← hy57] at H);have Ny57:=zA hy57;clear hy57)
       simp only [Option.some.injEq,Prod.mk.injEq] at H;obtain ⟨rfl,rfl⟩:=H
       go_wp2_with (first|((with_reducible refine gate_dst (N:=31) rfl ?_);refine Kd.N_lit k63 _ 63 ?hg (N':=31) ?hd (xs:=([]:List (S63))) (inner:=[]) (ok:=(fun k_=>(P0_ k_∨w.heap.size≤k_))) (okp:=(fun k_=>(P0_ k_∨w.heap.size≤k_))) ?hr ?hp (fun _ hk=>hk) ((show ∀ k_,w6.heap.size≤k_→(fun k_=>(P0_ k_∨w.heap.size≤k_)) k_ from fun k_ hk=>(.inr (Nat.le_trans (below_size zB) hk))) _ (Nat.le_refl _)) (Below.refl _ _) (Nat.le_refl _) (by simp) ?_;(case hd=>rfl);(case hg=>rfl);(case hr=>first|(go_simp;done)|(go_simp;rfl));(case hp=>exact (Reps.none _ _));intro v70 w15 ho16 hb hg_ hnew_;clear hg_ hnew_;(first|rw [← Ny44.out] at ho16|(simp only [Int.reduceToNat] at ho16;rw [← Ny44.out] at ho16));have HO72:=zA (Kd.N_lower ho16 (below_size zB));replace HO0:=zA (Kd.V_elder' (zV HO0) (Kd.N_base ho16) hb);replace HB:=zu hb;clear hb ho16)|((with_reducible refine gate_builtin (b:=.append) (xs:=#[.tmp 31,.tmp 32]) rfl ?_);at_builtin;refine Kd.N_append_rows k63 (w0:=w) w.heap.size rfl (.tmp 31) (.tmp 32) 22 63 (.agg #[(.slice none 0 0),(.slice none 0 0)]) 48 rfl Tryz.underlying22 info63 rfl (by decide) (by omega) v70 y44 l0 _ _ _ (fun k_=>(P0_ k_∨w.heap.size≤k_)) (fun k_=>((fun k_=>(P0_ k_∨w.heap.size≤k_))) k_∧some k_≠(v70:Value).ownBlock) rfl rfl ?aO ?aR (fun _ hk=>hk) ?aF ?aB ?aS ?aL ?_;(case aR=>exact (by skip;exact Kd.V_F (Kd.V_mono (ok':=(fun k_=>((fun k_=>(P0_ k_∨w.heap.size≤k_))) k_∧some k_≠(v70:Value).ownBlock)) (HO0.out) (fun k_ hk=>⟨hk.1,hk.2⟩))));(case aB=>exact zB);(case aF=>exact (fun k_ hk=>(.inr (Nat.le_trans (below_size zB) hk))));(case aO=>exact (zN HO72));(case aS=>exact (below_size zB));(case aL=>have:=LMc13.out;omega);intro v66 w17 ho hb hg hat;rw [← Ny45.out] at ho;have HO56:=zA (ho);replace HO0:=zA (Kd.V_afterv (ok:=(fun k_=>(P0_ k_∨w.heap.size≤k_))) (zV HO0) hg hat);replace HB:=zA (hb);clear HO72;clear ho hb hg hat)|((with_reducible refine gate_dst (N:=35) rfl ?_);refine Kd.R_lit (Kd.int .i64) _ 3 ?hg (N:=35) ?hd (xs:=([a1]:List Int)) (inner:=[.int .i64 a1]) (ok:=fun _=>True) (okp:=fun _=>True) ?hr ?hp (fun _ hk=>hk) trivial (Below.refl _ _) (Nat.le_refl _) (by simp) ?_;(case hd=>rfl);(case hg=>rfl);(case hr=>first|(go_simp;done)|(go_simp;rfl));(case hp=>exact (Reps.one (show Kd.M (Kd.int .i64) _ _ _ a1 [.int .i64 a1] from rfl) (Reps.none _ _)));intro v81 w18 ho19 hb hg_ hnew_;clear hg_ hnew_;(first|rw [← Ny47.out] at ho19|(simp only [Int.reduceToNat] at ho19;rw [← Ny47.out] at ho19));have HO61:=zA (Kd.R_lower (Kd.R_newM (M:=fun k_=>(w.heap.size≤k_)) ho19 (below_size zB) (fun k_ h_=>h_)) (below_size zB));replace HO0:=zA (Kd.V_elder' (zV HO0) (Kd.R_base ho19) hb);replace HO56:=zA (Kd.N_elder' (zN HO56) (Kd.R_base ho19) hb);replace HB:=zu hb;clear hb ho19)|((with_reducible refine gate_dst (N:=37) rfl ?_);refine Kd.R_lit (Kd.int .i64) _ 3 ?hg (N:=37) ?hd (xs:=([a2]:List Int)) (inner:=[.int .i64 a2]) (ok:=fun _=>True) (okp:=fun _=>True) ?hr ?hp (fun _ hk=>hk) trivial (Below.refl _ _) (Nat.le_refl _) (by simp) ?_;(case hd=>rfl);(case hg=>rfl);(case hr=>first|(go_simp;done)|(go_simp;rfl));(case hp=>exact (Reps.one (show Kd.M (Kd.int .i64) _ _ _ a2 [.int .i64 a2] from rfl) (Reps.none _ _)));intro v82 w20 ho21 hb hg_ hnew_;clear hg_ hnew_;(first|rw [← Ny48.out] at ho21|(simp only [Int.reduceToNat] at ho21;rw [← Ny48.out] at ho21));have HO69:=zA (Kd.R_lower (Kd.R_new' (Kd.R_newM (M:=fun k_=>(w.heap.size≤k_)) ho21 (below_size zB) (fun k_ h_=>h_)) (Kd.R_lt (zR HO61))) (below_size zB));replace HO0:=zA (Kd.V_elder' (zV HO0) (Kd.R_base ho21) hb);replace HO56:=zA (Kd.N_elder' (zN HO56) (Kd.R_base ho21) hb);replace HO61:=zA (Kd.R_elder' (zR HO61) (Kd.R_base ho21) hb);replace HB:=zu hb;clear hb ho21;obtain ⟨Ao22,co22,eo22⟩:=Kd.R_slice HO69.out;subst eo22;obtain ⟨Ao23,co23,eo23⟩:=Kd.R_slice HO61.out;subst eo23)|((with_reducible refine gate_builtin (b:=.append) (xs:=#[.tmp 33,.tmp 39]) rfl ?_);at_builtin;refine Kd.N_append k63 (w0:=w) w.heap.size rfl (.tmp 33) (.tmp 39) 22 63 (.agg #[(.slice none 0 0),(.slice none 0 0)]) 48 rfl Tryz.underlying22 info63 rfl (by decide) (by omega) v66 y45 (⟨y47,y48⟩:S63) [.slice Ao23 y47.length co23,.slice Ao22 y48.length co22] (fun k_=>(P0_ k_∨w.heap.size≤k_)) (fun k_=>((fun k_=>(P0_ k_∨w.heap.size≤k_))) k_∧some k_≠(v66:Value).ownBlock) rfl rfl ?aP (fun _ hk=>hk) ?aF ?aO ?aB ?aS ?aL ?_;(case aP=>exact (k63_mkF _ _ (⟨y47,y48⟩:S63) (Kd.R_reads' (Kd.R_mono (ok':=(fun k_=>((fun k_=>(P0_ k_∨w.heap.size≤k_))) k_∧some k_≠(v66:Value).ownBlock)) (Kd.R_apart' (HO61.out) (Kd.N_typed HO56.out) (by decide)) (fun k_ hk=>⟨(.inr (hk.1.1.1)),hk.2⟩))).2.1 (Kd.R_F (Kd.R_mono (ok':=(fun k_=>((fun k_=>(P0_ k_∨w.heap.size≤k_))) k_∧some k_≠(v66:Value).ownBlock)) (Kd.R_apart' (HO61.out) (Kd.N_typed HO56.out) (by decide)) (fun k_ hk=>⟨(.inr (hk.1.1.1)),hk.2⟩))) (Kd.R_reads' (Kd.R_mono (ok':=(fun k_=>((fun k_=>(P0_ k_∨w.heap.size≤k_))) k_∧some k_≠(v66:Value).ownBlock)) (Kd.R_apart' (HO69.out) (Kd.N_typed HO56.out) (by decide)) (fun k_ hk=>⟨(.inr (hk.1.1.1)),hk.2⟩))).2.1 (Kd.R_F (Kd.R_mono (ok':=(fun k_=>((fun k_=>(P0_ k_∨w.heap.size≤k_))) k_∧some k_≠(v66:Value).ownBlock)) (Kd.R_apart' (HO69.out) (Kd.N_typed HO56.out) (by decide)) (fun k_ hk=>⟨(.inr (hk.1.1.1)),hk.2⟩)))));(case aB=>exact zB);(case aF=>exact (fun k_ hk=>(.inr (Nat.le_trans (below_size zB) hk))));(case aO=>exact (by (with_reducible repeat (first|apply Kd.N_alloc|apply Kd.N_drewN|apply Kd.N_drew));exact Kd.N_mono HO56.out (fun _ hk=>hk.1.1)));(case aS=>exact (below_size zB));(case aL=>have:=LMc14.out;omega);intro v83 w24 ho hb hg hat;rw [← Ny57.out] at ho;have HO77:=zA (ho);replace HO0:=zA (Kd.V_afterv (ok:=(fun k_=>(P0_ k_∨w.heap.size≤k_)∧some k_≠(.slice Ao23 y47.length co23:Value).ownBlock∧some k_≠(.slice Ao22 y48.length co22:Value).ownBlock)) (by (with_reducible repeat (first|apply Kd.V_alloc|apply Kd.V_drewN|apply Kd.V_drew));exact Kd.V_mono HO0.out (fun _ hk=>⟨⟨hk.1.1.1,⟨hk.1.2,hk.2⟩⟩,hk.1.1.2⟩)) hg hat);replace HB:=zA (hb);clear HO56 HO61 HO69;clear ho hb hg hat))
       go_ret2
       exact ⟨_,ze,by (with_reducible repeat (first|apply Kd.N_alloc|apply Kd.N_drewN|apply Kd.N_drew));exact HO77.out,zv0 HB⟩
 ·(first|rw [c7b0]|(simp only [i64_w,i32_w];rw [c7b0])|skip)
  (try rw [c7b1]);simp only [Option.some.injEq,Prod.mk.injEq] at H;obtain ⟨rfl,rfl⟩:=H
  go_wp2
  go_ret2
  exact ⟨_,ze,by first|exact Kd.S_nil _ _ _ _ _|exact Kd.N_nil _ _ _ _ _|exact Kd.V_nil _ _ _ _ _|exact Kd.Q_nil _ _ _ _ _|exact Kd.R_nil _ _ _ _ _,zv0 HB⟩
def ancepsref41_with.f (k:Nat) (l0:List (S63)) (a1:Int) (a2:Int):Option (Int×Bool):=(ancepsref40_Given.f k l0 a1 a2).bind fun bt62=>((ancepsref40_First.f k bt62.1).bind fun bt65=>(some (bt65.1,(bt65.2 == 0))))
set_option maxHeartbeats 8000000 in
set_option maxRecDepth 100000 in
theorem ancepsref41_with.calls (k:Nat) (A0:Option Addr) (c0:Nat) (l0:List (S63)) (a1:Int) (a2:Int) (r1:Int) (r2:Bool) (w:World) (hr0:Kd.C k63 w A0 l0.length l0) (hc0:l0.length≤c0) (h:ancepsref41_with.f k l0 a1 a2=some (r1,r2)) :
  Calls Tryz.prog 74 #[.slice A0 l0.length c0,.int .i64 a1,.int .i64 a2] w fun e w'=>e=.returned (.tuple #[.int .i64 r1,.bool r2])∧Below w.heap.size w w':=by
 have HR0:=zA hr0;have HC0:=zA hc0;clear hr0 hc0;have HB:=zA (Below.refl w.heap.size w);have H:((ancepsref40_Given.f k l0 a1 a2).bind fun bt62=>((ancepsref40_First.f k bt62.1).bind fun bt65=>(some (bt65.1,(bt65.2 == 0)))))=some (r1,r2):=h;clear h;obtain ⟨t62,t78,A4,H⟩:=zO H
 dsimp only at H
 obtain ⟨t65,t79,A5,H⟩:=zO H
 dsimp only at H
 simp only [Option.some.injEq,Prod.mk.injEq] at H;obtain ⟨rfl,rfl⟩:=H
 go_enter Tryz.func74,Tryz.ntmps74
 go_wp2_with (first|((with_reducible refine gate_callee (f:=75) rfl ?_);refine zgo 16 Tryz.func75 #[.slice A0 l0.length c0,.int .i64 a1,.int .i64 a2] ?_;(with_reducible refine (ancepsref40_Given.calls k (fun k_=>k_<w.heap.size) _ _ l0 a1 a2 t62 t78 _ ?side1 A4.out).mono ?_);(case side1=>exact Kd.V_mk HC0.out (Kd.F_below (Kd.C_F k63_heap HR0.out) zB));rintro e w6 ⟨v84,rfl,ho0,hb⟩;refine ⟨_,rfl,?_⟩;have HO68:=zA (Kd.N_lower (Kd.N_mono (ok':=fun k_=>True) ho0 (fun k_ hk_=>trivial)) (below_size zB));replace HB:=zu hb;clear hb;(try clear ho0);obtain ⟨Ao7,co7,eo7⟩:=Kd.N_slice HO68.out;subst eo7)|((with_reducible refine gate_callee (f:=73) rfl ?_);refine zgo 21 Tryz.func73 #[.slice Ao7 t62.length co7] ?_;(with_reducible refine (ancepsref40_First.calls k _ _ t62 t65 t79 _ ?side1 ?side2 A5.out).mono ?_);(case side1=>exact zC (Kd.N_reads' HO68.out).2.2);(case side2=>exact (Kd.N_reads' HO68.out).2.1);rintro e w8 ⟨rfl,hb⟩;refine ⟨_,rfl,?_⟩;replace HO68:=zA (Kd.N_below (zN HO68) hb);replace HB:=zu hb;clear hb))
 go_ret2
 exact ⟨ze,zv0 HB⟩
mutual
def ancepsref40_fails.l0:Nat→Int→List Int→List Int→Int→Int→Option (Bool)
 | 0,_,_,_,_,_=>none
 | k+1,x5,x42,x46,x49,x50=>if x5<(x46.length:Int) then (if 0≤x5 then ((ancepsref38_Assignment.f k x42 (rd x46 x5)).bind fun t55=>(ancepsref40_fails.l1 k x5 t55 true 0 x42 x46 x49 x50)) else (none)) else (some true)
def ancepsref40_fails.l1:Nat→Int→Int→Bool→Int→List Int→List Int→Int→Int→Option (Bool)
 | 0,_,_,_,_,_,_,_,_=>none
 | k+1,x5,x6,x7,x8,x42,x46,x49,x50=>if x8<(x42.length:Int) then (if 0≤x8 then (if 0≤(rd x42 x8) then (if x7=true then (if (Go.bits .and .i64 x49 (shl .i64 1 (rd x42 x8)))=0 then (ancepsref40_fails.l1 k x5 x6 true (wrap64 (x8+1)) x42 x46 x49 x50) else (ancepsref40_fails.l1 k x5 x6 ((Go.bits .and .i64 x6 (shl .i64 1 (rd x42 x8))) == (Go.bits .and .i64 x50 (shl .i64 1 (rd x42 x8)))) (wrap64 (x8+1)) x42 x46 x49 x50)) else (ancepsref40_fails.l1 k x5 x6 false (wrap64 (x8+1)) x42 x46 x49 x50)) else (none)) else (none)) else (if x7=true then (some false) else (ancepsref40_fails.l0 k (wrap64 (x5+1)) x42 x46 x49 x50))
end
def ancepsref40_fails.f (k:Nat) (l0_0:List Int) (l0_1:List Int) (a1_0:Int) (a1_1:Int):Option (Bool):=ancepsref40_fails.l0 k 0 l0_0 l0_1 a1_0 a1_1
set_option maxHeartbeats 8000000 in
set_option maxRecDepth 100000 in
theorem ancepsref40_fails.calls (k:Nat) (A0_0:Option Addr) (c0_0:Nat) (l0_0:List Int) (A0_1:Option Addr) (c0_1:Nat) (l0_1:List Int) (a1_0:Int) (a1_1:Int) (r:Bool) (w:World) (hr0_0:Kd.C (Kd.int .i64) w A0_0 l0_0.length l0_0) (hc0_0:l0_0.length≤c0_0) (hr0_1:Kd.C (Kd.int .i64) w A0_1 l0_1.length l0_1) (hc0_1:l0_1.length≤c0_1) (h:ancepsref40_fails.f k l0_0 l0_1 a1_0 a1_1=some r) :
  Calls Tryz.prog 121 #[.agg #[.slice A0_0 l0_0.length c0_0,.slice A0_1 l0_1.length c0_1],.agg #[.int .i64 a1_0,.int .i64 a1_1]] w fun e w'=>e=.returned (.bool r)∧Below w.heap.size w w':=by
 have HR0_0:=zA hr0_0;have HC0_0:=zA hc0_0;clear hr0_0 hc0_0;have HR0_1:=zA hr0_1;have HC0_1:=zA hc0_1;clear hr0_1 hc0_1;have HB:=zA (Below.refl w.heap.size w);have H:(ancepsref40_fails.l0 k 0 l0_0 l0_1 a1_0 a1_1)=some r:=h;clear h;have H':=zA H;clear H
 go_enter Tryz.func121,Tryz.ntmps121
 go_wp2_with (first|((with_reducible refine gd 2 rfl ?_);refine zx #[.slice A0_0 l0_0.length c0_0,.slice A0_1 l0_1.length c0_1] 63 ?_;intro gb31 hg w3 BK31 hb GW31 HB1;have GE31:=GW31;clear HB hb hg;have HB:=HB1;clear HB1)|((with_reducible refine gd 3 rfl ?_);refine zx #[.int .i64 a1_0,.int .i64 a1_1] 124 ?_;intro gb34 hg w4 BK34 hb GW34 HB1;have GE34:=GW34;have NB31_34:=zL hg BK31;have NB34_31:=zLs NB31_34;replace BK31:=zw BK31 hb;clear HB hb hg;have HB:=HB1;clear HB1))
 repeat (go_quiet (first|((with_reducible refine gd 2 rfl ?_);refine zx #[.slice A0_0 l0_0.length c0_0,.slice A0_1 l0_1.length c0_1] 63 ?_;intro gb31 hg w3 BK31 hb GW31 HB1;have GE31:=GW31;clear HB hb hg;have HB:=HB1;clear HB1)|((with_reducible refine gd 3 rfl ?_);refine zx #[.int .i64 a1_0,.int .i64 a1_1] 124 ?_;intro gb34 hg w4 BK34 hb GW34 HB1;have GE34:=GW34;have NB31_34:=zL hg BK31;have NB34_31:=zLs NB31_34;replace BK31:=zw BK31 hb;clear HB hb hg;have HB:=HB1;clear HB1));try go_wp2_with (first|((with_reducible refine gd 2 rfl ?_);refine zx #[.slice A0_0 l0_0.length c0_0,.slice A0_1 l0_1.length c0_1] 63 ?_;intro gb31 hg w3 BK31 hb GW31 HB1;have GE31:=GW31;clear HB hb hg;have HB:=HB1;clear HB1)|((with_reducible refine gd 3 rfl ?_);refine zx #[.int .i64 a1_0,.int .i64 a1_1] 124 ?_;intro gb34 hg w4 BK34 hb GW34 HB1;have GE34:=GW34;have NB31_34:=zL hg BK31;have NB34_31:=zLs NB31_34;replace BK31:=zw BK31 hb;clear HB hb hg;have HB:=HB1;clear HB1)))
 go_loopg [5] k (fun kq v5 w'=>∃ (x5_1:Int),v5=.int .i64 x5_1∧Aside0 (ancepsref40_fails.l0 kq x5_1 l0_0 l0_1 a1_0 a1_1=some r)∧Aside0 (kq≤k)∧Aside0 (w'.heap[gb31]?=some (.cells #[(.slice A0_0 l0_0.length c0_0),(.slice A0_1 l0_1.length c0_1)] 63 (0,0)))∧Aside0 (w'.heap[gb34]?=some (.cells #[.int .i64 a1_0,.int .i64 a1_1] 124 (0,0)))∧Aside0 (Below w.heap.size w w'))
 case atStart=>exact ⟨(0),zT,H',⟨Nat.le_refl _⟩,⟨by refine zj ?_;exact BK31.out⟩,⟨by refine zj ?_;exact BK34.out⟩,⟨zv2 HB GE31 GE34⟩⟩
 case round=>
  clear H';obtain ⟨x5_1,rfl,HA,HK1,BK31,BK34,HB⟩:=hrel
  cases gk with
  | zero=>exact absurd HA.out (by simp [ancepsref40_fails.l0])
  | succ k1=>
   have H:=HA.out;clear HA;simp only [ancepsref40_fails.l0] at H
   rcases ifd H with ⟨c5b0,H⟩|⟨c5b0,H⟩
   ·obtain ⟨c6b0,H⟩:=ifd1 H;obtain ⟨t55,A7,H⟩:=zo H;have H':=zA H;clear H;have hnb8:=NB31_34.out;have hnc8:=NB34_31.out;have hcz9_0:=zc0 BK31;have hcz9_1:=zc1 BK31;have hfz9_0:=zf BK31;obtain ⟨p51,q51,ad51,e51,hx51_0⟩:=zp (Kd.at_int HR0_1.out x5_1)
    cases e51
    replace hx51_0:=zd HB hx51_0;replace p51:=eq_true p51;replace q51:=eq_true q51
    go_wp2_with (first|(go_at_call 89;(with_reducible refine (ancepsref38_Assignment.calls k1 _ _ l0_0 (rd l0_1 x5_1) t55 _ (zD HR0_0 HB) HC0_0.out A7.out).mono ?_);rintro e w' ⟨rfl,⟨nd,rfl⟩⟩;(try first|exact ⟨rfl,_,World.drewN_drewN _ _ _⟩|exact ⟨rfl,_,Eq.trans (World.drewN_drewN _ _ _) (congrArg (World.drewN _) (Nat.add_assoc _ _ _))⟩)))
    repeat (go_quiet (first|(go_at_call 89;(with_reducible refine (ancepsref38_Assignment.calls k1 _ _ l0_0 (rd l0_1 x5_1) t55 _ (zD HR0_0 HB) HC0_0.out A7.out).mono ?_);rintro e w' ⟨rfl,⟨nd,rfl⟩⟩;(try first|exact ⟨rfl,_,World.drewN_drewN _ _ _⟩|exact ⟨rfl,_,Eq.trans (World.drewN_drewN _ _ _) (congrArg (World.drewN _) (Nat.add_assoc _ _ _))⟩)));try go_wp2_with (first|(go_at_call 89;(with_reducible refine (ancepsref38_Assignment.calls k1 _ _ l0_0 (rd l0_1 x5_1) t55 _ (zD HR0_0 HB) HC0_0.out A7.out).mono ?_);rintro e w' ⟨rfl,⟨nd,rfl⟩⟩;(try first|exact ⟨rfl,_,World.drewN_drewN _ _ _⟩|exact ⟨rfl,_,Eq.trans (World.drewN_drewN _ _ _) (congrArg (World.drewN _) (Nat.add_assoc _ _ _))⟩))))
    go_loopg [7,8] k1 (fun kq v7 v8 w'=>∃ (x7_2:Bool) (x8_2:Int),v7=.bool x7_2∧v8=.int .i64 x8_2∧Aside0 (ancepsref40_fails.l1 kq x5_1 t55 x7_2 x8_2 l0_0 l0_1 a1_0 a1_1=some r)∧Aside0 (kq≤k1)∧Aside0 (w'.heap[gb31]?=some (.cells #[(.slice A0_0 l0_0.length c0_0),(.slice (some ad51) l0_1.length c0_1)] 63 (0,0)))∧Aside0 (w'.heap[gb34]?=some (.cells #[.int .i64 a1_0,.int .i64 a1_1] 124 (0,0)))∧Aside0 (Below w.heap.size w w'))
    case atStart=>exact ⟨(true),(0),zT,zT,H',⟨Nat.le_refl _⟩,⟨by refine zj ?_;exact BK31.out⟩,⟨by refine zj ?_;exact BK34.out⟩,⟨zv2 HB GE31 GE34⟩⟩
    case round=>
     clear H'
     try clear c5
     try clear c5b0
     try clear c6
     try clear c6b0
     try clear hcz9_0
     try clear hcz9_1
     try clear hfz9_0
     try clear hfz9_1
     try clear hx51_0
     try clear p51
     try clear q51
     obtain ⟨x7_2,x8_2,rfl,rfl,HA,HK2,BK31,BK34,HB⟩:=hrel
     cases gk with
     | zero=>exact absurd HA.out (by simp [ancepsref40_fails.l1])
     | succ k2=>
      have H:=HA.out;clear HA;simp only [ancepsref40_fails.l1] at H
      rcases ifd H with ⟨c10b0,H⟩|⟨c10b0,H⟩
      ·obtain ⟨c11b0,H⟩:=ifd1 H;obtain ⟨c12,H⟩:=if1 H;have c12b0:=eq_true c12;have c12b1:decide (0≤(rd l0_0 x8_2))=true:=decide_eq_true c12;clear c12;obtain ⟨ji13,hji13⟩:=zZ (shl .i64 1 (rd l0_0 x8_2))
       first|rw [hji13] at H|simp only [hji13] at H
       have hji13_:(IntKind.i64.wrap (1 * 2 ^ min (rd l0_0 x8_2).toNat 64))=ji13:=hji13;have hji13z:(rd l0_0 x8_2)≤64→(IntKind.i64.wrap (1 * 2 ^ (rd l0_0 x8_2).toNat))=ji13:=shl_small hji13
       have hji13u:(IntKind.i64.wrap (2 ^ min (rd l0_0 x8_2).toNat 64))=ji13:=by have h_:=hji13_;rw [Int.one_mul] at h_;exact h_
       have hji13v:(rd l0_0 x8_2)≤64→(IntKind.i64.wrap (2 ^ (rd l0_0 x8_2).toNat))=ji13:=fun hle_=>by have h_:=hji13z hle_;rw [Int.one_mul] at h_;exact h_
       have hji13y:(wrap64 (1 * 2 ^ min (rd l0_0 x8_2).toNat 64))=ji13:=(i64_w _).symm.trans hji13_
       have hji13x:(rd l0_0 x8_2)≤64→(wrap64 (1 * 2 ^ (rd l0_0 x8_2).toNat))=ji13:=fun h_=>(i64_w _).symm.trans (hji13z h_)
       by_cases c14:x7_2=true
       ·subst c14
        have H1:(if (Go.bits .and .i64 a1_0 (ji13))=0 then (ancepsref40_fails.l1 k2 x5_1 t55 true (wrap64 (x8_2+1)) l0_0 l0_1 a1_0 a1_1) else (ancepsref40_fails.l1 k2 x5_1 t55 ((Go.bits .and .i64 t55 (ji13)) == (Go.bits .and .i64 a1_1 (ji13))) (wrap64 (x8_2+1)) l0_0 l0_1 a1_0 a1_1))=some r:=by rw [if_pos rfl] at H;exact H
        clear H;have H:=H1;clear H1
        rcases ife H with ⟨c15b0,c15b1,H⟩|⟨c15,c15b0,c15b1,H⟩
        ·have H':=zA H;clear H;have hnb16:=NB31_34.out;have hnc16:=NB34_31.out;have hcz17_0:=zc0 BK31;have hcz17_1:=zc1 BK31;have hfz17_0:=zf BK31;obtain ⟨p35,q35,ad35,e35,hx35_0⟩:=zp (Kd.at_int HR0_0.out x8_2)
         cases e35
         replace hx35_0:=zd HB hx35_0;replace p35:=eq_true p35;replace q35:=eq_true q35;have hcz18_0:=zc0 BK34;have hcz18_1:=zc1 BK34;have hfz18_0:=zf BK34
         go_wp2
         repeat (go_quiet (fail);try go_wp2)
         go_roundg k2
         case measure=>have:=HK1.out;have:=HK2.out;omega
         case rel=>exact ⟨(true),(wrap64 (x8_2+1)),zT,zT,H',⟨by have:=HK1.out;have:=HK2.out;omega⟩,⟨by refine zj ?_;exact BK31.out⟩,⟨by refine zj ?_;exact BK34.out⟩,⟨zv2 HB GE31 GE34⟩⟩
        ·have H':=zA H;clear H;have hnb19:=NB31_34.out;have hnc19:=NB34_31.out;have hcz20_0:=zc0 BK31;have hcz20_1:=zc1 BK31;have hfz20_0:=zf BK31;obtain ⟨p35,q35,ad35,e35,hx35_0⟩:=zp (Kd.at_int HR0_0.out x8_2)
         cases e35
         replace hx35_0:=zd HB hx35_0;replace p35:=eq_true p35;replace q35:=eq_true q35;have hcz21_0:=zc0 BK34;have hcz21_1:=zc1 BK34;have hfz21_0:=zf BK34
         go_wp2
         repeat (go_quiet (fail);try go_wp2)
         go_roundg k2
         case measure=>have:=HK1.out;have:=HK2.out;omega
         case rel=>exact ⟨(((Go.bits .and .i64 t55 (ji13)) == (Go.bits .and .i64 a1_1 (ji13)))),(wrap64 (x8_2+1)),(by first|rfl|(simp;done)|(simp only [← hji13] <;> (first|rfl|simp))|(simp [*];done)),zT,H',⟨by have:=HK1.out;have:=HK2.out;omega⟩,⟨by refine zj ?_;exact BK31.out⟩,⟨by refine zj ?_;exact BK34.out⟩,⟨zv2 HB GE31 GE34⟩⟩
       ·replace c14:=Bool.eq_false_iff.mpr c14;subst c14
        have H1:(ancepsref40_fails.l1 k2 x5_1 t55 false (wrap64 (x8_2+1)) l0_0 l0_1 a1_0 a1_1)=some r:=by rw [if_neg (show ¬ (false=true) by decide)] at H;exact H
        clear H;have H:=H1;clear H1;have H':=zA H;clear H;have hnb22:=NB31_34.out;have hnc22:=NB34_31.out;have hcz23_0:=zc0 BK31;have hcz23_1:=zc1 BK31;have hfz23_0:=zf BK31;obtain ⟨p35,q35,ad35,e35,hx35_0⟩:=zp (Kd.at_int HR0_0.out x8_2)
        cases e35
        replace hx35_0:=zd HB hx35_0;replace p35:=eq_true p35;replace q35:=eq_true q35
        go_wp2
        repeat (go_quiet (fail);try go_wp2)
        go_roundg k2
        case measure=>have:=HK1.out;have:=HK2.out;omega
        case rel=>exact ⟨(false),(wrap64 (x8_2+1)),zT,zT,H',⟨by have:=HK1.out;have:=HK2.out;omega⟩,⟨by refine zj ?_;exact BK31.out⟩,⟨by refine zj ?_;exact BK34.out⟩,⟨zv2 HB GE31 GE34⟩⟩
      ·by_cases c24:x7_2=true
       ·subst c24
        have H1:(some false)=some r:=by rw [if_pos rfl] at H;exact H
        clear H;have H:=H1;clear H1;obtain rfl:=Option.some.inj H;have hnb25:=NB31_34.out;have hnc25:=NB34_31.out;have hcz26_0:=zc0 BK31;have hcz26_1:=zc1 BK31;have hfz26_0:=zf BK31
        go_wp2
        repeat (go_quiet (fail);try go_wp2)
        go_ret
        exact ⟨ze,zv2 HB GE31 GE34⟩
       ·replace c24:=Bool.eq_false_iff.mpr c24;subst c24
        have H1:(ancepsref40_fails.l0 k2 (wrap64 (x5_1+1)) l0_0 l0_1 a1_0 a1_1)=some r:=by rw [if_neg (show ¬ (false=true) by decide)] at H;exact H
        clear H;have H:=H1;clear H1;have H':=zA H;clear H;have hnb27:=NB31_34.out;have hnc27:=NB34_31.out;have hcz28_0:=zc0 BK31;have hcz28_1:=zc1 BK31;have hfz28_0:=zf BK31
        go_wp2
        repeat (go_quiet (fail);try go_wp2)
        go_roundg k2
        case measure=>have:=HK1.out;have:=HK2.out;omega
        case rel=>exact ⟨(wrap64 (x5_1+1)),zT,H',⟨by have:=HK1.out;have:=HK2.out;omega⟩,⟨by refine zj ?_;exact BK31.out⟩,⟨by refine zj ?_;exact BK34.out⟩,⟨zv2 HB GE31 GE34⟩⟩
   ·obtain rfl:=Option.some.inj H;have hnb29:=NB31_34.out;have hnc29:=NB34_31.out;have hcz30_0:=zc0 BK31;have hcz30_1:=zc1 BK31;have hfz30_0:=zf BK31
    go_wp2
    repeat (go_quiet (fail);try go_wp2)
    go_ret
    exact ⟨ze,zv2 HB GE31 GE34⟩
def ancepsref40_choices_with.f (a0_0:Int) (a0_1:Int) (a1:Int) (a2:Int):Option (Int×Int):=if 0≤a1 then (some (Go.bits .or .i64 a0_0 (shl .i64 1 a1),Go.bits .or .i64 a0_1 (shl .i64 a2 a1))) else (none)
def ancepsref40_choices_with.T1:Bool×List (List Nat×List Nat):=(true,[([],[]),([0],[0]),([],[]),([2],[2]),([1,3],[1,3]),([],[]),([5],[5]),([],[]),([],[]),([7,8],[7,8]),([6,9],[6,9]),([4,10],[4,10]),([11,0,1,2,3,4,5,6,7,8,9,10,11],[11])])
def ancepsref40_choices_with.B1:List Nat:=[0,1,0,4,15,0,32,0,0,384,992,2047,4095]
theorem ancepsref40_choices_with.tab1:rtab .any (opsOf Tryz.f122 1)=ancepsref40_choices_with.T1:=by kernel_rfl
theorem ancepsref40_choices_with.bits1:waitsOk ancepsref40_choices_with.T1.2 ancepsref40_choices_with.B1=true:=by kernel_rfl
set_option maxHeartbeats 8000000 in
set_option maxRecDepth 100000 in
theorem ancepsref40_choices_with.calls (a0_0:Int) (a0_1:Int) (a1:Int) (a2:Int) (r1:Int) (r2:Int) (w:World) (h:ancepsref40_choices_with.f a0_0 a0_1 a1 a2=some (r1,r2)) :
  Calls Tryz.prog 122 #[.agg #[.int .i64 a0_0,.int .i64 a0_1],.int .i64 a1,.int .i64 a2] w fun e w'=>e=.returned (.agg #[.int .i64 r1,.int .i64 r2])∧Below w.heap.size w w':=by
 have HB:=zA (Below.refl w.heap.size w);have H:(if 0≤a1 then (some (Go.bits .or .i64 a0_0 (shl .i64 1 a1),Go.bits .or .i64 a0_1 (shl .i64 a2 a1))) else (none))=some (r1,r2):=h;clear h;obtain ⟨c4,H⟩:=if1 H;have c4b0:=eq_true c4;have c4b1:decide (0≤a1)=true:=decide_eq_true c4;clear c4;obtain ⟨ji5,hji5⟩:=zZ (shl .i64 1 a1)
 first|rw [hji5] at H|simp only [hji5] at H
 have hji5_:(IntKind.i64.wrap (1 * 2 ^ min a1.toNat 64))=ji5:=hji5;have hji5z:a1≤64→(IntKind.i64.wrap (1 * 2 ^ a1.toNat))=ji5:=shl_small hji5
 have hji5u:(IntKind.i64.wrap (2 ^ min a1.toNat 64))=ji5:=by have h_:=hji5_;rw [Int.one_mul] at h_;exact h_
 have hji5v:a1≤64→(IntKind.i64.wrap (2 ^ a1.toNat))=ji5:=fun hle_=>by have h_:=hji5z hle_;rw [Int.one_mul] at h_;exact h_
 have hji5y:(wrap64 (1 * 2 ^ min a1.toNat 64))=ji5:=(i64_w _).symm.trans hji5_
 have hji5x:a1≤64→(wrap64 (1 * 2 ^ a1.toNat))=ji5:=fun h_=>(i64_w _).symm.trans (hji5z h_)
 have c6b0:=eq_true (of_decide_eq_true zh:0≤a1);obtain ⟨ji7,hji7⟩:=zZ (shl .i64 a2 a1)
 first|rw [hji7] at H|simp only [hji7] at H
 have hji7_:(IntKind.i64.wrap (a2 * 2 ^ min a1.toNat 64))=ji7:=hji7;have hji7z:a1≤64→(IntKind.i64.wrap (a2 * 2 ^ a1.toNat))=ji7:=shl_small hji7;have hji7y:(wrap64 (a2 * 2 ^ min a1.toNat 64))=ji7:=(i64_w _).symm.trans hji7_
 have hji7x:a1≤64→(wrap64 (a2 * 2 ^ a1.toNat))=ji7:=fun h_=>(i64_w _).symm.trans (hji7z h_)
 simp only [Option.some.injEq,Prod.mk.injEq] at H;obtain ⟨rfl,rfl⟩:=H
 go_enter Tryz.func122,Tryz.ntmps122
 try go_wp2_with (first|((with_reducible refine gd 3 rfl ?_);refine zx #[.int .i64 a0_0,.int .i64 a0_1] 124 ?_;intro gb37 hg w8 BK37 hb GW37 HB1;have GE37:=GW37;clear HB hb hg;have HB:=HB1;clear HB1)|((with_reducible refine gd 6 rfl ?_);refine zx #[.int .i64 0,.int .i64 0] 124 ?_;intro gb36 hg w9 BK36 hb GW36 HB1;have GE36:=GW36;have NB37_36:=zL hg BK37;have NB36_37:=zLs NB37_36;replace BK37:=zw BK37 hb;clear HB hb hg;have HB:=HB1;clear HB1))
 replace BK37:=zA (blk_drew BK37.out);replace BK36:=zA (blk_drew BK36.out);replace HB:=zA (below_drew1 HB.out);refine start_ (n:=13) (S:=fun w'=>w'.cell? ⟨gb37,0,none⟩=some (.int .i64 a0_0)∧w'.cell? ⟨gb37,1,none⟩=some (.int .i64 a0_1)) (ds:=[]) (bz 13 0) zK rfl rfl ⟨zc0 BK37,zc1 BK37⟩ (fun hHeld=>?_);refine with_tabW ancepsref40_choices_with.tab1 ancepsref40_choices_with.bits1 (fun HT_ HW_=>?_)
 generalize w9.drew=w10 at BK37 BK36 HB hHeld ⊢
 refine zP 0 7 (bz 13 1) HT_ ?_;refine zP 2 9 (bz 13 5) HT_ ?_;refine zP 3 10 (bz 13 13) HT_ ?_;refine zP 5 12 (bz 13 45) HT_ ?_;refine zP 7 14 (bz 13 173) HT_ ?_;refine zP 8 15 (bz 13 429) HT_ ?_;refine zP 9 16 (bz 13 941) HT_ ?_;refine zQ 1 8 (bz 13 943) HT_ HW_ hHeld ?_;refine zP 4 11 (bz 13 959) HT_ ?_;refine zQ 6 13 (bz 13 1023) HT_ HW_ hHeld ?_;refine zP 10 17 (bz 13 2047) HT_ ?_;refine zP 11 18 (bz 13 4095) HT_ ?_;refine one_ (i:=12) (N:=none) (bz 13 8191) rfl rfl (one_of HT_.out zK) (by decide) (fun K hK=>?_);have hs11:w10.cell? ⟨gb36,0,none⟩=some (.int .i64 0):=zc0 BK36;have hfs11:=zf BK36 0;have hns11_0:=NB37_36.out;have hms11_0:=NB36_37.out;have hs12:w10.cell? ⟨gb36,1,none⟩=some (.int .i64 0):=zc1 BK36;have hfs12:=zf BK36 1;have hns12_0:=NB37_36.out;have hms12_0:=NB36_37.out;refine skip_ (w1:=?_) (by rfl) rfl ?_ ?_;rotate_left
 ·go_simp
  rfl
 refine hK.out _ _ ⟨((cell_far (p:=⟨gb36,_,none⟩) NB37_36.out _).trans (((cell_far (p:=⟨gb36,_,none⟩) NB37_36.out _).trans (hHeld.1)))),((cell_far (p:=⟨gb36,_,none⟩) NB37_36.out _).trans (((cell_far (p:=⟨gb36,_,none⟩) NB37_36.out _).trans (hHeld.2))))⟩ (fun hHeld=>?_);clear hK K;refine done_ (done_of HT_.out zK) ?_
 try go_wp2
 refine bodyPost_ret (results_cell_row rfl _ _ gb36 124 #[.int .i64 (Go.bits .or .i64 a0_0 (ji5)),.int .i64 (Go.bits .or .i64 a0_1 (ji7))] (0,0) _ rfl (by refine zj ?_;refine blk_put (cs:=#[.int .i64 (Go.bits .or .i64 a0_0 (ji5)),.int .i64 0]) ?_ 1 _ rfl;refine zj ?_;refine blk_put (cs:=#[.int .i64 0,.int .i64 0]) ?_ 0 _ rfl;refine zj ?_;exact BK36.out) Tryz.underlying124 rfl zK) rfl ?_;exact ⟨by first|rfl|(simp [errW_none,errW_some] <;> rfl)|(simp only [← hji5,← hji7];first|rfl|(simp [errW_none,errW_some] <;> rfl))|(simp [*,errW_none,errW_some] <;> rfl),zv2 HB GE37 GE36⟩
end Go.Proofs.YtngpkbbljnbojaaGreat.A
