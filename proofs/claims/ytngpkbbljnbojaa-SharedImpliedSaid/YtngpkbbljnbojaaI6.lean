import Derived.Test.YtngpkbbljnbojaaI0
import Derived.Test.YtngpkbbljnbojaaI2
import Derived.Test.YtngpkbbljnbojaaI4
import Derived.Test.YtngpkbbljnbojaaI5
namespace Go.Proofs.Ytngpkbbljnbojaa.I
open Go.RowKit Go.Proofs.YtngpkbbljnbojaaW.PrintWords Go.Proofs.YtngpkbbljnbojaaW.PrintLast Go.Proofs.YtngpkbbljnbojaaW.PrintMore
attribute [local go_sem] max2_int min2_int max_two min_two max_three min_three max_four min_four
set_option linter.unusedVariables false
set_option linter.unusedSimpArgs false
mutual
def shared_Linked.l0:Nat→List Int→List (S59)→List Int→Int→Int→List (S34)→Option ((List (S59))×Int)
 | 0,_,_,_,_,_,_=>none
 | k+1,x5,x6,x24,x25,x26,x62=>if x26<x25 then (if 0≤x26 then (if x26<(x24.length:Int) then (if 0≤(wrap64 (x26+1)) then (if (wrap64 (x26+1))≤(x5.length:Int) then ((some (x5.drop ((wrap64 (x26+1)):Int).toNat:List Int)).bind fun y49=>(shared_Linked.l1 k x5 x6 (rd x24 x26) x24 x25 x26 y49 (y49.length:Int) 0 x62)) else (none)) else (none)) else (none)) else (none)) else (some (x6,0))
def shared_Linked.l1:Nat→List Int→List (S59)→Int→List Int→Int→Int→List Int→Int→Int→List (S34)→Option ((List (S59))×Int)
 | 0,_,_,_,_,_,_,_,_,_,_=>none
 | k+1,x5,x6,x8,x24,x25,x26,x34,x35,x36,x62=>if x36<x35 then (if 0≤x36 then (if x36<(x34.length:Int) then ((some (([true,false]:List Bool):List Bool)).bind fun y54=>(shared_Linked.l2 k x5 x6 x8 (rd x34 x36) x24 x25 x26 x34 x35 x36 y54 (y54.length:Int) 0 x62)) else (none)) else (none)) else (shared_Linked.l0 k x5 x6 x24 x25 (wrap64 (x26+1)) x62)
def shared_Linked.l2:Nat→List Int→List (S59)→Int→Int→List Int→Int→Int→List Int→Int→Int→List Bool→Int→Int→List (S34)→Option ((List (S59))×Int)
 | 0,_,_,_,_,_,_,_,_,_,_,_,_,_,_=>none
 | k+1,x5,x6,x8,x10,x24,x25,x26,x34,x35,x36,x40,x41,x42,x62=>if x42<x41 then (if 0≤x42 then (if x42<(x40.length:Int) then ((api_Table_39.f x62).bind fun t75=>((shared_both.f x8 x10 (!(rdOf false x40 x42))).bind fun bt69=>(if t75.length<2932031007402 then ((solve_First.f k (t75++[(⟨bt69.1,bt69.2⟩:S34)])).bind fun bt77=>(if bt77.2=10 then (if x6.length<5864062014805 then (shared_Linked.l2 k x5 (x6++[(⟨x8,x10,rdOf false x40 x42⟩:S59)]) x8 x10 x24 x25 x26 x34 x35 x36 x40 x41 (wrap64 (x42+1)) x62) else (none)) else (shared_Linked.l2 k x5 x6 x8 x10 x24 x25 x26 x34 x35 x36 x40 x41 (wrap64 (x42+1)) x62))) else (none)))) else (none)) else (none)) else (shared_Linked.l1 k x5 x6 x8 x24 x25 x26 x34 x35 (wrap64 (x36+1)) x62)
end
def shared_Linked.f (k:Nat) (l0:List (S34)):Option ((List (S59))×Int):=(shared_solvable.f k l0).bind fun t68=>(if t68=0 then ((solve_Vars.f k l0).bind fun t72=>((slices_DeleteFunc_int_int_shared_Linked_1.f k t72 l0).bind fun t47=>(shared_Linked.l0 k t47 ([]:List (S59)) t47 (t47.length:Int) 0 l0))) else (some (([]:List (S59)),t68)))
theorem shared_Linked.mono_l:∀ k,(∀ y0 y1 y2 y3 y4 y5,LeO (shared_Linked.l0 k y0 y1 y2 y3 y4 y5) (shared_Linked.l0 (k+1) y0 y1 y2 y3 y4 y5))∧(∀ y0 y1 y2 y3 y4 y5 y6 y7 y8 y9,LeO (shared_Linked.l1 k y0 y1 y2 y3 y4 y5 y6 y7 y8 y9) (shared_Linked.l1 (k+1) y0 y1 y2 y3 y4 y5 y6 y7 y8 y9))∧(∀ y0 y1 y2 y3 y4 y5 y6 y7 y8 y9 y10 y11 y12 y13,LeO (shared_Linked.l2 k y0 y1 y2 y3 y4 y5 y6 y7 y8 y9 y10 y11 y12 y13) (shared_Linked.l2 (k+1) y0 y1 y2 y3 y4 y5 y6 y7 y8 y9 y10 y11 y12 y13))
 | 0=>⟨fun _ _ _ _ _ _ r h=>by simp [shared_Linked.l0] at h,fun _ _ _ _ _ _ _ _ _ _ r h=>by simp [shared_Linked.l1] at h,fun _ _ _ _ _ _ _ _ _ _ _ _ _ _ r h=>by simp [shared_Linked.l2] at h⟩
 | k+1=>by
  obtain ⟨ih0,ih1,ih2⟩:=shared_Linked.mono_l k;refine ⟨?_,?_,?_⟩
  ·intro y0 y1 y2 y3 y4 y5
   unfold shared_Linked.l0
   repeat' first
   | (with_reducible exact ih0 _ _ _ _ _ _)
   | (with_reducible exact ih1 _ _ _ _ _ _ _ _ _ _)
   | (with_reducible exact ih2 _ _ _ _ _ _ _ _ _ _ _ _ _ _)
   | (with_reducible exact shared_solvable.mono _ _)
   | (with_reducible exact slices_DeleteFunc_int_int_shared_Linked_1.mono _ _ _)
   | (with_reducible exact solve_First.mono _ _)
   | (with_reducible exact solve_Vars.mono _ _)
   | (with_reducible exact LeO.refl _)
   | (with_reducible exact LeO.none _)
   | (with_reducible refine LeO.ite ?_ ?_)
   | (with_reducible refine LeO.bind ?_ (fun _=>?_))
   | exact LeO.none _
   | refine LeO.ite ?_ ?_
   | refine LeO.bind ?_ (fun _=>?_)
  ·intro y0 y1 y2 y3 y4 y5 y6 y7 y8 y9
   unfold shared_Linked.l1
   repeat' first
   | (with_reducible exact ih0 _ _ _ _ _ _)
   | (with_reducible exact ih1 _ _ _ _ _ _ _ _ _ _)
   | (with_reducible exact ih2 _ _ _ _ _ _ _ _ _ _ _ _ _ _)
   | (with_reducible exact shared_solvable.mono _ _)
   | (with_reducible exact slices_DeleteFunc_int_int_shared_Linked_1.mono _ _ _)
   | (with_reducible exact solve_First.mono _ _)
   | (with_reducible exact solve_Vars.mono _ _)
   | (with_reducible exact LeO.refl _)
   | (with_reducible exact LeO.none _)
   | (with_reducible refine LeO.ite ?_ ?_)
   | (with_reducible refine LeO.bind ?_ (fun _=>?_))
   | exact LeO.none _
   | refine LeO.ite ?_ ?_
   | refine LeO.bind ?_ (fun _=>?_)
  ·intro y0 y1 y2 y3 y4 y5 y6 y7 y8 y9 y10 y11 y12 y13
   unfold shared_Linked.l2
   repeat' first
   | (with_reducible exact ih0 _ _ _ _ _ _)
   | (with_reducible exact ih1 _ _ _ _ _ _ _ _ _ _)
   | (with_reducible exact ih2 _ _ _ _ _ _ _ _ _ _ _ _ _ _)
   | (with_reducible exact shared_solvable.mono _ _)
   | (with_reducible exact slices_DeleteFunc_int_int_shared_Linked_1.mono _ _ _)
   | (with_reducible exact solve_First.mono _ _)
   | (with_reducible exact solve_Vars.mono _ _)
   | (with_reducible exact LeO.refl _)
   | (with_reducible exact LeO.none _)
   | (with_reducible refine LeO.ite ?_ ?_)
   | (with_reducible refine LeO.bind ?_ (fun _=>?_))
   | exact LeO.none _
   | refine LeO.ite ?_ ?_
   | refine LeO.bind ?_ (fun _=>?_)
theorem shared_Linked.mono:∀ a0 k,LeO (shared_Linked.f k a0) (shared_Linked.f (k+1) a0):=by
 intro a0 k;obtain ⟨ih0,ih1,ih2⟩:=shared_Linked.mono_l k
 unfold shared_Linked.f
 repeat' first
   | (with_reducible exact ih0 _ _ _ _ _ _)
   | (with_reducible exact ih1 _ _ _ _ _ _ _ _ _ _)
   | (with_reducible exact ih2 _ _ _ _ _ _ _ _ _ _ _ _ _ _)
   | (with_reducible exact shared_solvable.mono _ _)
   | (with_reducible exact slices_DeleteFunc_int_int_shared_Linked_1.mono _ _ _)
   | (with_reducible exact solve_First.mono _ _)
   | (with_reducible exact solve_Vars.mono _ _)
   | (with_reducible exact LeO.refl _)
   | (with_reducible exact LeO.none _)
   | (with_reducible refine LeO.ite ?_ ?_)
   | (with_reducible refine LeO.bind ?_ (fun _=>?_))
   | exact LeO.none _
   | refine LeO.ite ?_ ?_
   | refine LeO.bind ?_ (fun _=>?_)
set_option maxHeartbeats 8000000 in
set_option maxRecDepth 100000 in
theorem shared_Linked.calls (k:Nat) (A0:Option Addr) (c0:Nat) (l0:List (S34)) (r1:List (S59)) (r2:Int) (w:World) (hr0:Kd.C k34 w A0 l0.length l0) (hc0:l0.length≤c0) (h:shared_Linked.f k l0=some (r1,r2)) :
  Calls Try.prog 21 #[.slice A0 l0.length c0] w fun e w'=>∃ v0_:Value,e=.returned (.tuple #[v0_,.int .i64 r2])∧Kd.R k59 59 w' w.heap.size (fun _=>True) v0_ r1∧Below w.heap.size w w':=by
 have hu22:=Try.underlying22;have hu3:=Try.underlying3;have hu4:=Try.underlying4;have hu59:=Try.underlying59;have HR0:=zA hr0;have HC0:=zA hc0;clear hr0 hc0;have HB:=zA (Below.refl w.heap.size w);have H:((shared_solvable.f k l0).bind fun t68=>(if t68=0 then ((solve_Vars.f k l0).bind fun t72=>((slices_DeleteFunc_int_int_shared_Linked_1.f k t72 l0).bind fun t47=>(shared_Linked.l0 k t47 ([]:List (S59)) t47 (t47.length:Int) 0 l0))) else (some (([]:List (S59)),t68))))=some (r1,r2):=h;clear h;replace H:=Option.bind_eq_some_iff.mp H;obtain ⟨t68,A20,H⟩:=H;replace H:(if t68=0 then ((solve_Vars.f k l0).bind fun t72=>((slices_DeleteFunc_int_int_shared_Linked_1.f k t72 l0).bind fun t47=>(shared_Linked.l0 k t47 ([]:List (S59)) t47 (t47.length:Int) 0 l0))) else (some (([]:List (S59)),t68)))=some (r1,r2):=H;have A2:=zA A20;clear A20;have HC3:=zA H;clear H
 go_enter Try.func21,Try.ntmps21
 go_upto_if 18 with (first|((with_reducible refine gate_dst (N:=1) rfl ?_);refine box_event ?hg (N:=1) ?hd (cs:=#[.slice A0 l0.length c0]) (t:=22) ?hr ?_;(case hd=>rfl);(case hg=>rfl);(case hr=>first|(go_simp;done)|(go_simp;rfl));intro gb48 hg w4 hbox hb;have BK48:=zA (hbox);have GW48:=zA (zG hg (below_size zB):w.heap.size≤gb48);have GE48:=GW48;replace HB:=zA (below_step zB hb);clear hb hbox hg;have hcz5_0:w4.cell? ⟨gb48,0,none⟩=some (.slice A0 l0.length c0):=(blk_cell BK48.out 0).trans rfl;have hfz5_0:=blk_frozen BK48.out 0)|((with_reducible refine gate_callee (f:=28) rfl ?_);refine goesL_ (some 16) rfl rfl Try.func28 zK rfl #[.slice A0 l0.length c0] rfl zM ?_;(with_reducible refine (shared_solvable.calls k _ _ l0 t68 _ ?side1 ?side2 A2.out).mono ?_);(case side1=>exact zC (Kd.C_below HR0.out HB.out));(case side2=>exact HC0.out);rintro e w6 ⟨rfl,hb⟩;refine ⟨_,rfl,?_⟩;replace BK48:=zA (zb BK48 hb);replace HB:=zA (below_step zB hb);(try clear hb);(try clear hb2);(try clear hk);(try clear hi)))
 (try simp only [Act.put,zi,zs,zt]);have H:=HC3.out;clear HC3
 by_cases c7:t68=0
 ·rw [if_pos c7] at H;have c7b0:(t68 == 0)=true:=beq_iff_eq.mpr c7;have c7b1:(t68 != 0)=false:=bne_eq_false_iff_eq.mpr c7;clear c7
  (first|rw [c7b0]|(simp only [i64_w,i32_w];rw [c7b0])|skip)
  (try rw [c7b1]);replace H:=Option.bind_eq_some_iff.mp H;obtain ⟨t72,A80,H⟩:=H;replace H:((slices_DeleteFunc_int_int_shared_Linked_1.f k t72 l0).bind fun t47=>(shared_Linked.l0 k t47 ([]:List (S59)) t47 (t47.length:Int) 0 l0))=some (r1,r2):=H;have A8:=zA A80;clear A80;replace H:=Option.bind_eq_some_iff.mp H;obtain ⟨t47,A90,H⟩:=H;replace H:(shared_Linked.l0 k t47 ([]:List (S59)) t47 (t47.length:Int) 0 l0)=some (r1,r2):=H;have A9:=zA A90;clear A90;have H':=zA H;clear H;have hcz10_0:w6.cell? ⟨gb48,0,none⟩=some (.slice A0 l0.length c0):=(blk_cell BK48.out 0).trans rfl;have hfz10_0:=blk_frozen BK48.out 0
  go_wp2_with (first|((with_reducible refine gate_callee (f:=29) rfl ?_);refine goesL_ (some 21) rfl rfl Try.func29 zK rfl #[.slice A0 l0.length c0] rfl zM ?_;(with_reducible refine (solve_Vars.calls k _ _ l0 t72 _ ?side1 ?side2 A8.out).mono ?_);(case side1=>exact zC (Kd.C_below HR0.out HB.out));(case side2=>exact HC0.out);rintro e w11 ⟨v405,rfl,ho0,hb⟩;refine ⟨_,rfl,?_⟩;have HO86:=zA (Kd.R_lower ho0 (below_size zB));replace BK48:=zA (zb BK48 hb);replace HB:=zA (below_step zB hb);(try clear hb);(try clear hb2);(try clear hk);(try clear hi);(try clear ho0);obtain ⟨Ao12,co12,eo12⟩:=Kd.R_slice HO86.out;subst eo12)|((with_reducible refine gate_callee (f:=43) rfl ?_);refine goesL_ (some 23) rfl rfl Try.func43 zK rfl #[.slice Ao12 t72.length co12,.func (.func 44) #[] #[.pointer (some ⟨gb48,0,none⟩)]] rfl zM ?_;(with_reducible refine (slices_DeleteFunc_int_int_shared_Linked_1.calls k (fun k_=>some k_=(.slice Ao12 t72.length co12:Value).ownBlock) (.slice Ao12 t72.length co12) t72 gb48 A0 c0 l0 t47 w _ ?side1 ?side2 ?side3 ?side4 ?side5 ?side6 A9.out).mono ?_);(case side1=>repeat (first|(with_reducible first|exact HB.out|apply below_alloc|apply pw_below_drewN|apply below_drew1|refine below_set ?_ GE48.out)|exact HB.out));(case side2=>exact Kd.R_tight rfl HO86.out);(case side3=>exact Kd.C_kept_came k34_heap HR0.out zB (fun k_ hs_=>(fun e_=>Kd.R_base HO86.out k_ e_.symm) hs_));(case side4=>exact HC0.out);(case side5=>refine zj ?_;exact BK48.out);(case side6=>exact fun k_ e_ he_=>(Kd.R_ne HO86.out (zk BK48) (by decide)) (he_ ▸ e_));rintro e w13 ⟨v408,rfl,ho0,hb,hkp⟩;refine ⟨_,rfl,?_⟩;have HO92:=zA (Kd.R_mono (ok':=fun k_=>True) ho0 (fun k_ hk_=>trivial));replace BK48:=zA (blk_kept (zk BK48) hkp (fun hs_=>(fun e_=>(Kd.R_ne HO86.out BK48.out (by decide)) e_) hs_));replace HB:=zA (hb);clear HO86;(try clear hb);(try clear hkp);(try clear ho0);obtain ⟨Ao14,co14,eo14⟩:=Kd.R_slice HO92.out;subst eo14))
  go_loopg [6,26] k (fun kq v6 v26 w'=>∃ (x6_1:List (S59)) (x26_1:Int),v26=.int .i64 x26_1∧Aside0 (shared_Linked.l0 kq t47 x6_1 t47 (t47.length:Int) x26_1 l0=some (r1,r2))∧Aside0 (kq≤k)∧Aside0 (Kd.R (Kd.int .i64) 3 w' w.heap.size (fun _=>True) (.slice Ao14 t47.length co14) t47)∧Aside0 (Kd.R k59 59 w' w.heap.size (fun _=>True) v6 x6_1)∧Aside0 (Kd.R (Kd.int .i64) 3 w' w.heap.size (fun _=>True) (.slice Ao14 t47.length co14) t47)∧Aside0 (w'.heap[gb48]?=some (.cells #[(.slice A0 l0.length c0)] 22 (0,0)))∧Aside0 (Below w.heap.size w w'))
  case atStart=>exact ⟨(([]:List (S59))),(0),zT,H',⟨Nat.le_refl _⟩,⟨by refine zr ?_;exact HO92.out⟩,⟨by first|exact Kd.R_nil _ _ _ _ _|exact Kd.N_nil _ _ _ _ _|exact Kd.V_nil _ _ _ _ _|exact Kd.Q_nil _ _ _ _ _|exact Kd.S_nil _ _ _ _ _⟩,⟨by refine zr ?_;exact HO92.out⟩,⟨by refine zj ?_;exact BK48.out⟩,⟨zv1 HB GE48⟩⟩
  case round=>
   clear H'
   try clear c7
   try clear c7b0
   try clear c7b1
   try clear hcz10_0
   try clear hcz5_0
   try clear hfz10_0
   try clear hfz5_0
   obtain ⟨x6_1,x26_1,rfl,HA,HK1,HO_5,HO_6,HO_24,BK48,HB⟩:=hrel
   cases gk with
   | zero=>exact absurd HA.out (by simp [shared_Linked.l0])
   | succ k1=>
    have H:=HA.out;clear HA;simp only [shared_Linked.l0] at H
    by_cases c15:x26_1<(t47.length:Int)
    ·rw [if_pos c15] at H;have c15b0:decide (x26_1<(t47.length:Int))=true:=decide_eq_true c15;clear c15
     by_cases c16:0≤x26_1
     ·rw [if_pos c16] at H;have c16b0:decide (0≤x26_1)=true:=decide_eq_true c16;clear c16
      by_cases c17:x26_1<(t47.length:Int)
      ·rw [if_pos c17] at H;have c17b0:decide (x26_1<(t47.length:Int))=true:=decide_eq_true c17;clear c17
       obtain ⟨ji18,hji18⟩:∃ j_:Int,(wrap64 (x26_1+1))=j_:=⟨_,rfl⟩
       replace H:(if 0≤(ji18) then (if (ji18)≤(t47.length:Int) then ((some (t47.drop ((ji18):Int).toNat:List Int)).bind fun y49=>(shared_Linked.l1 k1 t47 x6_1 (rd t47 x26_1) t47 (t47.length:Int) x26_1 y49 (y49.length:Int) 0 l0)) else (none)) else (none))=some (r1,r2):=by first|(rw [hji18] at H;exact H)|(simp only [hji18] at H ⊢;exact H)
       have hji18w:(IntKind.i64.wrap (x26_1+1))=ji18:=(i64_w _).trans hji18
       by_cases c19:0≤(ji18)
       ·rw [if_pos c19] at H;have c19b0:=eq_true c19;have c19b1:decide (0≤(ji18))=true:=decide_eq_true c19;clear c19
        by_cases c20:(ji18)≤(t47.length:Int)
        ·rw [if_pos c20] at H;have c20b0:=eq_true c20;have c20b1:decide ((ji18)≤(t47.length:Int))=true:=decide_eq_true c20;clear c20
         obtain ⟨y49,hy49⟩:∃ y_:List Int,y_=(t47.drop ((ji18):Int).toNat):=⟨_,rfl⟩
         replace H:(shared_Linked.l1 k1 t47 x6_1 (rd t47 x26_1) t47 (t47.length:Int) x26_1 y49 (y49.length:Int) 0 l0)=some (r1,r2):=by first|(rw [hy49];with_reducible exact H)|(have H2_:=(Option.bind_some _ _).symm.trans H;rw [hy49];with_reducible exact H2_)|(have H2_:=(Option.bind_some _ _).symm.trans H;with_reducible exact H2_)|with_reducible exact H|(rw [hy49];exact H)|exact H
         have Ny49:=zA hy49;clear hy49;have H':=zA H;clear H;have p56:0≤(x26_1:Int):=of_decide_eq_true zh;have q56:x26_1<(t47.length:Int):=of_decide_eq_true zh;obtain ⟨ad56,e56,hx56_0⟩:=Kd.at_int (Kd.R_reads' HO_24.out).2.2 x26_1 p56 q56
         cases e56
         replace p56:=eq_true p56;replace q56:=eq_true q56;have q21:((ji18):Int)≤((t47.length:Int):Int):=of_decide_eq_true zh;obtain ⟨i78,hi78,_,hsz21,_⟩:=info_parts info3;have hroom21:t47.length≤co14:=(Kd.R_reads' HO_5.out).2.1;have hC21:Kd.F (Kd.int .i64) _ _ (some ad56) t47.length t47:=(Kd.V_at (base:=w.heap.size) (Kd.R_V (Kd.R_types (Kd.R_apart' (HO_5.out) (Kd.R_typed HO_6.out) (by decide)) BK48.out (by decide)))).2.2;have q78:(0:Int)≤((ji18):Int):=of_decide_eq_true zh;have hcut21:=cut_from (P:=Try.prog) 29 3 .i64 Try.underlying29 hi78 1 hsz21 (some ad56) t47.length co14 (ji18) q78 q21;have hr21:=Kd.F_cut (m:=((ji18):Int).toNat) (c:=co14) hC21 (by omega) hroom21
         obtain ⟨A21,hA21⟩:∃ A1,A1=(if co14=((ji18):Int).toNat then (some ad56) else ((some ad56):Option Addr).map (·.add (((ji18):Int).toNat * 1))):=⟨_,rfl⟩
         obtain ⟨c21,hc21⟩:∃ c1,c1=co14 - ((ji18):Int).toNat:=⟨_,rfl⟩
         have hy21:y49.length=t47.length - ((ji18):Int).toNat:=(by rw [Ny49.out,List.length_drop] <;> omega)
         rw [show (t47).drop ((ji18):Int).toNat=y49 from Ny49.out.symm] at hr21
         replace hr21:Kd.F (Kd.int .i64) _ _ A21 y49.length y49:=(by rw [hA21];exact hr21)
         rw [← hy21,← hA21,← hc21] at hcut21;have HO415:=zA (show Kd.V (Kd.int .i64) 3 _ w.heap.size _ (.slice A21 y49.length c21) y49 from Kd.V_mk (by rw [hy21,hc21];exact Nat.sub_le_sub_right hroom21 _) hr21);have HC415:=zA (show y49.length≤c21 from by rw [hy21,hc21];exact Nat.sub_le_sub_right hroom21 _);clear hr21 hC21 hroom21 hi78 hsz21 hc21;have KY21:=zA hy21;have KA21:=zA hA21;clear hy21 hA21;replace q21:=eq_true q21
         go_wp2
         go_loopg [6,36] k1 (fun kq v6 v36 w'=>∃ (x6_2:List (S59)) (x36_2:Int),v36=.int .i64 x36_2∧Aside0 (shared_Linked.l1 kq t47 x6_2 (rd t47 x26_1) t47 (t47.length:Int) x26_1 y49 (y49.length:Int) x36_2 l0=some (r1,r2))∧Aside0 (kq≤k1)∧Aside0 (Kd.R (Kd.int .i64) 3 w' w.heap.size (fun _=>True) (.slice (some ad56) t47.length co14) t47)∧Aside0 (Kd.R k59 59 w' w.heap.size (fun _=>True) v6 x6_2)∧Aside0 (Kd.R (Kd.int .i64) 3 w' w.heap.size (fun _=>True) (.slice (some ad56) t47.length co14) t47)∧Aside0 (Kd.V (Kd.int .i64) 3 w' w.heap.size (fun k_=>some k_≠(v6:Value).ownBlock∧k_≠gb48) (.slice A21 y49.length c21) y49)∧Aside0 (w'.heap[gb48]?=some (.cells #[(.slice A0 l0.length c0)] 22 (0,0)))∧Aside0 (Below w.heap.size w w'))
         case atStart=>exact ⟨(x6_1),(0),zT,H',⟨Nat.le_refl _⟩,⟨by refine zr ?_;exact HO_5.out⟩,⟨by refine zr ?_;exact HO_6.out⟩,⟨by refine zr ?_;exact HO_24.out⟩,⟨by (with_reducible repeat (first|apply Kd.V_alloc|apply Kd.V_drewN|apply Kd.V_drew));exact Kd.V_mono HO415.out (fun _ hk=>⟨hk.1.2,hk.2⟩)⟩,⟨by refine zj ?_;exact BK48.out⟩,⟨zv1 HB GE48⟩⟩
         case round=>
          clear H'
          try clear c1
          try clear c7
          try clear c7b0
          try clear c7b1
          try clear c15
          try clear c15b0
          try clear c16
          try clear c16b0
          try clear c17
          try clear c17b0
          try clear c19
          try clear c19b0
          try clear c19b1
          try clear c20
          try clear c20b0
          try clear c20b1
          try clear c21
          try clear q21
          try clear hcz10_0
          try clear hcz5_0
          try clear hfz10_0
          try clear hfz5_0
          try clear hx56_0
          try clear p56
          try clear q78
          try clear q21
          try clear q56
          obtain ⟨x6_2,x36_2,rfl,HA,HK2,HO_5,HO_6,HO_24,HO_34,BK48,HB⟩:=hrel
          cases gk with
          | zero=>exact absurd HA.out (by simp [shared_Linked.l1])
          | succ k2=>
           have H:=HA.out;clear HA;simp only [shared_Linked.l1] at H
           by_cases c22:x36_2<(y49.length:Int)
           ·rw [if_pos c22] at H;have c22b0:decide (x36_2<(y49.length:Int))=true:=decide_eq_true c22;clear c22
            by_cases c23:0≤x36_2
            ·rw [if_pos c23] at H;have c23b0:decide (0≤x36_2)=true:=decide_eq_true c23;clear c23
             by_cases c24:x36_2<(y49.length:Int)
             ·rw [if_pos c24] at H;have c24b0:decide (x36_2<(y49.length:Int))=true:=decide_eq_true c24;clear c24
              obtain ⟨y54,hy54⟩:∃ y_:List Bool,y_=(([true,false]:List Bool)):=⟨_,rfl⟩
              replace H:(shared_Linked.l2 k2 t47 x6_2 (rd t47 x26_1) (rd y49 x36_2) t47 (t47.length:Int) x26_1 y49 (y49.length:Int) x36_2 y54 (y54.length:Int) 0 l0)=some (r1,r2):=by first|(rw [hy54];with_reducible exact H)|(have H2_:=(Option.bind_some _ _).symm.trans H;rw [hy54];with_reducible exact H2_)|(have H2_:=(Option.bind_some _ _).symm.trans H;with_reducible exact H2_)|with_reducible exact H|(rw [hy54];exact H)|exact H
              have Ny54:=zA hy54;clear hy54;have H':=zA H;clear H;have p66:0≤(x36_2:Int):=of_decide_eq_true zh;have q66:x36_2<(y49.length:Int):=of_decide_eq_true zh;obtain ⟨ad66,e66,hx66_0⟩:=Kd.at_int (Kd.V_reads' HO_34.out).2.2 x36_2 p66 q66
              cases e66
              replace p66:=eq_true p66;replace q66:=eq_true q66
              go_wp2_with (first|((with_reducible refine gate_dst (N:=40) rfl ?_);refine Kd.R_lit Kd.bool _ 4 ?hg (N:=40) ?hd (xs:=([true,false]:List Bool)) (inner:=[.bool true,.bool false]) (ok:=fun _=>True) (okp:=fun _=>True) ?hr ?hp (fun _ hk=>hk) trivial (Below.refl _ _) (Nat.le_refl _) (by simp) ?_;(case hd=>rfl);(case hg=>rfl);(case hr=>first|(go_simp;done)|(go_simp;rfl));(case hp=>exact (Reps.one (show Kd.M Kd.bool _ _ _ true [.bool true] from rfl) (Reps.one (show Kd.M Kd.bool _ _ _ false [.bool false] from rfl) (Reps.none _ _))));intro v418 w25 ho26 hb hg_ hnew_;clear hg_ hnew_;(first|rw [← Ny54.out] at ho26|(simp only [Int.reduceToNat] at ho26;rw [← Ny54.out] at ho26));have HO419:=zA (Kd.R_lower ho26 (below_size zB));replace HO_5:=zA (Kd.R_below (zR HO_5) hb);replace HO_6:=zA (Kd.R_below (zR HO_6) hb);replace HO_24:=zA (Kd.R_below (zR HO_24) hb);replace HO_34:=zA (Kd.V_elder' (zV HO_34) (Kd.R_base ho26) hb);replace BK48:=zA (zb BK48 hb);replace HB:=zA (below_step zB hb);clear hb ho26;obtain ⟨Ao27,co27,eo27⟩:=Kd.R_slice HO419.out;subst eo27))
              go_loopg [6,42] k2 (fun kq v6 v42 w'=>∃ (x6_3:List (S59)) (x42_3:Int),v42=.int .i64 x42_3∧Aside0 (shared_Linked.l2 kq t47 x6_3 (rd t47 x26_1) (rd y49 x36_2) t47 (t47.length:Int) x26_1 y49 (y49.length:Int) x36_2 y54 (y54.length:Int) x42_3 l0=some (r1,r2))∧Aside0 (kq≤k2)∧Aside0 (Kd.R (Kd.int .i64) 3 w' w.heap.size (fun _=>True) (.slice (some ad56) t47.length co14) t47)∧Aside0 (Kd.R k59 59 w' w.heap.size (fun _=>True) v6 x6_3)∧Aside0 (Kd.R (Kd.int .i64) 3 w' w.heap.size (fun _=>True) (.slice (some ad56) t47.length co14) t47)∧Aside0 (Kd.V (Kd.int .i64) 3 w' w.heap.size (fun k_=>some k_≠(v6:Value).ownBlock∧some k_≠((.slice Ao27 y54.length co27):Value).ownBlock∧k_≠gb48) (.slice (some ad66) y49.length c21) y49)∧Aside0 (Kd.R Kd.bool 4 w' w.heap.size (fun _=>True) (.slice Ao27 y54.length co27) y54)∧Aside0 (w'.heap[gb48]?=some (.cells #[(.slice A0 l0.length c0)] 22 (0,0)))∧Aside0 (Below w.heap.size w w'))
              case atStart=>exact ⟨(x6_2),(0),zT,H',⟨Nat.le_refl _⟩,⟨by refine zr ?_;exact HO_5.out⟩,⟨by refine zr ?_;exact HO_6.out⟩,⟨by refine zr ?_;exact HO_24.out⟩,⟨by (with_reducible repeat (first|apply Kd.V_alloc|apply Kd.V_drewN|apply Kd.V_drew));exact Kd.V_mono HO_34.out (fun _ hk=>⟨hk.1.1,⟨hk.2,hk.1.2⟩⟩)⟩,⟨by refine zr ?_;exact HO419.out⟩,⟨by refine zj ?_;exact BK48.out⟩,⟨zv1 HB GE48⟩⟩
              case round=>
               clear H'
               try clear c1
               try clear c7
               try clear c7b0
               try clear c7b1
               try clear c15
               try clear c15b0
               try clear c16
               try clear c16b0
               try clear c17
               try clear c17b0
               try clear c19
               try clear c19b0
               try clear c19b1
               try clear c20
               try clear c20b0
               try clear c20b1
               try clear c21
               try clear q21
               try clear c22
               try clear c22b0
               try clear c23
               try clear c23b0
               try clear c24
               try clear c24b0
               try clear hcz10_0
               try clear hcz5_0
               try clear hfz10_0
               try clear hfz5_0
               try clear hx56_0
               try clear hx66_0
               try clear p56
               try clear p66
               try clear q78
               try clear q21
               try clear q56
               try clear q66
               obtain ⟨x6_3,x42_3,rfl,HA,HK3,HO_5,HO_6,HO_24,HO_34,HO_40,BK48,HB⟩:=hrel
               cases gk with
               | zero=>exact absurd HA.out (by simp [shared_Linked.l2])
               | succ k3=>
                have H:=HA.out;clear HA;simp only [shared_Linked.l2] at H
                by_cases c28:x42_3<(y54.length:Int)
                ·rw [if_pos c28] at H;have c28b0:decide (x42_3<(y54.length:Int))=true:=decide_eq_true c28;clear c28
                 by_cases c29:0≤x42_3
                 ·rw [if_pos c29] at H;have c29b0:decide (0≤x42_3)=true:=decide_eq_true c29;clear c29
                  by_cases c30:x42_3<(y54.length:Int)
                  ·rw [if_pos c30] at H;have c30b0:decide (x42_3<(y54.length:Int))=true:=decide_eq_true c30;clear c30;replace H:=Option.bind_eq_some_iff.mp H;obtain ⟨t75,A310,H⟩:=H;replace H:((shared_both.f (rd t47 x26_1) (rd y49 x36_2) (!(rdOf false y54 x42_3))).bind fun bt69=>(if t75.length<2932031007402 then ((solve_First.f k3 (t75++[(⟨bt69.1,bt69.2⟩:S34)])).bind fun bt77=>(if bt77.2=10 then (if x6_3.length<5864062014805 then (shared_Linked.l2 k3 t47 (x6_3++[(⟨(rd t47 x26_1),(rd y49 x36_2),rdOf false y54 x42_3⟩:S59)]) (rd t47 x26_1) (rd y49 x36_2) t47 (t47.length:Int) x26_1 y49 (y49.length:Int) x36_2 y54 (y54.length:Int) (wrap64 (x42_3+1)) l0) else (none)) else (shared_Linked.l2 k3 t47 x6_3 (rd t47 x26_1) (rd y49 x36_2) t47 (t47.length:Int) x26_1 y49 (y49.length:Int) x36_2 y54 (y54.length:Int) (wrap64 (x42_3+1)) l0))) else (none)))=some (r1,r2):=H;have A31:=zA A310;clear A310;replace H:=Option.bind_eq_some_iff.mp H;obtain ⟨⟨t69,t79⟩,A320,H⟩:=H;replace H:(if t75.length<2932031007402 then ((solve_First.f k3 (t75++[(⟨t69,t79⟩:S34)])).bind fun bt77=>(if bt77.2=10 then (if x6_3.length<5864062014805 then (shared_Linked.l2 k3 t47 (x6_3++[(⟨(rd t47 x26_1),(rd y49 x36_2),rdOf false y54 x42_3⟩:S59)]) (rd t47 x26_1) (rd y49 x36_2) t47 (t47.length:Int) x26_1 y49 (y49.length:Int) x36_2 y54 (y54.length:Int) (wrap64 (x42_3+1)) l0) else (none)) else (shared_Linked.l2 k3 t47 x6_3 (rd t47 x26_1) (rd y49 x36_2) t47 (t47.length:Int) x26_1 y49 (y49.length:Int) x36_2 y54 (y54.length:Int) (wrap64 (x42_3+1)) l0))) else (none))=some (r1,r2):=H;have A32:=zA A320;clear A320
                   by_cases c33:t75.length<2932031007402
                   ·rw [if_pos c33] at H;have LMc33:=zA c33;clear c33
                    obtain ⟨y74,hy74⟩:∃ y_:List (S34),y_=(t75++[(⟨t69,t79⟩:S34)]):=⟨_,rfl⟩
                    replace H:((solve_First.f k3 y74).bind fun bt77=>(if bt77.2=10 then (if x6_3.length<5864062014805 then (shared_Linked.l2 k3 t47 (x6_3++[(⟨(rd t47 x26_1),(rd y49 x36_2),rdOf false y54 x42_3⟩:S59)]) (rd t47 x26_1) (rd y49 x36_2) t47 (t47.length:Int) x26_1 y49 (y49.length:Int) x36_2 y54 (y54.length:Int) (wrap64 (x42_3+1)) l0) else (none)) else (shared_Linked.l2 k3 t47 x6_3 (rd t47 x26_1) (rd y49 x36_2) t47 (t47.length:Int) x26_1 y49 (y49.length:Int) x36_2 y54 (y54.length:Int) (wrap64 (x42_3+1)) l0)))=some (r1,r2):=by first|(rw [hy74];with_reducible exact H)|(have H2_:=(Option.bind_some _ _).symm.trans H;rw [hy74];with_reducible exact H2_)|(have H2_:=(Option.bind_some _ _).symm.trans H;with_reducible exact H2_)|with_reducible exact H|(rw [hy74];exact H)|exact H
                    have Ny74:=zA hy74;clear hy74;replace H:=Option.bind_eq_some_iff.mp H;obtain ⟨⟨t77,t81⟩,A340,H⟩:=H;replace H:(if t81=10 then (if x6_3.length<5864062014805 then (shared_Linked.l2 k3 t47 (x6_3++[(⟨(rd t47 x26_1),(rd y49 x36_2),rdOf false y54 x42_3⟩:S59)]) (rd t47 x26_1) (rd y49 x36_2) t47 (t47.length:Int) x26_1 y49 (y49.length:Int) x36_2 y54 (y54.length:Int) (wrap64 (x42_3+1)) l0) else (none)) else (shared_Linked.l2 k3 t47 x6_3 (rd t47 x26_1) (rd y49 x36_2) t47 (t47.length:Int) x26_1 y49 (y49.length:Int) x36_2 y54 (y54.length:Int) (wrap64 (x42_3+1)) l0))=some (r1,r2):=H;have A34:=zA A340;clear A340;have HC35:=zA H;clear H;have p60:0≤(x42_3:Int):=of_decide_eq_true zh;have q60:x42_3<(y54.length:Int):=of_decide_eq_true zh;obtain ⟨ad60,e60,hx60_0⟩:=Kd.at_bool (Kd.R_reads' HO_40.out).2.2 x42_3 p60 q60
                    cases e60
                    replace p60:=eq_true p60;replace q60:=eq_true q60;have hcz36_0:wr.cell? ⟨gb48,0,none⟩=some (.slice A0 l0.length c0):=(blk_cell BK48.out 0).trans rfl;have hfz36_0:=blk_frozen BK48.out 0
                    go_upto_if 60 with (first|((with_reducible refine gate_callee (f:=39) rfl ?_);refine goesL_ (some 48) rfl rfl Try.func39 zK rfl #[.slice A0 l0.length c0] rfl zM ?_;(with_reducible refine (api_Table_39.calls (fun k_=>k_<w.heap.size) _ _ l0 t75 _ ?side1 A31.out).mono ?_);(case side1=>exact Kd.V_mk HC0.out (Kd.F_below (Kd.C_F k34_heap HR0.out) zB));rintro e w37 ⟨v87,rfl,ho0,hb⟩;refine ⟨_,rfl,?_⟩;have HO70:=zA (Kd.N_lower (Kd.N_mono (ok':=fun k_=>some k_≠(.slice (some ad56) t47.length co14:Value).ownBlock∧some k_≠(u6:Value).ownBlock∧some k_≠(.slice (some ad56) t47.length co14:Value).ownBlock∧some k_≠(.slice (some ad60) y54.length co27:Value).ownBlock∧k_≠gb48) ho0 (fun k_ hk_=>⟨Or.elim hk_ (fun hs_=>fun e_=>Nat.not_le.2 hs_ (Kd.R_base HO_5.out k_ e_.symm)) (fun hn_=>(Kd.fresh' (Kd.R_lt (zR HO_5)) k_ hn_)),Or.elim hk_ (fun hs_=>fun e_=>Nat.not_le.2 hs_ (Kd.R_base HO_6.out k_ e_.symm)) (fun hn_=>(Kd.fresh' (Kd.R_lt (zR HO_6)) k_ hn_)),Or.elim hk_ (fun hs_=>fun e_=>Nat.not_le.2 hs_ (Kd.R_base HO_24.out k_ e_.symm)) (fun hn_=>(Kd.fresh' (Kd.R_lt (zR HO_24)) k_ hn_)),Or.elim hk_ (fun hs_=>fun e_=>Nat.not_le.2 hs_ (Kd.R_base HO_40.out k_ e_.symm)) (fun hn_=>(Kd.fresh' (Kd.R_lt (zR HO_40)) k_ hn_)),Or.elim hk_ (fun hs_=>fun e_=>Nat.not_le.2 hs_ (by rw [e_];exact GW48.out)) (fun hn_=>(Kd.freshB (g:=gb48) (o:=.cells #[.slice A0 l0.length c0] 22 (0,0)) (zk BK48) k_ hn_))⟩)) (below_size zB));replace HO_5:=zA (Kd.R_below (zR HO_5) hb);replace HO_6:=zA (Kd.R_below (zR HO_6) hb);replace HO_24:=zA (Kd.R_below (zR HO_24) hb);replace HO_34:=zA (Kd.V_elder' (zV HO_34) (Kd.N_base ho0) hb);replace HO_40:=zA (Kd.R_below (zR HO_40) hb);replace BK48:=zA (zb BK48 hb);replace HB:=zA (below_step zB hb);(try clear hb);(try clear hb2);(try clear hk);(try clear hi);(try clear ho0))|((with_reducible refine gate_callee (f:=45) rfl ?_);refine goesL_ (some 53) rfl rfl Try.func45 zK rfl #[.int .i64 (rd t47 x26_1),.int .i64 (rd y49 x36_2),.bool (!(rdOf false y54 x42_3))] rfl zM ?_;(with_reducible refine (shared_both.calls (rd t47 x26_1) (rd y49 x36_2) (!(rdOf false y54 x42_3)) t69 t79 _ A32.out).mono ?_);rintro e w38 ⟨v425,v428,rfl,ho0,ho1,hb⟩;refine ⟨_,rfl,?_⟩;have HO89:=zA (Kd.R_lower (Kd.R_new' (Kd.R_new' ho0 (Kd.R_lt (zR HO_5))) (Kd.R_lt (zR HO_24))) (below_size zB));have HO91:=zA (Kd.R_lower (Kd.R_new' (Kd.R_new' ho1 (Kd.R_lt (zR HO_5))) (Kd.R_lt (zR HO_24))) (below_size zB));replace HO_5:=zA (Kd.R_mono (Kd.R_told (Kd.R_told (Kd.R_old (zR HO_5) hb) (Kd.R_base ho0)) (Kd.R_base ho1)) (fun _ h_=>h_.1));replace HO_6:=zA (Kd.R_below (zR HO_6) hb);replace HO_24:=zA (Kd.R_mono (Kd.R_told (Kd.R_told (Kd.R_old (zR HO_24) hb) (Kd.R_base ho0)) (Kd.R_base ho1)) (fun _ h_=>h_.1));replace HO_34:=zA (Kd.V_mono (Kd.V_told (Kd.V_told (Kd.V_old (zV HO_34) hb) (Kd.R_base ho0)) (Kd.R_base ho1)) (fun _ h_=>h_.1));replace HO_40:=zA (Kd.R_below (zR HO_40) hb);replace HO70:=zA (Kd.N_mono (Kd.N_told (Kd.N_told (Kd.N_old (zN HO70) hb) (Kd.R_base ho0)) (Kd.R_base ho1)) (fun _ h_=>h_.1));replace BK48:=zA (zb BK48 hb);replace HB:=zA (below_step zB hb);(try clear hb);(try clear hb2);(try clear hk);(try clear hi);(try clear ho0);(try clear ho1);obtain ⟨Ao40,co40,eo40⟩:=Kd.R_slice HO89.out;subst eo40;obtain ⟨Ao41,co41,eo41⟩:=Kd.R_slice HO91.out;subst eo41)|((with_reducible refine gate_builtin (b:=.append) (xs:=#[.tmp 48,.tmp 54]) rfl ?_);at_builtin;refine Kd.N_append k34 (w0:=w) w.heap.size rfl (.tmp 48) (.tmp 54) 22 34 (.agg #[(.slice none 0 0),(.slice none 0 0)]) 48 rfl Try.underlying22 info34 rfl (by decide) (by omega) v87 t75 (⟨t69,t79⟩:S34) [.slice Ao40 t69.length co40,.slice Ao41 t79.length co41] (fun k_=>some k_≠(.slice (some ad56) t47.length co14:Value).ownBlock∧some k_≠(u6:Value).ownBlock∧some k_≠(.slice (some ad56) t47.length co14:Value).ownBlock∧some k_≠(.slice (some ad60) y54.length co27:Value).ownBlock∧k_≠gb48) (fun k_=>((fun k_=>some k_≠(.slice (some ad56) t47.length co14:Value).ownBlock∧some k_≠(u6:Value).ownBlock∧some k_≠(.slice (some ad56) t47.length co14:Value).ownBlock∧some k_≠(.slice (some ad60) y54.length co27:Value).ownBlock∧k_≠gb48)) k_∧some k_≠(v87:Value).ownBlock) rfl rfl ?aP (fun _ hk=>hk) ?aF ?aO ?aB ?aS ?aL ?_;(case aP=>exact (k34_mkF _ _ (⟨t69,t79⟩:S34) (Kd.R_reads' (Kd.R_mono (ok':=(fun k_=>((fun k_=>some k_≠(.slice (some ad56) t47.length co14:Value).ownBlock∧some k_≠(u6:Value).ownBlock∧some k_≠(.slice (some ad56) t47.length co14:Value).ownBlock∧some k_≠(.slice (some ad60) y54.length co27:Value).ownBlock∧k_≠gb48)) k_∧some k_≠(v87:Value).ownBlock)) (Kd.R_types (Kd.R_apart' (Kd.R_apart' (Kd.R_apart' (HO89.out) (Kd.R_typed HO_6.out) (by decide)) (Kd.R_typed HO_40.out) (by decide)) (Kd.N_typed HO70.out) (by decide)) BK48.out (by decide)) (fun k_ hk=>⟨⟨hk.1.1.1.1.1.2,⟨hk.1.1.1.2,⟨hk.1.1.1.1.2,⟨hk.1.1.2,hk.2⟩⟩⟩⟩,hk.1.2⟩))).2.1 (Kd.R_F (Kd.R_mono (ok':=(fun k_=>((fun k_=>some k_≠(.slice (some ad56) t47.length co14:Value).ownBlock∧some k_≠(u6:Value).ownBlock∧some k_≠(.slice (some ad56) t47.length co14:Value).ownBlock∧some k_≠(.slice (some ad60) y54.length co27:Value).ownBlock∧k_≠gb48)) k_∧some k_≠(v87:Value).ownBlock)) (Kd.R_types (Kd.R_apart' (Kd.R_apart' (Kd.R_apart' (HO89.out) (Kd.R_typed HO_6.out) (by decide)) (Kd.R_typed HO_40.out) (by decide)) (Kd.N_typed HO70.out) (by decide)) BK48.out (by decide)) (fun k_ hk=>⟨⟨hk.1.1.1.1.1.2,⟨hk.1.1.1.2,⟨hk.1.1.1.1.2,⟨hk.1.1.2,hk.2⟩⟩⟩⟩,hk.1.2⟩))) (Kd.R_reads' (Kd.R_mono (ok':=(fun k_=>((fun k_=>some k_≠(.slice (some ad56) t47.length co14:Value).ownBlock∧some k_≠(u6:Value).ownBlock∧some k_≠(.slice (some ad56) t47.length co14:Value).ownBlock∧some k_≠(.slice (some ad60) y54.length co27:Value).ownBlock∧k_≠gb48)) k_∧some k_≠(v87:Value).ownBlock)) (Kd.R_types (Kd.R_apart' (Kd.R_apart' (Kd.R_apart' (HO91.out) (Kd.R_typed HO_6.out) (by decide)) (Kd.R_typed HO_40.out) (by decide)) (Kd.N_typed HO70.out) (by decide)) BK48.out (by decide)) (fun k_ hk=>⟨⟨hk.1.1.1.1.1.2,⟨hk.1.1.1.2,⟨hk.1.1.1.1.2,⟨hk.1.1.2,hk.2⟩⟩⟩⟩,hk.1.2⟩))).2.1 (Kd.R_F (Kd.R_mono (ok':=(fun k_=>((fun k_=>some k_≠(.slice (some ad56) t47.length co14:Value).ownBlock∧some k_≠(u6:Value).ownBlock∧some k_≠(.slice (some ad56) t47.length co14:Value).ownBlock∧some k_≠(.slice (some ad60) y54.length co27:Value).ownBlock∧k_≠gb48)) k_∧some k_≠(v87:Value).ownBlock)) (Kd.R_types (Kd.R_apart' (Kd.R_apart' (Kd.R_apart' (HO91.out) (Kd.R_typed HO_6.out) (by decide)) (Kd.R_typed HO_40.out) (by decide)) (Kd.N_typed HO70.out) (by decide)) BK48.out (by decide)) (fun k_ hk=>⟨⟨hk.1.1.1.1.1.2,⟨hk.1.1.1.2,⟨hk.1.1.1.1.2,⟨hk.1.1.2,hk.2⟩⟩⟩⟩,hk.1.2⟩)))));(case aB=>exact zB);(case aF=>exact (fun k_ hk=>⟨Kd.fresh' (Kd.R_lt (zR HO_5)) k_ hk,Kd.fresh' (Kd.R_lt (zR HO_6)) k_ hk,Kd.fresh' (Kd.R_lt (zR HO_24)) k_ hk,Kd.fresh' (Kd.R_lt (zR HO_40)) k_ hk,Kd.freshB (g:=gb48) (o:=.cells #[.slice A0 l0.length c0] 22 (0,0)) (zk BK48) k_ hk⟩));(case aO=>exact (by (with_reducible repeat (first|apply Kd.N_alloc|apply Kd.N_drewN|apply Kd.N_drew));exact Kd.N_mono HO70.out (fun _ hk=>⟨hk.1.1.1,⟨hk.1.1.2.1,⟨hk.1.1.2.2.1,⟨hk.1.1.2.2.2.1,hk.1.1.2.2.2.2⟩⟩⟩⟩)));(case aS=>exact (below_size zB));(case aL=>have:=LMc33.out;omega);intro v431 w39 ho hb hg hat;rw [← Ny74.out] at ho;have HO83:=zA (ho);replace HO_5:=zA (Kd.R_over' (zR HO_5) (Kd.N_typed (zN HO70)) (by decide) hg);replace HO_6:=zA (Kd.R_over' (zR HO_6) (Kd.N_typed (zN HO70)) (by decide) hg);replace HO_24:=zA (Kd.R_over' (zR HO_24) (Kd.N_typed (zN HO70)) (by decide) hg);replace HO_34:=zA (Kd.V_afterv (ok:=(fun k_=>some k_≠(u6:Value).ownBlock∧some k_≠(.slice (some ad60) y54.length co27:Value).ownBlock∧some k_≠(.slice Ao40 t69.length co40:Value).ownBlock∧some k_≠(.slice Ao41 t79.length co41:Value).ownBlock∧k_≠gb48)) (by (with_reducible repeat (first|apply Kd.V_alloc|apply Kd.V_drewN|apply Kd.V_drew));exact Kd.V_mono HO_34.out (fun _ hk=>⟨⟨hk.1.1.1.1,⟨hk.1.1.1.2.1,⟨hk.1.2,⟨hk.2,hk.1.1.1.2.2⟩⟩⟩⟩,hk.1.1.2⟩)) hg hat);replace HO_40:=zA (Kd.R_over' (zR HO_40) (Kd.N_typed (zN HO70)) (by decide) hg);replace BK48:=zA (blk_grown (g:=gb48) (o:=.cells #[.slice A0 l0.length c0] 22 (0,0)) (zk BK48) hg (Kd.N_ne HO70.out BK48.out (by decide)));replace HB:=zA (hb);clear HO70 HO89 HO91;clear ho hb hg hat;obtain ⟨Ao42,co42,eo42⟩:=Kd.N_slice HO83.out;subst eo42)|((with_reducible refine gate_callee (f:=38) rfl ?_);refine goesL_ (some 56) rfl rfl Try.func38 zK rfl #[.slice Ao42 y74.length co42] rfl zM ?_;(with_reducible refine (solve_First.calls k3 _ _ y74 t77 t81 _ ?side1 ?side2 A34.out).mono ?_);(case side1=>exact zC (Kd.N_reads' HO83.out).2.2);(case side2=>exact (Kd.N_reads' HO83.out).2.1);rintro e w43 ⟨rfl,hb⟩;refine ⟨_,rfl,?_⟩;replace HO_5:=zA (Kd.R_below (zR HO_5) hb);replace HO_6:=zA (Kd.R_below (zR HO_6) hb);replace HO_24:=zA (Kd.R_below (zR HO_24) hb);replace HO_34:=zA (Kd.V_below (zV HO_34) hb);replace HO_40:=zA (Kd.R_below (zR HO_40) hb);replace HO83:=zA (Kd.N_below (zN HO83) hb);replace BK48:=zA (zb BK48 hb);replace HB:=zA (below_step zB hb);(try clear hb);(try clear hb2);(try clear hk);(try clear hi)))
                    (try simp only [Act.put,zi,zs,zt]);have H:=HC35.out;clear HC35
                    by_cases c44:t81=10
                    ·rw [if_pos c44] at H;have c44b0:(t81 == 10)=true:=beq_iff_eq.mpr c44;have c44b1:(t81 != 10)=false:=bne_eq_false_iff_eq.mpr c44;clear c44
                     (first|rw [c44b0]|(simp only [i64_w,i32_w];rw [c44b0])|skip)
                     (try rw [c44b1])
                     by_cases c45:x6_3.length<5864062014805
                     ·rw [if_pos c45] at H;have LMc45:=zA c45;clear c45
                      obtain ⟨y76,hy76⟩:∃ y_:List (S59),y_=(x6_3++[(⟨(rd t47 x26_1),(rd y49 x36_2),rdOf false y54 x42_3⟩:S59)]):=⟨_,rfl⟩
                      replace H:(shared_Linked.l2 k3 t47 y76 (rd t47 x26_1) (rd y49 x36_2) t47 (t47.length:Int) x26_1 y49 (y49.length:Int) x36_2 y54 (y54.length:Int) (wrap64 (x42_3+1)) l0)=some (r1,r2):=by first|(rw [hy76];with_reducible exact H)|(have H2_:=(Option.bind_some _ _).symm.trans H;rw [hy76];with_reducible exact H2_)|(have H2_:=(Option.bind_some _ _).symm.trans H;with_reducible exact H2_)|with_reducible exact H|(rw [hy76];exact H)|exact H
                      have Ny76:=zA hy76;clear hy76;have H':=zA H;clear H
                      go_wp2_with (first|((with_reducible refine gate_builtin (b:=.append) (xs:=#[.tmp 61,.tmp 66]) rfl ?_);at_builtin;refine Kd.R_append k59 (w0:=w) w.heap.size rfl (.tmp 61) (.tmp 66) 51 59 (.agg #[(.int .i64 0),(.int .i64 0),(.bool false)]) 24 rfl Try.underlying51 info59 rfl (by decide) (by omega) u6 x6_3 (⟨(rd t47 x26_1),(rd y49 x36_2),rdOf false y54 x42_3⟩:S59) [.int .i64 (rd t47 x26_1),.int .i64 (rd y49 x36_2),.bool (rdOf false y54 x42_3)] (fun _=>True) (fun _=>False) rfl rfl ?aP (fun _ hk=>hk.elim) ?aF ?aO ?aB ?aS ?aL ?_;(case aP=>exact k59_mkM _ _ _ (⟨(rd t47 x26_1),(rd y49 x36_2),rdOf false y54 x42_3⟩:S59));(case aB=>exact zB);(case aF=>exact (fun _ _=>trivial));(case aO=>exact (zR HO_6));(case aS=>exact (below_size zB));(case aL=>have:=LMc45.out;omega);intro v436 w46 ho hb hg hat;rw [← Ny76.out] at ho;have HO437:=zA (ho);replace HO_5:=zA (Kd.R_over' (zR HO_5) (Kd.R_typed (zR HO_6)) (by decide) hg);replace HO_24:=zA (Kd.R_over' (zR HO_24) (Kd.R_typed (zR HO_6)) (by decide) hg);replace HO_34:=zA (Kd.V_afterv (ok:=(fun k_=>some k_≠(.slice (some ad60) y54.length co27:Value).ownBlock∧some k_≠(.slice Ao42 y74.length co42:Value).ownBlock∧k_≠gb48)) (by (with_reducible repeat (first|apply Kd.V_alloc|apply Kd.V_drewN|apply Kd.V_drew));exact Kd.V_mono HO_34.out (fun _ hk=>⟨⟨hk.1.2.1,⟨hk.2,hk.1.2.2.2.2⟩⟩,hk.1.1⟩)) hg hat);replace HO_40:=zA (Kd.R_over' (zR HO_40) (Kd.R_typed (zR HO_6)) (by decide) hg);replace BK48:=zA (blk_grown (g:=gb48) (o:=.cells #[.slice A0 l0.length c0] 22 (0,0)) (zk BK48) hg (Kd.R_ne HO_6.out BK48.out (by decide)));replace HO83:=zA (Kd.N_afterv (ok:=(fun k_=>some k_≠(.slice (some ad56) t47.length co14:Value).ownBlock∧some k_≠(.slice (some ad56) t47.length co14:Value).ownBlock∧some k_≠(.slice (some ad60) y54.length co27:Value).ownBlock∧k_≠gb48)) (by (with_reducible repeat (first|apply Kd.N_alloc|apply Kd.N_drewN|apply Kd.N_drew));exact Kd.N_mono HO83.out (fun _ hk=>⟨⟨hk.1,⟨hk.2.2.1,⟨hk.2.2.2.1,hk.2.2.2.2⟩⟩⟩,hk.2.1⟩)) hg hat);replace HB:=zA (hb);clear HO_6;clear ho hb hg hat))
                      go_roundg k3
                      case measure=>have:=HK1.out;have:=HK2.out;have:=HK3.out;omega
                      case rel=>exact ⟨(y76),(wrap64 (x42_3+1)),zT,H',⟨by have:=HK1.out;have:=HK2.out;have:=HK3.out;omega⟩,⟨by refine zr ?_;exact Kd.R_mono HO_5.out (fun _ hk=>trivial)⟩,⟨by refine zr ?_;exact HO437.out⟩,⟨by refine zr ?_;exact Kd.R_mono HO_24.out (fun _ hk=>trivial)⟩,⟨by (with_reducible repeat (first|apply Kd.V_alloc|apply Kd.V_drewN|apply Kd.V_drew));exact Kd.V_mono HO_34.out (fun _ hk=>⟨hk.2,⟨hk.1.1,hk.1.2.2⟩⟩)⟩,⟨by refine zr ?_;exact HO_40.out⟩,⟨by refine zj ?_;exact BK48.out⟩,⟨zv1 HB GE48⟩⟩
                     ·rw [if_neg c45] at H;exact absurd H (by simp)
                    ·rw [if_neg c44] at H;have c44b0:(t81 == 10)=false:=beq_eq_false_iff_ne.mpr c44;have c44b1:(t81 != 10)=true:=bne_iff_ne.mpr c44
                     (first|rw [c44b0]|(simp only [i64_w,i32_w];rw [c44b0])|skip)
                     (try rw [c44b1]);have H':=zA H;clear H
                     go_wp2
                     go_roundg k3
                     case measure=>have:=HK1.out;have:=HK2.out;have:=HK3.out;omega
                     case rel=>exact ⟨(x6_3),(wrap64 (x42_3+1)),zT,H',⟨by have:=HK1.out;have:=HK2.out;have:=HK3.out;omega⟩,⟨by refine zr ?_;exact Kd.R_mono HO_5.out (fun _ hk=>trivial)⟩,⟨by refine zr ?_;exact HO_6.out⟩,⟨by refine zr ?_;exact Kd.R_mono HO_24.out (fun _ hk=>trivial)⟩,⟨by (with_reducible repeat (first|apply Kd.V_alloc|apply Kd.V_drewN|apply Kd.V_drew));exact Kd.V_mono HO_34.out (fun _ hk=>⟨hk.1.1,⟨hk.1.2.1,hk.1.2.2.2.2⟩⟩)⟩,⟨by refine zr ?_;exact HO_40.out⟩,⟨by refine zj ?_;exact BK48.out⟩,⟨zv1 HB GE48⟩⟩
                   ·rw [if_neg c33] at H;exact absurd H (by simp)
                  ·rw [if_neg c30] at H;exact absurd H (by simp)
                 ·rw [if_neg c29] at H;exact absurd H (by simp)
                ·rw [if_neg c28] at H;have c28b0:decide (x42_3<(y54.length:Int))=false:=decide_eq_false c28;clear c28;have H':=zA H;clear H
                 go_wp2
                 go_roundg k3
                 case measure=>have:=HK1.out;have:=HK2.out;have:=HK3.out;omega
                 case rel=>exact ⟨(x6_3),(wrap64 (x36_2+1)),zT,H',⟨by have:=HK1.out;have:=HK2.out;have:=HK3.out;omega⟩,⟨by refine zr ?_;exact HO_5.out⟩,⟨by refine zr ?_;exact HO_6.out⟩,⟨by refine zr ?_;exact HO_24.out⟩,⟨by (with_reducible repeat (first|apply Kd.V_alloc|apply Kd.V_drewN|apply Kd.V_drew));exact Kd.V_mono HO_34.out (fun _ hk=>⟨hk.1,hk.2.2⟩)⟩,⟨by refine zj ?_;exact BK48.out⟩,⟨zv1 HB GE48⟩⟩
             ·rw [if_neg c24] at H;exact absurd H (by simp)
            ·rw [if_neg c23] at H;exact absurd H (by simp)
           ·rw [if_neg c22] at H;have c22b0:decide (x36_2<(y49.length:Int))=false:=decide_eq_false c22;clear c22;have H':=zA H;clear H
            go_wp2
            go_roundg k2
            case measure=>have:=HK1.out;have:=HK2.out;omega
            case rel=>exact ⟨(x6_2),(wrap64 (x26_1+1)),zT,H',⟨by have:=HK1.out;have:=HK2.out;omega⟩,⟨by refine zr ?_;exact HO_5.out⟩,⟨by refine zr ?_;exact HO_6.out⟩,⟨by refine zr ?_;exact HO_24.out⟩,⟨by refine zj ?_;exact BK48.out⟩,⟨zv1 HB GE48⟩⟩
        ·rw [if_neg c20] at H;exact absurd H (by simp)
       ·rw [if_neg c19] at H;exact absurd H (by simp)
      ·rw [if_neg c17] at H;exact absurd H (by simp)
     ·rw [if_neg c16] at H;exact absurd H (by simp)
    ·rw [if_neg c15] at H;have c15b0:decide (x26_1<(t47.length:Int))=false:=decide_eq_false c15;clear c15;simp only [Option.some.injEq,Prod.mk.injEq] at H;obtain ⟨rfl,rfl⟩:=H
     go_wp2
     go_ret2
     exact ⟨_,ze,by refine zr ?_;exact HO_6.out,zv1 HB GE48⟩
 ·rw [if_neg c7] at H;have c7b0:(t68 == 0)=false:=beq_eq_false_iff_ne.mpr c7;have c7b1:(t68 != 0)=true:=bne_iff_ne.mpr c7
  (first|rw [c7b0]|(simp only [i64_w,i32_w];rw [c7b0])|skip)
  (try rw [c7b1]);simp only [Option.some.injEq,Prod.mk.injEq] at H;obtain ⟨rfl,rfl⟩:=H
  go_wp2
  go_ret2
  exact ⟨_,ze,by first|exact Kd.R_nil _ _ _ _ _|exact Kd.N_nil _ _ _ _ _|exact Kd.V_nil _ _ _ _ _|exact Kd.Q_nil _ _ _ _ _|exact Kd.S_nil _ _ _ _ _,zv1 HB GE48⟩
def solve_split.T10:Bool×List (List Nat×List Nat):=(true,[([],[]),([],[]),([1],[1]),([2],[2]),([3],[3]),([],[]),([5],[5]),([6],[6]),([],[]),([8],[8]),([7,9],[7,9]),([10],[10]),([4,11],[4,11]),([0,0,1,2,3,4,5,6,7,8,9,10,11,12],[0]),([13,0,1,2,3,4,5,6,7,8,9,10,11,12],[13]),([14,12,12,0,1,2,3,4,5,6,7,8,9,10,11,12],[12,14])])
def solve_split.B10:List Nat:=[0,0,2,6,14,0,32,96,0,256,992,2016,4094,8191,16383,32767]
theorem solve_split.tab10:rtab .any (opsOf Try.f73 10)=solve_split.T10:=by kernel_rfl
theorem solve_split.bits10:waitsOk solve_split.T10.2 solve_split.B10=true:=by kernel_rfl
def solve_split.T11:Bool×List (List Nat×List Nat):=(true,[([],[]),([],[]),([1],[1]),([],[]),([],[]),([4],[4]),([5],[5]),([3,6],[3,6]),([],[]),([0,2,7,8,7],[0,2,7,8]),([9],[9])])
def solve_split.B11:List Nat:=[0,0,2,0,0,16,48,120,0,511,1023]
theorem solve_split.tab11:rtab .any (opsOf Try.f73 11)=solve_split.T11:=by kernel_rfl
theorem solve_split.bits11:waitsOk solve_split.T11.2 solve_split.B11=true:=by kernel_rfl
def solve_split.T13:Bool×List (List Nat×List Nat):=(true,[([],[]),([0],[0]),([1],[1]),([2],[2]),([],[]),([],[]),([5],[5]),([6],[6]),([7],[7]),([8],[8]),([3,4,0,1,2,3,4,5,6,7,8,9],[3,4]),([10,0,1,2,3,4,5,6,7,8,9],[10]),([11,9,0,1,2,3,4,5,6,7,8,9],[9,11])])
def solve_split.B13:List Nat:=[0,1,3,7,0,0,32,96,224,480,1023,2047,4095]
theorem solve_split.tab13:rtab .any (opsOf Try.f73 13)=solve_split.T13:=by kernel_rfl
theorem solve_split.bits13:waitsOk solve_split.T13.2 solve_split.B13=true:=by kernel_rfl
def solve_split.T14:Bool×List (List Nat×List Nat):=(true,[([],[]),([],[]),([1],[1]),([],[]),([],[]),([4],[4]),([5],[5]),([3,6],[3,6]),([],[]),([0,2,7,8,7],[0,2,7,8]),([9,9,0,1,2,3,4,5,6,7,8,9],[9])])
def solve_split.B14:List Nat:=[0,0,2,0,0,16,48,120,0,511,1023]
theorem solve_split.tab14:rtab .any (opsOf Try.f73 14)=solve_split.T14:=by kernel_rfl
theorem solve_split.bits14:waitsOk solve_split.T14.2 solve_split.B14=true:=by kernel_rfl
/-- What split keeps: all that lay below n0,and all but the nodes' variable and rows of nodes. -/
def KpR (n0 g:Nat) (W W':World):Prop:=W.heap.size≤W'.heap.size∧(∀ k,k<W.heap.size→(k<n0∨(k≠g∧∀ cs,W.heap[k]?≠some (.cells cs 116 (0,0))))→W'.heap[k]?=W.heap[k]?)∧W'.os=W.os∧W'.tape=W.tape∧W'.output=W.output
theorem KpR.refl {n0 g:Nat} (W:World):KpR n0 g W W:=⟨Nat.le_refl _,fun _ _ _=>rfl,rfl,rfl,rfl⟩
theorem KpR.trans {n0 g:Nat} {A B C:World} (h:KpR n0 g A B) (k:KpR n0 g B C):KpR n0 g A C:=
 ⟨Nat.le_trans h.1 k.1,fun j hj hp=>by
  have e:=h.2.1 j hj hp
  exact (k.2.1 j (Nat.lt_of_lt_of_le hj h.1) (hp.elim .inl (fun ⟨h1,h2⟩=>.inr ⟨h1,fun cs hc=>h2 cs (e.symm.trans hc)⟩))).trans e,k.2.2.1.trans h.2.2.1,k.2.2.2.1.trans h.2.2.2.1,k.2.2.2.2.trans h.2.2.2.2⟩
theorem KpR.below {n0 g:Nat} {A B:World} (h:Below A.heap.size A B):KpR n0 g A B:=⟨h.size,fun j hj _=>h.block j hj,h.os,h.tape,h.output⟩
theorem KpR.belowN {n0 g:Nat} {A B:World} (h:KpR n0 g A B) (hn:n0≤A.heap.size):Below n0 A B:=⟨h.2.2.1,h.2.2.2.1,h.2.2.2.2,h.1,fun k hk=>h.2.1 k (by omega) (.inl hk)⟩
theorem KpR.blk {n0 g:Nat} {A B:World} (h:KpR n0 g A B) {j t:Nat} {cs:Array Value} (hb:A.heap[j]?=some (.cells cs t (0,0))) (hj:j≠g) (ht:t≠116):B.heap[j]?=some (.cells cs t (0,0)):=
 (h.2.1 j (blk_lt hb) (.inr ⟨hj,fun cs' hc=>by rw [hb] at hc;cases hc;exact ht rfl⟩)).trans hb
theorem KpR.other {n0 g:Nat} {A B:World} (h:KpR n0 g A B) {j:Nat} {o:Obj} (hb:A.heap[j]?=some o) (hj:j≠g) (ho:o.isCells=false):B.heap[j]?=some o:=
 (h.2.1 j (Array.getElem?_eq_some_iff.1 hb).1 (.inr ⟨hj,fun cs' hc=>by rw [hb] at hc;cases hc;simp [Obj.isCells] at ho⟩)).trans hb
theorem KpR.kept {n0 g:Nat} {A B:World} (h:KpR n0 g A B):Kept A B (fun k=>n0≤k∧(k=g∨∃ cs,A.heap[k]?=some (.cells cs 116 (0,0)))):=
 ⟨h.1,fun i hi hn=>h.2.1 i hi (by
  by_cases hlt:i<n0
  ·exact .inl hlt
  ·exact .inr ⟨fun e=>hn ⟨by omega,.inl e⟩,fun cs hc=>hn ⟨by omega,.inr ⟨cs,hc⟩⟩⟩)⟩
theorem KpR.set {n0 g:Nat} (W:World) (hg:n0≤g) (j:Nat) (u:Value):KpR n0 g W (W.setCell ⟨g,j,none⟩ u):=
 ⟨by simp [World.setCell],fun k hk hp=>Below.heap_setCell W _ u k (fun e=>by
  dsimp only at e
  subst e
  rcases hp with hp|⟨hp,_⟩
  ·omega
  ·exact hp rfl),rfl,rfl,rfl⟩
theorem KpR.grown {n0 g:Nat} {W W':World} {row:Option Nat} (hg:W.grownBy W' row) (hr:∀ k,row=some k→n0≤k∧∃ cs,W.heap[k]?=some (.cells cs 116 (0,0))):KpR n0 g W W':=
 ⟨hg.size,fun k hk hp=>hg.block k hk (fun e=>by
  obtain ⟨h1,cs,hb⟩:=hr k e.symm
  rcases hp with hp|⟨_,hc⟩
  ·omega
  ·exact hc cs hb),hg.os,hg.tape,hg.output⟩
theorem cell_alloc_ {W:World} {a:Addr} {v:Value} {o:Obj} (h:W.cell? a=some v):(W.alloc o).cell? a=some v:=cell_kept h (World.grownBy_alloc W o none) (fun r e=>by cases e)
def solve_split.f:Nat→List (S34)→List Int→Int→Int→List (S116)→Option (List (S116)×Bool)
 | 0,_,_,_,_,_=>none
 | k+1,l0,l1,a2_0,a2_1,l3=>if (l3.length:Int)=2000 then some (l3,false) else (solve_choices_failing.f k a2_0 a2_1 l0).bind fun t=>(if t≥0 then (if l3.length<4398046511104 then some (l3++[(⟨(-1),0,0,t⟩:S116)],true) else none) else (if (l1.length:Int)=0 then some (l3,false) else (if l3.length<4398046511104 then (solve_choices_with.f a2_0 a2_1 (rd l1 0) 0).bind fun b=>(solve_split.f k l0 (l1.drop 1) b.1 b.2 (l3++[(⟨rd l1 0,wrap64 ((l3.length:Int)+1),0,0⟩:S116)])).bind fun q=>(if q.2=true then (if (l3.length:Int)<(q.1.length:Int) then (solve_choices_with.f a2_0 a2_1 (rd l1 0) 1).bind fun b'=>solve_split.f k l0 (l1.drop 1) b'.1 b'.2 (q.1.set l3.length (⟨(rd_T116 q.1 (l3.length:Int)).f0,(rd_T116 q.1 (l3.length:Int)).f1,(q.1.length:Int),(rd_T116 q.1 (l3.length:Int)).f3⟩:S116)) else none) else some (q.1,false)) else none)))
theorem solve_split.mono_l:∀ k,(∀ y0 y1 y2 y3 y4,LeO (solve_split.f k y0 y1 y2 y3 y4) (solve_split.f (k+1) y0 y1 y2 y3 y4))
 | 0=>fun _ _ _ _ _ r h=>by simp [solve_split.f] at h
 | k+1=>by
  have ih0:=solve_split.mono_l k
  ·intro y0 y1 y2 y3 y4
   unfold solve_split.f
   repeat' first
   | (with_reducible exact ih0 _ _ _ _ _)
   | (with_reducible exact solve_choices_failing.mono _ _ _ _)
   | (with_reducible exact LeO.refl _)
   | (with_reducible exact LeO.none _)
   | (with_reducible refine LeO.ite ?_ ?_)
   | (with_reducible refine LeO.bind ?_ (fun _=>?_))
   | exact LeO.refl _
   | exact LeO.none _
   | refine LeO.ite ?_ ?_
   | refine LeO.bind ?_ (fun _=>?_)
theorem solve_split.mono:∀ a0 a1 a2 a3 a4 k,LeO (solve_split.f k a0 a1 a2 a3 a4) (solve_split.f (k+1) a0 a1 a2 a3 a4):=by
 intro a0 a1 a2 a3 a4 k;have ih0:=solve_split.mono_l k;exact ih0 a0 a1 a2 a3 a4
set_option maxHeartbeats 8000000 in
set_option maxRecDepth 100000 in
theorem solve_split.in_ (n0 g:Nat) (hge_:n0≤g) (w1:World) (A0:Option Addr) (c0:Nat) (l0:List (S34)) (hl0_:l0.length≤c0) (hL_:∀ W',KpR n0 g w1 W'→Kd.C k34 W' A0 l0.length l0) (k:Nat) :
  ∀ (A1:Option Addr) (c1:Nat) (l1:List Int) (a2_0 a2_1:Int) (l3:List (S116)) (u:Value) (r:List (S116)) (b:Bool) (w:World) (hK_:KpR n0 g w1 w) (hn_:n0≤w.heap.size) (hV_:∀ W',KpR n0 g w1 W'→Kd.C (Kd.int .i64) W' A1 l1.length l1) (hc1_:l1.length≤c1)
   (hb_:w.heap[g]?=some (.cells #[u] 63 (0,0))) (ho_:Kd.R k116 116 w n0 (fun _=>True) u l3) (h:solve_split.f k l0 l1 a2_0 a2_1 l3=some (r,b)),
  Calls Try.prog 73 #[.slice A0 l0.length c0,.slice A1 l1.length c1,.agg #[.int .i64 a2_0,.int .i64 a2_1],.pointer (some ⟨g,0,none⟩)] w fun e w'=>e=.returned (.bool b)∧∃ u':Value,w'.heap[g]?=some (.cells #[u'] 63 (0,0))∧Kd.R k116 116 w' n0 (fun _=>True) u' r∧KpR n0 g w w':=by
 have hL:=zA hL_;have hge:=zA hge_;have hl0:=zA hl0_;clear hL_ hge_ hl0_
 induction k using Nat.strongRecOn with
 | _ k ih=>
 intro A1 c1 l1 a2_0 a2_1 l3 u r b w hK_ hn_ hV_ hc1_ hb_ ho_ h
 cases k with
 | zero=>exact absurd h (by simp [solve_split.f])
 | succ k=>
 simp only [solve_split.f] at h;have hu96:=Try.underlying96;have hu63:=Try.underlying63;have hu61:=Try.underlying61;have hu116:=Try.underlying116;have hu3:=Try.underlying3;obtain ⟨Au,cu,rfl⟩:=Kd.R_slice ho_;have HK1:=zA hK_;have HN:=zA hn_;have HV:=zA hV_;have HC1:=zA hc1_;have BKr:=zA hb_;have HO:=zA ho_;have HK:=zA (KpR.refl (n0:=n0) (g:=g) w);have IH:=zA ih;have HGW:=zA (blk_lt hb_);clear hK_ hn_ hV_ hc1_ hb_ ho_ ih;have H0:=zA h;clear h
 go_enter Try.func73,Try.ntmps73
 go_upto_if 17 with (first|((with_reducible refine gate_dst (N:=6) rfl ?_);refine box_event ?hg (N:=6) ?hd (cs:=#[.int .i64 a2_0,.int .i64 a2_1]) (t:=96) ?hr ?_;(case hd=>rfl);(case hg=>rfl);(case hr=>first|(go_simp;done)|(go_simp;rfl));intro gb hg w7 hbox hb;have BKc:=zA hbox;have GE:=zA (show w.heap.size≤gb by rw [hg];exact Nat.le_refl _);replace BKr:=zA (blk_below BKr.out hb);replace HO:=zA (Kd.R_below HO.out hb);replace HK:=zA (KpR.below (n0:=n0) (g:=g) hb);clear hb hbox hg;have hcr:w7.cell? ⟨g,0,none⟩=some (.slice Au l3.length cu):=(blk_cell BKr.out 0).trans rfl;have hfr:=blk_frozen BKr.out 0;have hc0:w7.cell? ⟨gb,0,none⟩=some (.int .i64 a2_0):=(blk_cell BKc.out 0).trans rfl;have hc1:w7.cell? ⟨gb,1,none⟩=some (.int .i64 a2_1):=(blk_cell BKc.out 1).trans rfl;have hf0:=blk_frozen BKc.out 0;have hf1:=blk_frozen BKc.out 1))
 (try simp only [Act.put,zi,zs,zt]);have NE:=zA (show gb≠g from by have h1:=GE.out;have h2:=HGW.out;omega);have H:=H0.out;clear H0
 by_cases c2:(l3.length:Int)=2000
 ·rw [if_pos c2] at H;have c2b0:((l3.length:Int) == 2000)=true:=beq_iff_eq.mpr c2
  (first|rw [c2b0]|(simp only [i64_w,i32_w];rw [c2b0])|skip)
  simp only [Option.some.injEq,Prod.mk.injEq] at H;obtain ⟨rfl,rfl⟩:=H
  go_wp2
  go_ret
  exact ⟨rfl,_,BKr.out,HO.out,HK.out⟩
 ·rw [if_neg c2] at H;have c2b0:((l3.length:Int) == 2000)=false:=beq_eq_false_iff_ne.mpr c2
  (first|rw [c2b0]|(simp only [i64_w,i32_w];rw [c2b0])|skip)
  replace H:=Option.bind_eq_some_iff.mp H;obtain ⟨t84,A50,H⟩:=H;have A5:=zA A50;have HC6:=zA H;clear A50 H
  go_upto_if 22 with (first|(go_at_call 81;(with_reducible refine (solve_choices_failing.calls k a2_0 a2_1 _ _ l0 t84 _ ?side1 ?side2 A5.out).mono ?_);(case side1=>exact hL.out _ (KpR.trans HK1.out HK.out));(case side2=>exact hl0.out);rintro e w9 ⟨rfl,hb⟩;replace BKr:=zA (blk_below BKr.out hb);replace BKc:=zA (blk_below BKc.out hb);replace HO:=zA (Kd.R_below HO.out hb);replace HK:=zA (KpR.trans HK.out (KpR.below (n0:=n0) (g:=g) hb));clear hb hcr hfr hc0 hc1 hf0 hf1;have hcr:w9.cell? ⟨g,0,none⟩=some (.slice Au l3.length cu):=(blk_cell BKr.out 0).trans rfl;have hfr:=blk_frozen BKr.out 0;have hc0:w9.cell? ⟨gb,0,none⟩=some (.int .i64 a2_0):=(blk_cell BKc.out 0).trans rfl;have hc1:w9.cell? ⟨gb,1,none⟩=some (.int .i64 a2_1):=(blk_cell BKc.out 1).trans rfl;have hf0:=blk_frozen BKc.out 0;have hf1:=blk_frozen BKc.out 1))
  (try simp only [Act.put,zi,zs,zt]);have hn9:=zA (Nat.le_trans HN.out HK.out.1);have H:=HC6.out;clear HC6
  by_cases c10:t84≥0
  ·rw [if_pos c10] at H;have c10b0:decide (0≤t84)=true:=decide_eq_true c10;clear c10
   (first|rw [c10b0]|(simp only [i64_w,i32_w];rw [c10b0])|skip)
   by_cases c16:l3.length<4398046511104
   ·rw [if_pos c16] at H;have LMc16:=zA c16;clear c16;simp only [Option.some.injEq,Prod.mk.injEq] at H;obtain ⟨hr_,rfl⟩:=H;have Ny:=zA hr_;clear hr_
    go_wp2_with (first|((with_reducible refine gate_builtin (b:=.append) (xs:=#[.tmp 27,.tmp 30]) rfl ?_);at_builtin;refine Kd.R_append k116 (w0:=w9) n0 rfl (.tmp 27) (.tmp 30) 61 116 (.agg #[(.int .i64 0),(.int .i64 0),(.int .i64 0),(.int .i64 0)]) 32 rfl Try.underlying61 info116 rfl (by decide) (by omega) (.slice Au l3.length cu) l3 (⟨(-1),0,0,t84⟩:S116) [.int .i64 (-1),.int .i64 0,.int .i64 0,.int .i64 t84] (fun _=>True) (fun _=>False) rfl rfl ?aP (fun _ hk=>hk.elim) ?aF ?aO ?aB ?aS ?aL ?_;(case aP=>exact k116_mkM _ _ _ (⟨(-1),0,0,t84⟩:S116));(case aF=>exact fun _ _=>trivial);(case aB=>first|exact Below.refl n0 w9|exact (Below.refl n0 w9).alloc hn9.out _);(case aO=>exact (by refine zr ?_;exact HO.out));(case aS=>first|exact hn9.out|exact Nat.le_trans hn9.out (by rw [World.size_alloc];omega));(case aL=>have:=LMc16.out;omega);intro v459 w17 ho hb hg hat;rw [Ny.out] at ho;obtain ⟨Av,cv,rfl⟩:=Kd.R_slice ho;have hbr:w17.heap[g]?=some (.cells #[.slice Au l3.length cu] 63 (0,0)):=blk_grown BKr.out hg (Kd.R_ne HO.out BKr.out (by decide));have hcr:w17.cell? ⟨g,0,none⟩=some (.slice Au l3.length cu):=(blk_cell hbr 0).trans rfl;have hfr:=blk_frozen hbr 0))
    go_ret
    exact ⟨rfl,_,blk_put (cs:=#[.slice Au l3.length cu]) hbr 0 _ rfl,Kd.R_mono (Kd.R_far (p:=⟨g,0,none⟩) (Kd.R_types ho hbr (by decide)) (fun _ hk=>hk.2) _) (fun _ _=>trivial),(HK.out.trans (KpR.grown hg (fun k e=>⟨Kd.R_base HO.out k e,Kd.R_typed HO.out k e⟩))).trans (KpR.set _ hge.out _ _)⟩
   ·rw [if_neg c16] at H;exact absurd H (by simp)
  ·rw [if_neg c10] at H;have c10b0:decide (0≤t84)=false:=decide_eq_false c10;clear c10
   (first|rw [c10b0]|(simp only [i64_w,i32_w];rw [c10b0])|skip)
   by_cases c11:(l1.length:Int)=0
   ·rw [if_pos c11] at H;have c11b0:((l1.length:Int) == 0)=true:=beq_iff_eq.mpr c11;have c11b1:((l1.length:Int) != 0)=false:=bne_eq_false_iff_eq.mpr c11;clear c11;simp only [Option.some.injEq,Prod.mk.injEq] at H;obtain ⟨rfl,rfl⟩:=H
    go_wp2
    go_ret
    exact ⟨rfl,_,BKr.out,HO.out,HK.out⟩
   ·rw [if_neg c11] at H;have c11b0:((l1.length:Int) == 0)=false:=beq_eq_false_iff_ne.mpr c11;have c11b1:((l1.length:Int) != 0)=true:=bne_iff_ne.mpr c11
    have c11b2:¬ (l1=[]):=fun h_=>c11 (by rw [h_];rfl)
    have hpos:0<(l1.length:Int):=by omega
    by_cases c16:l3.length<4398046511104
    ·rw [if_pos c16] at H;have LMc16:=zA c16;clear c16 c11;replace H:=Option.bind_eq_some_iff.mp H;obtain ⟨⟨t93,t94⟩,A180,H⟩:=H;have A18:=zA A180;clear A180;replace H:=Option.bind_eq_some_iff.mp H;obtain ⟨⟨q_,qb⟩,A95,H⟩:=H
     obtain ⟨ji,hji⟩:∃ j_:Int,wrap64 ((l3.length:Int)+1)=j_:=⟨_,rfl⟩
     obtain ⟨y_,hy_⟩:∃ y:List (S116),y=l3++[(⟨rd l1 0,ji,0,0⟩:S116)]:=⟨_,rfl⟩
     obtain ⟨lt_,hlt_⟩:∃ t_:List Int,t_=l1.drop 1:=⟨_,rfl⟩
     rw [hji,← hy_,← hlt_] at A95;simp only [← hlt_] at H;have hjiw:(IntKind.i64.wrap ((l3.length:Int)+1))=ji:=(i64_w _).trans hji;have A19:=zA A95;clear A95;have Ny:=zA hy_;clear hy_;have HC12:=zA H;clear H
     have p55:0≤(0:Int):=by omega
     obtain ⟨ad55,e55,hx55_0⟩:=Kd.at_int (HV.out w9.drew (HK1.out.trans (HK.out.trans (KpR.below (below_drew1 (Below.refl _ _)))))) 0 p55 hpos
     cases e55
     (try rw [show ((0:Int)).toNat=0 from rfl] at hx55_0);(try rw [Addr.add_zero'] at hx55_0);obtain ⟨i97,hi97,_,hsz23,_⟩:=info_parts info3;obtain ⟨A23,hcut23,hA23,hC23⟩:=print_drop_of (P:=Try.prog) (Value.int .i64) 0 29 3 .i64 Try.underlying29 hi97 hsz23 (some ad55) c1 l1 1 (by omega) (by omega) HC1.out;rw [show (1:Int).toNat=1 from rfl,← hlt_] at hcut23 hA23 hC23;have HV88:=zA (fun W' hk_=>Kd.C_of_reads (h1:=fun _=>rfl) (hA23 _ (Kd.reads_of_C (HV.out W' hk_))));have HC88:=zA hC23;have HLT:=zA hlt_;clear hA23 hC23 hi97 hsz23 hlt_;have qi55:(0<l1.length)=True:=eq_true (by omega);have qj55:((0:Int)<(l1.length:Int))=True:=eq_true hpos
     go_wp2
     replace BKr:=zA (blk_drew BKr.out);replace BKc:=zA (blk_drew BKc.out);replace HO:=zA (Kd.R_drew HO.out);replace HK:=zA (HK.out.trans (KpR.below (below_drew1 (Below.refl _ _))));clear hcr hfr hc0 hc1 hf0 hf1;refine start_ (n:=16) (S:=fun w'=>w'.cell? ⟨g,0,none⟩=some (.slice Au l3.length cu)∧w'.cell? ad55=some (.int .i64 (rd l1 0))) (ds:=[15]) #[false,false,false,false,false,false,false,false,false,false,false,false,false,false,false,false] zK rfl rfl ⟨(blk_cell BKr.out 0).trans rfl,hx55_0⟩ (fun hHeld=>?_);refine with_tabW solve_split.tab10 solve_split.bits10 (fun HT_ HW_=>?_)
     generalize w9.drew=w10 at BKr BKc HO HK hx55_0 hHeld ⊢
     refine pure_ (i:=0) (N:=some 37) (v:=?_) (a':=?_) #[true,false,false,false,false,false,false,false,false,false,false,false,false,false,false,false] rfl rfl (any_of HT_.out zK) (fun _ _ _ h=>h) (Or.inl ⟨by rfl,?_⟩) ?_ ?_;rotate_left
     ·intro w'
      go_simp
      with_reducible rfl
     rotate_left
     ·simp only [Act.put,zi,zs,zt,i64_w,i32_w];rfl
     refine pure_ (i:=1) (N:=some 38) (v:=?_) (a':=?_) #[true,true,false,false,false,false,false,false,false,false,false,false,false,false,false,false] rfl rfl (any_of HT_.out zK) (fun _ _ _ h=>h) (Or.inl ⟨by rfl,?_⟩) ?_ ?_;rotate_left
     ·intro w'
      go_simp
      with_reducible rfl
     rotate_left
     ·simp only [Act.put,zi,zs,zt,i64_w,i32_w];rfl
     refine pure_ (i:=2) (N:=some 39) (v:=?_) (a':=?_) #[true,true,true,false,false,false,false,false,false,false,false,false,false,false,false,false] rfl rfl (any_of HT_.out zK) (fun _ _ _ h=>h) (Or.inl ⟨by rfl,?_⟩) ?_ ?_;rotate_left
     ·intro w'
      go_simp
      with_reducible rfl
     rotate_left
     ·simp only [Act.put,zi,zs,zt,i64_w,i32_w];rfl
     refine pure_ (i:=3) (N:=some 40) (v:=?_) (a':=?_) #[true,true,true,true,false,false,false,false,false,false,false,false,false,false,false,false] rfl rfl (any_of HT_.out zK) (fun _ _ _ h=>h) (Or.inl ⟨by rfl,?_⟩) ?_ ?_;rotate_left
     ·intro w'
      go_simp
      with_reducible rfl
     rotate_left
     ·simp only [Act.put,zi,zs,zt,i64_w,i32_w];rfl
     refine pure_ (i:=5) (N:=some 42) (v:=?_) (a':=?_) #[true,true,true,true,false,true,false,false,false,false,false,false,false,false,false,false] rfl rfl (any_of HT_.out zK) (fun _ _ _ h=>h) (Or.inl ⟨by rfl,?_⟩) ?_ ?_;rotate_left
     ·intro w'
      go_simp
      with_reducible rfl
     rotate_left
     ·simp only [Act.put,zi,zs,zt,i64_w,i32_w];rfl
     refine pure_ (i:=6) (N:=some 43) (v:=?_) (a':=?_) #[true,true,true,true,false,true,true,false,false,false,false,false,false,false,false,false] rfl rfl (any_of HT_.out zK) (fun _ _ _ h=>h) (Or.inl ⟨by rfl,?_⟩) ?_ ?_;rotate_left
     ·intro w'
      go_simp
      with_reducible rfl
     rotate_left
     ·simp only [Act.put,zi,zs,zt,i64_w,i32_w];rfl
     refine pure_ (i:=8) (N:=some 45) (v:=?_) (a':=?_) #[true,true,true,true,false,true,true,false,true,false,false,false,false,false,false,false] rfl rfl (any_of HT_.out zK) (fun _ _ _ h=>h) (Or.inl ⟨by rfl,?_⟩) ?_ ?_;rotate_left
     ·intro w'
      go_simp
      with_reducible rfl
     rotate_left
     ·simp only [Act.put,zi,zs,zt,i64_w,i32_w];rfl
     refine pure_ (i:=9) (N:=some 46) (v:=?_) (a':=?_) #[true,true,true,true,false,true,true,false,true,true,false,false,false,false,false,false] rfl rfl (any_of HT_.out zK) (fun _ _ _ h=>h) (Or.inl ⟨by rfl,?_⟩) ?_ ?_;rotate_left
     ·intro w'
      go_simp
      with_reducible rfl
     rotate_left
     ·simp only [Act.put,zi,zs,zt,i64_w,i32_w];rfl
     refine take_ (i:=4) (N:=some 41) (v:=?_) (a':=?_) #[true,true,true,true,true,true,true,false,true,true,false,false,false,false,false,false] rfl rfl (take_ofW HT_.out HW_.out zK) (fun _ _ _ h=>h) (Or.inl ⟨by rfl,?_⟩) hHeld ?_ ?_;rotate_left
     ·rintro w' ⟨s0,s1⟩
      go_simp
      with_reducible rfl
     rotate_left
     ·simp only [Act.put,zi,zs,zt,i64_w,i32_w];rfl
     refine take_ (i:=7) (N:=some 44) (v:=?_) (a':=?_) #[true,true,true,true,true,true,true,true,true,true,false,false,false,false,false,false] rfl rfl (take_ofW HT_.out HW_.out zK) (fun _ _ _ h=>h) (Or.inl ⟨by rfl,?_⟩) hHeld ?_ ?_;rotate_left
     ·rintro w' ⟨s0,s1⟩
      go_simp
      with_reducible rfl
     rotate_left
     ·simp only [Act.put,zi,zs,zt,i64_w,i32_w];rfl
     refine pure_ (i:=10) (N:=some 47) (v:=?_) (a':=?_) #[true,true,true,true,true,true,true,true,true,true,true,false,false,false,false,false] rfl rfl (any_of HT_.out zK) (fun _ _ _ h=>h) (Or.inl ⟨by rfl,?_⟩) ?_ ?_;rotate_left
     ·intro w'
      go_simp
      with_reducible rfl
     rotate_left
     ·simp only [Act.put,zi,zs,zt,i64_w,i32_w];rfl
     refine one_ (i:=11) (N:=some 48) #[true,true,true,true,true,true,true,true,true,true,true,true,false,false,false,false] rfl rfl (one_of HT_.out zK) (by decide) (fun K hK=>?_);refine value_ (w1:=?_) (v:=?_) (by rfl) rfl ?_ ?_;rotate_left 2
     ·go_simp
      constructor
      ·rfl
      ·rfl
     refine hK.out _ _ ⟨(blk_cell (blk_alloc BKr.out _) 0).trans rfl,(cell_alloc_ hx55_0)⟩ (fun hHeld=>?_);clear hK K;refine norm_ (a':=?_) ?_ ?_;rotate_left
     ·show Act.put _ (some 48) _=_
      simp only [Act.put,zi,zs,zt,i64_w,i32_w];rfl
     refine one_ (i:=12) (N:=some 49) #[true,true,true,true,true,true,true,true,true,true,true,true,true,false,false,false] rfl rfl (one_of HT_.out zK) (by decide) (fun K hK=>?_);refine Kd.R_append_step k116 (w0:=w10) n0 (by rfl) (.tmp 41) (.tmp 48) 61 116 (.agg #[(.int .i64 0),(.int .i64 0),(.int .i64 0),(.int .i64 0)]) 32 rfl Try.underlying61 info116 rfl (by decide) (by omega) (.slice Au l3.length cu) l3 (⟨rd l1 0,ji,0,0⟩:S116) [.int .i64 (rd l1 0),.int .i64 ji,.int .i64 0,.int .i64 0] (fun _=>True) (fun _=>False) rfl rfl ?aP (fun _ hk=>hk.elim) ?aF ?aO ?aB ?aS ?aL ?_;(case aP=>exact k116_mkM _ _ _ (⟨rd l1 0,ji,0,0⟩:S116));(case aF=>exact fun _ _=>trivial);(case aB=>first|exact Below.refl n0 w10|exact (Below.refl n0 w10).alloc (Nat.le_trans HN.out HK.out.1) _);(case aO=>exact (by refine zr ?_;exact HO.out));(case aS=>first|exact Nat.le_trans HN.out HK.out.1|exact Nat.le_trans (Nat.le_trans HN.out HK.out.1) (by rw [World.size_alloc];omega));(case aL=>have:=LMc16.out;omega);intro v459 w11 ho hb hg hat;rw [← Ny.out] at ho;obtain ⟨Av,cv,rfl⟩:=Kd.R_slice ho;replace BKr:=zA (blk_grown BKr.out hg (Kd.R_ne HO.out BKr.out (by decide)));replace BKc:=zA (blk_grown BKc.out hg (Kd.R_ne HO.out BKc.out (by decide)));replace HK:=zA (HK.out.trans (KpR.grown hg (fun k e=>⟨Kd.R_base HO.out k e,Kd.R_typed HO.out k e⟩)));replace HO:=zA ho;clear ho hb hg hat hx55_0;obtain ⟨adx,ex,hx55_0⟩:=Kd.at_int (HV.out w11 (HK1.out.trans HK.out)) 0 p55 hpos
     cases ex
     (try rw [show ((0:Int)).toNat=0 from rfl] at hx55_0);(try rw [Addr.add_zero'] at hx55_0);refine hK.out _ _ ⟨(blk_cell BKr.out 0).trans rfl,hx55_0⟩ (fun hHeld=>?_);clear hK K;refine norm_ (a':=?_) ?_ ?_;rotate_left
     ·show Act.put _ (some 49) _=_
      simp only [Act.put,zi,zs,zt,i64_w,i32_w];rfl
     refine pure_ (i:=13) (N:=some 50) (v:=?_) (a':=?_) #[true,true,true,true,true,true,true,true,true,true,true,true,true,true,false,false] rfl rfl (any_of HT_.out zK) (fun _ _ _ h=>h) (Or.inl ⟨by rfl,?_⟩) ?_ ?_;rotate_left
     ·intro w'
      go_simp
      with_reducible rfl
     rotate_left
     ·simp only [Act.put,zi,zs,zt,i64_w,i32_w];rfl
     refine pure_ (i:=14) (N:=some 51) (v:=?_) (a':=?_) #[true,true,true,true,true,true,true,true,true,true,true,true,true,true,true,false] rfl rfl (any_of HT_.out zK) (fun _ _ _ h=>h) (Or.inl ⟨by rfl,?_⟩) ?_ ?_;rotate_left
     ·intro w'
      go_simp
      with_reducible rfl
     rotate_left
     ·simp only [Act.put,zi,zs,zt,i64_w,i32_w];rfl
     refine last_ (i:=15) (N:=none) #[true,true,true,true,true,true,true,true,true,true,true,true,true,true,true,true] rfl rfl (one_of HT_.out zK) (by decide) (fun K hK=>?_);have hs38:w11.cell? ⟨g,0,none⟩=some (.slice Au l3.length cu):=(blk_cell BKr.out 0).trans rfl;have hfs38:=blk_frozen BKr.out 0;refine skip_ (w1:=?_) (by rfl) rfl ?_ ?_;rotate_left
     ·go_simp
      rfl
     refine hK.out _ _ ?_;clear hK K;clear hs38 hfs38 hHeld;refine done_ (done_of HT_.out zK) ?_;have n0_:=zA (blk_put (cs:=#[.slice Au l3.length cu]) BKr.out 0 (.slice Av y_.length cv) rfl);have n1_:=zA (blk_far BKc.out NE.out (.slice Av y_.length cv) (p:=⟨g,0,none⟩));have n2_:=zA (Kd.R_mono (ok':=fun _=>True) (Kd.R_far (p:=⟨g,0,none⟩) (Kd.R_types HO.out BKr.out (by decide)) (fun _ hk=>hk.2) (.slice Av y_.length cv)) (fun _ _=>trivial));have n3_:=zA (HK.out.trans (KpR.set _ hge.out 0 (.slice Av y_.length cv)));clear BKr BKc HO HK hx55_0
     generalize w11.setCell ⟨g,0,none⟩ (.slice Av y_.length cv)=w12 at n0_ n1_ n2_ n3_ ⊢
     have BKr:=n0_;have BKc:=n1_;have HO:=n2_;have HK:=n3_;clear n0_ n1_ n2_ n3_
     go_wp2
     replace BKr:=zA (blk_drew BKr.out);replace BKc:=zA (blk_drew BKc.out);replace HO:=zA (Kd.R_drew HO.out);replace HK:=zA (HK.out.trans (KpR.below (below_drew1 (Below.refl _ _))));obtain ⟨adx,ex,hx55_0⟩:=Kd.at_int (HV.out _ (HK1.out.trans HK.out)) 0 p55 hpos
     cases ex
     (try rw [show ((0:Int)).toNat=0 from rfl] at hx55_0);(try rw [Addr.add_zero'] at hx55_0);refine start_ (n:=11) (S:=fun w'=>w'.cell? ⟨gb,0,none⟩=some (.int .i64 a2_0)∧w'.cell? ⟨gb,1,none⟩=some (.int .i64 a2_1)∧w'.cell? ad55=some (.int .i64 (rd l1 0))) (ds:=[]) #[false,false,false,false,false,false,false,false,false,false,false] zK rfl rfl ⟨(blk_cell BKc.out 0).trans rfl,(blk_cell BKc.out 1).trans rfl,hx55_0⟩ (fun hHeld=>?_);refine with_tabW solve_split.tab11 solve_split.bits11 (fun HT_ HW_=>?_)
     generalize w12.drew=w13 at BKr BKc HO HK hx55_0 hHeld ⊢
     refine pure_ (i:=0) (N:=some 52) (v:=?_) (a':=?_) #[true,false,false,false,false,false,false,false,false,false,false] rfl rfl (any_of HT_.out zK) (fun _ _ _ h=>h) (Or.inl ⟨by rfl,?_⟩) ?_ ?_;rotate_left
     ·intro w'
      go_simp
      with_reducible rfl
     rotate_left
     ·simp only [Act.put,zi,zs,zt,i64_w,i32_w];rfl
     refine pure_ (i:=1) (N:=some 53) (v:=?_) (a':=?_) #[true,true,false,false,false,false,false,false,false,false,false] rfl rfl (any_of HT_.out zK) (fun _ _ _ h=>h) (Or.inl ⟨by rfl,?_⟩) ?_ ?_;rotate_left
     ·intro w'
      go_simp
      with_reducible rfl
     rotate_left
     ·simp only [Act.put,zi,zs,zt,i64_w,i32_w];rfl
     refine pure_ (i:=2) (N:=some 54) (v:=?_) (a':=?_) #[true,true,true,false,false,false,false,false,false,false,false] rfl rfl (any_of HT_.out zK) (fun _ _ _ h=>h) (Or.inl ⟨by rfl,?_⟩) ?_ ?_;rotate_left
     ·intro w'
      go_simp
      with_reducible rfl
     rotate_left
     ·simp only [Act.put,zi,zs,zt,i64_w,i32_w];rfl
     refine pure_ (i:=4) (N:=some 56) (v:=?_) (a':=?_) #[true,true,true,false,true,false,false,false,false,false,false] rfl rfl (any_of HT_.out zK) (fun _ _ _ h=>h) (Or.inl ⟨by rfl,?_⟩) ?_ ?_;rotate_left
     ·intro w'
      go_simp
      with_reducible rfl
     rotate_left
     ·simp only [Act.put,zi,zs,zt,i64_w,i32_w];rfl
     refine pure_ (i:=5) (N:=some 57) (v:=?_) (a':=?_) #[true,true,true,false,true,true,false,false,false,false,false] rfl rfl (any_of HT_.out zK) (fun _ _ _ h=>h) (Or.inl ⟨by rfl,?_⟩) ?_ ?_;rotate_left
     ·intro w'
      go_simp
      with_reducible rfl
     rotate_left
     ·simp only [Act.put,zi,zs,zt,i64_w,i32_w];rfl
     refine pure_ (i:=8) (N:=some 60) (v:=?_) (a':=?_) #[true,true,true,false,true,true,false,false,true,false,false] rfl rfl (any_of HT_.out zK) (fun _ _ _ h=>h) (Or.inl ⟨by rfl,?_⟩) ?_ ?_;rotate_left
     ·intro w'
      go_simp
      with_reducible rfl
     rotate_left
     ·simp only [Act.put,zi,zs,zt,i64_w,i32_w];rfl
     refine take_ (i:=3) (N:=some 55) (v:=?_) (a':=?_) #[true,true,true,true,true,true,false,false,true,false,false] rfl rfl (take_ofW HT_.out HW_.out zK) (fun _ _ _ h=>h) (Or.inl ⟨by rfl,?_⟩) hHeld ?_ ?_;rotate_left
     ·rintro w' ⟨s0,s1,s2⟩
      go_simp
      with_reducible rfl
     rotate_left
     ·simp only [Act.put,zi,zs,zt,i64_w,i32_w];rfl
     refine take_ (i:=6) (N:=some 58) (v:=?_) (a':=?_) #[true,true,true,true,true,true,true,false,true,false,false] rfl rfl (take_ofW HT_.out HW_.out zK) (fun _ _ _ h=>h) (Or.inl ⟨by rfl,?_⟩) hHeld ?_ ?_;rotate_left
     ·rintro w' ⟨s0,s1,s2⟩
      go_simp
      with_reducible rfl
     rotate_left
     ·simp only [Act.put,zi,zs,zt,i64_w,i32_w];rfl
     refine one_ (i:=7) (N:=some 59) #[true,true,true,true,true,true,true,true,true,false,false] rfl rfl (one_of HT_.out zK) (by decide) (fun K hK=>?_);refine goes_ Try.func82 zK rfl #[.agg #[.int .i64 a2_0,.int .i64 a2_1],.int .i64 (rd l1 0),.int .i64 0] (by rfl) rfl rfl zM ?_
     with_reducible refine (solve_choices_with.calls a2_0 a2_1 (rd l1 0) 0 t93 t94 _ A18.out).mono ?_
     rintro e w14 ⟨rfl,hb⟩;refine ⟨_,rfl,?_⟩;replace BKr:=zA (blk_below BKr.out hb);replace BKc:=zA (blk_below BKc.out hb);replace HO:=zA (Kd.R_below HO.out hb);replace HK:=zA (HK.out.trans (KpR.below (n0:=n0) (g:=g) hb));clear hb hx55_0;obtain ⟨adx,ex,hx55_0⟩:=Kd.at_int (HV.out _ (HK1.out.trans HK.out)) 0 p55 hpos
     cases ex
     (try rw [show ((0:Int)).toNat=0 from rfl] at hx55_0);(try rw [Addr.add_zero'] at hx55_0);refine hK.out _ _ ⟨(blk_cell BKc.out 0).trans rfl,(blk_cell BKc.out 1).trans rfl,hx55_0⟩ (fun hHeld=>?_);clear hK K;refine norm_ (a':=?_) ?_ ?_;rotate_left
     ·show Act.put _ (some 59) _=_
      simp only [Act.put,zi,zs,zt,i64_w,i32_w];rfl
     refine one_ (i:=9) (N:=some 61) #[true,true,true,true,true,true,true,true,true,true,false] rfl rfl (one_of HT_.out zK) (by decide) (fun K hK=>?_);refine goes_ Try.func73 zK rfl #[.slice A0 l0.length c0,.slice A23 lt_.length (c1 - 1),.agg #[.int .i64 t93,.int .i64 t94],.pointer (some ⟨g,0,none⟩)] (by rfl) rfl rfl zM ?_
     with_reducible refine (IH.out k (by omega) A23 (c1 - 1) lt_ t93 t94 y_ (.slice Av y_.length cv) q_ qb _ ?side1 ?side2 ?side3 ?side4 ?side5 ?side6 A19.out).mono ?_
     (case side1=>exact HK1.out.trans HK.out);(case side2=>exact Nat.le_trans HN.out HK.out.1);(case side3=>exact HV88.out);(case side4=>exact HC88.out);(case side5=>exact BKr.out);(case side6=>exact HO.out);rintro e w15 ⟨rfl,u_,hbr,hor,hkk⟩;refine ⟨_,rfl,?_⟩;obtain ⟨Aq,cq,rfl⟩:=Kd.R_slice hor;replace BKr:=zA hbr;replace BKc:=zA (KpR.blk hkk BKc.out NE.out (by decide));replace HO:=zA hor;replace HK:=zA (HK.out.trans hkk);clear hbr hor hkk hx55_0;obtain ⟨adx,ex,hx55_0⟩:=Kd.at_int (HV.out _ (HK1.out.trans HK.out)) 0 p55 hpos
     cases ex
     (try rw [show ((0:Int)).toNat=0 from rfl] at hx55_0);(try rw [Addr.add_zero'] at hx55_0);refine hK.out _ _ ⟨(blk_cell BKc.out 0).trans rfl,(blk_cell BKc.out 1).trans rfl,hx55_0⟩ (fun hHeld=>?_);clear hK K;refine norm_ (a':=?_) ?_ ?_;rotate_left
     ·show Act.put _ (some 61) _=_
      simp only [Act.put,zi,zs,zt,i64_w,i32_w];rfl
     refine pure_ (i:=10) (N:=some 62) (v:=?_) (a':=?_) #[true,true,true,true,true,true,true,true,true,true,true] rfl rfl (any_of HT_.out zK) (fun _ _ _ h=>h) (Or.inl ⟨by rfl,?_⟩) ?_ ?_;rotate_left
     ·intro w'
      go_simp
      with_reducible rfl
     rotate_left
     ·simp only [Act.put,zi,zs,zt,i64_w,i32_w];rfl
     refine done_ (done_of HT_.out zK) ?_;have H:=HC12.out;clear HC12
     cases qb with
     | false=>
      simp only [Bool.false_eq_true,if_false,Option.some.injEq,Prod.mk.injEq] at H;obtain ⟨rfl,rfl⟩:=H
      go_wp2
      go_ret
      exact ⟨rfl,_,BKr.out,HO.out,HK.out⟩
     | true=>
      simp only [if_true] at H
      by_cases c30:(l3.length:Int)<(q_.length:Int)
      rotate_left
      ·rw [if_neg c30] at H;exact absurd H (by simp)
      rw [if_pos c30] at H;replace H:=Option.bind_eq_some_iff.mp H;obtain ⟨⟨t98,t99⟩,A210,H⟩:=H;have A21:=zA A210;clear A210
      obtain ⟨z_,hz_⟩:∃ y:List (S116),y=q_.set l3.length (⟨(rd_T116 q_ (l3.length:Int)).f0,(rd_T116 q_ (l3.length:Int)).f1,(q_.length:Int),(rd_T116 q_ (l3.length:Int)).f3⟩:S116):=⟨_,rfl⟩
      simp only [← hz_] at H;have A22:=zA H;have Nz:=zA hz_;clear H hz_
      have p25:0≤(l3.length:Int):=by omega
      have c30b0:decide ((l3.length:Int)<(q_.length:Int))=true:=decide_eq_true c30
      go_wp2
      replace BKr:=zA (blk_drew BKr.out);replace BKc:=zA (blk_drew BKc.out);replace HO:=zA (Kd.R_drew HO.out);replace HK:=zA (HK.out.trans (KpR.below (below_drew1 (Below.refl _ _))));obtain ⟨go25,co25,eo25,gb25,gl25,cl25,HG25⟩:=Kd.R_form HO.out (by omega)
      (first|cases eo25|(injection eo25 with ea_ en_ ec_;(first|subst ea_|(injection ea_ with ea_;subst ea_));subst ec_;clear en_))
      clear gb25 gl25 HG25;obtain ⟨ce36,hcl36,hM36,hcc36,hfr36⟩:=Kd.R_elem HO.out z116 (l3.length:Int) p25 c30;obtain rfl:=k116_openM hM36;have HP36:=Kd.R_seg HO.out (l3.length:Int) p25 c30 (seg:=[.int .i64 (q_.length:Int)]) (j:=2) hcl36 hcc36 (show 3≤4 from by decide) (x':=(⟨(rd_T116 q_ (l3.length:Int)).f0,(rd_T116 q_ (l3.length:Int)).f1,(q_.length:Int),(rd_T116 q_ (l3.length:Int)).f3⟩:S116)) (k116_mkM _ _ _ (⟨(rd_T116 q_ (l3.length:Int)).f0,(rd_T116 q_ (l3.length:Int)).f1,(q_.length:Int),(rd_T116 q_ (l3.length:Int)).f3⟩:S116)) (fun _ hk=>hk);have hx36_2:=hcc36 2 _ rfl;(try simp only [show (k116).sz=4 from rfl,Nat.mul_one,Nat.add_zero,Int.toNat_natCast] at hx36_2);have hf36_2:=hfr36 2;(try simp only [show (k116).sz=4 from rfl,Nat.mul_one,Nat.add_zero,Int.toNat_natCast] at hf36_2);clear hcl36 hcc36 hfr36 hM36;simp only [show (k116).sz=4 from rfl,Int.toNat_natCast] at HP36;have HPP:=zA HP36;clear HP36;have p25b:=eq_true p25;have q25b:=eq_true c30;have q25n:(l3.length<q_.length)=True:=eq_true (by omega);refine start_ (n:=13) (S:=fun w'=>w'.cell? ⟨g,0,none⟩=some (.slice (some ⟨go25,0,none⟩) q_.length cq)) (ds:=[12]) #[false,false,false,false,false,false,false,false,false,false,false,false,false] zK rfl rfl ((blk_cell BKr.out 0).trans rfl) (fun hHeld=>?_);refine with_tabW solve_split.tab13 solve_split.bits13 (fun HT_ HW_=>?_)
      generalize w15.drew=w16 at BKr BKc HO HK HPP hx36_2 hf36_2 hHeld ⊢
      refine pure_ (i:=0) (N:=some 63) (v:=?_) (a':=?_) #[true,false,false,false,false,false,false,false,false,false,false,false,false] rfl rfl (any_of HT_.out zK) (fun _ _ _ h=>h) (Or.inl ⟨by rfl,?_⟩) ?_ ?_;rotate_left
      ·intro w'
       go_simp
       with_reducible rfl
      rotate_left
      ·simp only [Act.put,zi,zs,zt,i64_w,i32_w];rfl
      refine pure_ (i:=1) (N:=some 64) (v:=?_) (a':=?_) #[true,true,false,false,false,false,false,false,false,false,false,false,false] rfl rfl (any_of HT_.out zK) (fun _ _ _ h=>h) (Or.inl ⟨by rfl,?_⟩) ?_ ?_;rotate_left
      ·intro w'
       go_simp
       with_reducible rfl
      rotate_left
      ·simp only [Act.put,zi,zs,zt,i64_w,i32_w];rfl
      refine pure_ (i:=2) (N:=some 65) (v:=?_) (a':=?_) #[true,true,true,false,false,false,false,false,false,false,false,false,false] rfl rfl (any_of HT_.out zK) (fun _ _ _ h=>h) (Or.inl ⟨by rfl,?_⟩) ?_ ?_;rotate_left
      ·intro w'
       go_simp
       with_reducible rfl
      rotate_left
      ·simp only [Act.put,zi,zs,zt,i64_w,i32_w];rfl
      refine pure_ (i:=4) (N:=some 67) (v:=?_) (a':=?_) #[true,true,true,false,true,false,false,false,false,false,false,false,false] rfl rfl (any_of HT_.out zK) (fun _ _ _ h=>h) (Or.inl ⟨by rfl,?_⟩) ?_ ?_;rotate_left
      ·intro w'
       go_simp
       with_reducible rfl
      rotate_left
      ·simp only [Act.put,zi,zs,zt,i64_w,i32_w];rfl
      refine pure_ (i:=5) (N:=some 68) (v:=?_) (a':=?_) #[true,true,true,false,true,true,false,false,false,false,false,false,false] rfl rfl (any_of HT_.out zK) (fun _ _ _ h=>h) (Or.inl ⟨by rfl,?_⟩) ?_ ?_;rotate_left
      ·intro w'
       go_simp
       with_reducible rfl
      rotate_left
      ·simp only [Act.put,zi,zs,zt,i64_w,i32_w];rfl
      refine pure_ (i:=6) (N:=some 69) (v:=?_) (a':=?_) #[true,true,true,false,true,true,true,false,false,false,false,false,false] rfl rfl (any_of HT_.out zK) (fun _ _ _ h=>h) (Or.inl ⟨by rfl,?_⟩) ?_ ?_;rotate_left
      ·intro w'
       go_simp
       with_reducible rfl
      rotate_left
      ·simp only [Act.put,zi,zs,zt,i64_w,i32_w];rfl
      refine pure_ (i:=7) (N:=some 70) (v:=?_) (a':=?_) #[true,true,true,false,true,true,true,true,false,false,false,false,false] rfl rfl (any_of HT_.out zK) (fun _ _ _ h=>h) (Or.inl ⟨by rfl,?_⟩) ?_ ?_;rotate_left
      ·intro w'
       go_simp
       with_reducible rfl
      rotate_left
      ·simp only [Act.put,zi,zs,zt,i64_w,i32_w];rfl
      refine take_ (i:=3) (N:=some 66) (v:=?_) (a':=?_) #[true,true,true,true,true,true,true,true,false,false,false,false,false] rfl rfl (take_ofW HT_.out HW_.out zK) (fun _ _ _ h=>h) (Or.inl ⟨by rfl,?_⟩) hHeld ?_ ?_;rotate_left
      ·rintro w' s0
       go_simp
       with_reducible rfl
      rotate_left
      ·simp only [Act.put,zi,zs,zt,i64_w,i32_w];rfl
      refine take_ (i:=8) (N:=some 71) (v:=?_) (a':=?_) #[true,true,true,true,true,true,true,true,true,false,false,false,false] rfl rfl (take_ofW HT_.out HW_.out zK) (fun _ _ _ h=>h) (Or.inl ⟨by rfl,?_⟩) hHeld ?_ ?_;rotate_left
      ·rintro w' s0
       go_simp
       with_reducible rfl
      rotate_left
      ·simp only [Act.put,zi,zs,zt,i64_w,i32_w];rfl
      refine pure_ (i:=9) (N:=some 72) (v:=?_) (a':=?_) #[true,true,true,true,true,true,true,true,true,true,false,false,false] rfl rfl (any_of HT_.out zK) (fun _ _ _ h=>h) (Or.inl ⟨by rfl,?_⟩) ?_ ?_;rotate_left
      ·intro w'
       go_simp
       with_reducible rfl
      rotate_left
      ·simp only [Act.put,zi,zs,zt,i64_w,i32_w];rfl
      refine pure_ (i:=10) (N:=some 73) (v:=?_) (a':=?_) #[true,true,true,true,true,true,true,true,true,true,true,false,false] rfl rfl (any_of HT_.out zK) (fun _ _ _ h=>h) (Or.inl ⟨by rfl,?_⟩) ?_ ?_;rotate_left
      ·intro w'
       go_simp
       with_reducible rfl
      rotate_left
      ·simp only [Act.put,zi,zs,zt,i64_w,i32_w];rfl
      refine pure_ (i:=11) (N:=some 74) (v:=?_) (a':=?_) #[true,true,true,true,true,true,true,true,true,true,true,true,false] rfl rfl (any_of HT_.out zK) (fun _ _ _ h=>h) (Or.inl ⟨by rfl,?_⟩) ?_ ?_;rotate_left
      ·intro w'
       go_simp
       with_reducible rfl
      rotate_left
      ·simp only [Act.put,zi,zs,zt,i64_w,i32_w];rfl
      refine last_ (i:=12) (N:=none) #[true,true,true,true,true,true,true,true,true,true,true,true,true] rfl rfl (one_of HT_.out zK) (by decide) (fun K hK=>?_);refine skip_ (w1:=?_) (by rfl) rfl ?_ ?_;rotate_left
      ·go_simp
       rfl
      refine hK.out _ _ ?_;clear hK K;clear hHeld;refine done_ (done_of HT_.out zK) ?_;have hgw:w16.grownBy (w16.setCell ⟨go25,l3.length * 4+2,none⟩ (.int .i64 (q_.length:Int))) (some go25):=HPP.out.2
      have hzl:z_.length=q_.length:=by rw [Nz.out,List.length_set]
      have n0_:=zA (blk_grown BKr.out hgw (Kd.R_ne HO.out BKr.out (by decide)));have n1_:=zA (blk_grown BKc.out hgw (Kd.R_ne HO.out BKc.out (by decide)))
      have n2_:Aside0 (Kd.R k116 116 (w16.setCell ⟨go25,l3.length * 4+2,none⟩ (.int .i64 (q_.length:Int))) n0 (fun _=>True) (.slice (some ⟨go25,0,none⟩) q_.length cq) z_):=⟨by rw [Nz.out];exact HPP.out.1⟩
      have n3_:=zA (HK.out.trans (KpR.grown hgw (fun k e=>by cases e;exact ⟨Kd.R_base HO.out go25 rfl,Kd.R_typed HO.out go25 rfl⟩)));clear BKr BKc HO HK HPP hgw hx36_2 hf36_2
      generalize w16.setCell ⟨go25,l3.length * 4+2,none⟩ (.int .i64 (q_.length:Int))=w17 at n0_ n1_ n2_ n3_ ⊢
      rw [← hzl] at n0_ n2_;have BKr:=n0_;have BKc:=n1_;have HO:=n2_;have HK:=n3_;clear n0_ n1_ n2_ n3_
      go_wp2
      replace BKr:=zA (blk_drew BKr.out);replace BKc:=zA (blk_drew BKc.out);replace HO:=zA (Kd.R_drew HO.out);replace HK:=zA (HK.out.trans (KpR.below (below_drew1 (Below.refl _ _))));obtain ⟨adx,ex,hx55_0⟩:=Kd.at_int (HV.out _ (HK1.out.trans HK.out)) 0 p55 hpos
      cases ex
      (try rw [show ((0:Int)).toNat=0 from rfl] at hx55_0);(try rw [Addr.add_zero'] at hx55_0);refine start_ (n:=11) (S:=fun w'=>w'.cell? ⟨gb,0,none⟩=some (.int .i64 a2_0)∧w'.cell? ⟨gb,1,none⟩=some (.int .i64 a2_1)∧w'.cell? ad55=some (.int .i64 (rd l1 0))) (ds:=[]) #[false,false,false,false,false,false,false,false,false,false,false] zK rfl rfl ⟨(blk_cell BKc.out 0).trans rfl,(blk_cell BKc.out 1).trans rfl,hx55_0⟩ (fun hHeld=>?_);refine with_tabW solve_split.tab14 solve_split.bits14 (fun HT_ HW_=>?_)
      generalize w17.drew=w18 at BKr BKc HO HK hx55_0 hHeld ⊢
      refine pure_ (i:=0) (N:=some 75) (v:=?_) (a':=?_) #[true,false,false,false,false,false,false,false,false,false,false] rfl rfl (any_of HT_.out zK) (fun _ _ _ h=>h) (Or.inl ⟨by rfl,?_⟩) ?_ ?_;rotate_left
      ·intro w'
       go_simp
       with_reducible rfl
      rotate_left
      ·simp only [Act.put,zi,zs,zt,i64_w,i32_w];rfl
      refine pure_ (i:=1) (N:=some 76) (v:=?_) (a':=?_) #[true,true,false,false,false,false,false,false,false,false,false] rfl rfl (any_of HT_.out zK) (fun _ _ _ h=>h) (Or.inl ⟨by rfl,?_⟩) ?_ ?_;rotate_left
      ·intro w'
       go_simp
       with_reducible rfl
      rotate_left
      ·simp only [Act.put,zi,zs,zt,i64_w,i32_w];rfl
      refine pure_ (i:=2) (N:=some 77) (v:=?_) (a':=?_) #[true,true,true,false,false,false,false,false,false,false,false] rfl rfl (any_of HT_.out zK) (fun _ _ _ h=>h) (Or.inl ⟨by rfl,?_⟩) ?_ ?_;rotate_left
      ·intro w'
       go_simp
       with_reducible rfl
      rotate_left
      ·simp only [Act.put,zi,zs,zt,i64_w,i32_w];rfl
      refine pure_ (i:=4) (N:=some 79) (v:=?_) (a':=?_) #[true,true,true,false,true,false,false,false,false,false,false] rfl rfl (any_of HT_.out zK) (fun _ _ _ h=>h) (Or.inl ⟨by rfl,?_⟩) ?_ ?_;rotate_left
      ·intro w'
       go_simp
       with_reducible rfl
      rotate_left
      ·simp only [Act.put,zi,zs,zt,i64_w,i32_w];rfl
      refine pure_ (i:=5) (N:=some 80) (v:=?_) (a':=?_) #[true,true,true,false,true,true,false,false,false,false,false] rfl rfl (any_of HT_.out zK) (fun _ _ _ h=>h) (Or.inl ⟨by rfl,?_⟩) ?_ ?_;rotate_left
      ·intro w'
       go_simp
       with_reducible rfl
      rotate_left
      ·simp only [Act.put,zi,zs,zt,i64_w,i32_w];rfl
      refine pure_ (i:=8) (N:=some 83) (v:=?_) (a':=?_) #[true,true,true,false,true,true,false,false,true,false,false] rfl rfl (any_of HT_.out zK) (fun _ _ _ h=>h) (Or.inl ⟨by rfl,?_⟩) ?_ ?_;rotate_left
      ·intro w'
       go_simp
       with_reducible rfl
      rotate_left
      ·simp only [Act.put,zi,zs,zt,i64_w,i32_w];rfl
      refine take_ (i:=3) (N:=some 78) (v:=?_) (a':=?_) #[true,true,true,true,true,true,false,false,true,false,false] rfl rfl (take_ofW HT_.out HW_.out zK) (fun _ _ _ h=>h) (Or.inl ⟨by rfl,?_⟩) hHeld ?_ ?_;rotate_left
      ·rintro w' ⟨s0,s1,s2⟩
       go_simp
       with_reducible rfl
      rotate_left
      ·simp only [Act.put,zi,zs,zt,i64_w,i32_w];rfl
      refine take_ (i:=6) (N:=some 81) (v:=?_) (a':=?_) #[true,true,true,true,true,true,true,false,true,false,false] rfl rfl (take_ofW HT_.out HW_.out zK) (fun _ _ _ h=>h) (Or.inl ⟨by rfl,?_⟩) hHeld ?_ ?_;rotate_left
      ·rintro w' ⟨s0,s1,s2⟩
       go_simp
       with_reducible rfl
      rotate_left
      ·simp only [Act.put,zi,zs,zt,i64_w,i32_w];rfl
      refine one_ (i:=7) (N:=some 82) #[true,true,true,true,true,true,true,true,true,false,false] rfl rfl (one_of HT_.out zK) (by decide) (fun K hK=>?_);refine goes_ Try.func82 zK rfl #[.agg #[.int .i64 a2_0,.int .i64 a2_1],.int .i64 (rd l1 0),.int .i64 1] (by rfl) rfl rfl zM ?_
      with_reducible refine (solve_choices_with.calls a2_0 a2_1 (rd l1 0) 1 t98 t99 _ A21.out).mono ?_
      rintro e w19 ⟨rfl,hb⟩;refine ⟨_,rfl,?_⟩;replace BKr:=zA (blk_below BKr.out hb);replace BKc:=zA (blk_below BKc.out hb);replace HO:=zA (Kd.R_below HO.out hb);replace HK:=zA (HK.out.trans (KpR.below (n0:=n0) (g:=g) hb));clear hb hx55_0;obtain ⟨adx,ex,hx55_0⟩:=Kd.at_int (HV.out _ (HK1.out.trans HK.out)) 0 p55 hpos
      cases ex
      (try rw [show ((0:Int)).toNat=0 from rfl] at hx55_0);(try rw [Addr.add_zero'] at hx55_0);refine hK.out _ _ ⟨(blk_cell BKc.out 0).trans rfl,(blk_cell BKc.out 1).trans rfl,hx55_0⟩ (fun hHeld=>?_);clear hK K;refine norm_ (a':=?_) ?_ ?_;rotate_left
      ·show Act.put _ (some 82) _=_
       simp only [Act.put,zi,zs,zt,i64_w,i32_w];rfl
      refine one_ (i:=9) (N:=some 84) #[true,true,true,true,true,true,true,true,true,true,false] rfl rfl (one_of HT_.out zK) (by decide) (fun K hK=>?_);refine goes_ Try.func73 zK rfl #[.slice A0 l0.length c0,.slice A23 lt_.length (c1 - 1),.agg #[.int .i64 t98,.int .i64 t99],.pointer (some ⟨g,0,none⟩)] (by rfl) rfl rfl zM ?_
      with_reducible refine (IH.out k (by omega) A23 (c1 - 1) lt_ t98 t99 z_ (.slice (some ⟨go25,0,none⟩) z_.length cq) r b _ ?side1 ?side2 ?side3 ?side4 ?side5 ?side6 A22.out).mono ?_
      (case side1=>exact HK1.out.trans HK.out);(case side2=>exact Nat.le_trans HN.out HK.out.1);(case side3=>exact HV88.out);(case side4=>exact HC88.out);(case side5=>exact BKr.out);(case side6=>exact HO.out);rintro e w20 ⟨rfl,u_,hbr,hor,hkk⟩;refine ⟨_,rfl,?_⟩;obtain ⟨Aq,cq,rfl⟩:=Kd.R_slice hor;replace BKr:=zA hbr;replace BKc:=zA (KpR.blk hkk BKc.out NE.out (by decide));replace HO:=zA hor;replace HK:=zA (HK.out.trans hkk);clear hbr hor hkk hx55_0;obtain ⟨adx,ex,hx55_0⟩:=Kd.at_int (HV.out _ (HK1.out.trans HK.out)) 0 p55 hpos
      cases ex
      (try rw [show ((0:Int)).toNat=0 from rfl] at hx55_0);(try rw [Addr.add_zero'] at hx55_0);refine hK.out _ _ ⟨(blk_cell BKc.out 0).trans rfl,(blk_cell BKc.out 1).trans rfl,hx55_0⟩ (fun hHeld=>?_);clear hK K;refine norm_ (a':=?_) ?_ ?_;rotate_left
      ·show Act.put _ (some 84) _=_
       simp only [Act.put,zi,zs,zt,i64_w,i32_w];rfl
      refine pure_ (i:=10) (N:=some 8) (v:=?_) (a':=?_) #[true,true,true,true,true,true,true,true,true,true,true] rfl rfl (any_of HT_.out zK) (fun _ _ _ h=>h) (Or.inl ⟨by rfl,?_⟩) ?_ ?_;rotate_left
      ·intro w'
       go_simp
       with_reducible rfl
      rotate_left
      ·simp only [Act.put,zi,zs,zt,i64_w,i32_w];rfl
      refine done_ (done_of HT_.out zK) ?_
      go_wp2
      go_ret
      exact ⟨rfl,_,BKr.out,HO.out,HK.out⟩
    ·rw [if_neg c16] at H;exact absurd H (by simp)
/-- What Refute says,no solution being there. -/
def solve_Refute.of (q:List (S116)×Bool):List (S116)×Int:=if q.2=true then (q.1,0) else ([],3)
def solve_Refute.f (k:Nat) (l0:List (S34)):Option ((List (S116))×Int):=(solve_valid.f k l0).bind fun t65=>(if t65=0 then ((solve_occurring.f k l0).bind fun t57=>((solve_search.f k l0 t57 0 0).bind fun s=>(if (s.length:Int)=0 then ((solve_split.f k l0 t57 0 0 []).bind fun q=>some (solve_Refute.of q)) else (some (([]:List (S116)),11))))) else (some (([]:List (S116)),t65)))
theorem solve_Refute.mono:∀ a0 k,LeO (solve_Refute.f k a0) (solve_Refute.f (k+1) a0):=by
 intro a0 k
 unfold solve_Refute.f
 repeat' first
   | (with_reducible exact solve_occurring.mono _ _)
   | (with_reducible exact solve_valid.mono _ _)
   | (with_reducible exact LeO.refl _)
   | (with_reducible exact LeO.none _)
   | (with_reducible refine LeO.ite ?_ ?_)
   | (with_reducible refine LeO.bind ?_ (fun _=>?_))
   | exact solve_search.mono _ _ _ _ _
   | exact solve_split.mono _ _ _ _ _ _
   | exact LeO.none _
   | refine LeO.ite ?_ ?_
   | refine LeO.bind ?_ (fun _=>?_)
section
attribute [local go_sem] Oper.semAt_some
set_option maxHeartbeats 8000000 in
set_option maxRecDepth 100000 in
theorem solve_Refute.calls (k:Nat) (A0:Option Addr) (c0:Nat) (l0:List (S34)) (r1:List (S116)) (r2:Int) (w:World) (hr0:Kd.C k34 w A0 l0.length l0) (hc0:l0.length≤c0) (h:solve_Refute.f k l0=some (r1,r2)) :
  Calls Try.prog 61 #[.slice A0 l0.length c0] w fun e w'=>∃ v0_:Value,e=.returned (.tuple #[.agg #[v0_],.int .i64 r2])∧Kd.R k116 116 w' w.heap.size (fun _=>True) v0_ r1∧Below w.heap.size w w':=by
 have hu63:=Try.underlying63;have hu25:=Try.underlying25;have hu96:=Try.underlying96;have HR0:=zA hr0;have HC0:=zA hc0;clear hr0 hc0;have HB:=zA (Below.refl w.heap.size w);have H:((solve_valid.f k l0).bind fun t65=>(if t65=0 then ((solve_occurring.f k l0).bind fun t57=>((solve_search.f k l0 t57 0 0).bind fun s=>(if (s.length:Int)=0 then ((solve_split.f k l0 t57 0 0 []).bind fun q=>some (solve_Refute.of q)) else (some (([]:List (S116)),11))))) else (some (([]:List (S116)),t65))))=some (r1,r2):=h;clear h;replace H:=Option.bind_eq_some_iff.mp H;obtain ⟨t65,A20,H⟩:=H;replace H:(if t65=0 then ((solve_occurring.f k l0).bind fun t57=>((solve_search.f k l0 t57 0 0).bind fun s=>(if (s.length:Int)=0 then ((solve_split.f k l0 t57 0 0 []).bind fun q=>some (solve_Refute.of q)) else (some (([]:List (S116)),11))))) else (some (([]:List (S116)),t65)))=some (r1,r2):=H;have A2:=zA A20;clear A20;have HC3:=zA H;clear H;refine (callsIn_wide (n:=5)).1 ?_;refine callsIn_of_wp_marks Try.func61 rfl trivial ?_ rfl;simp only [Try.ntmps61,List.size_toArray,List.length_cons,List.length_nil,Nat.reduceAdd,Nat.reduceSub,Array.replicate_succ,Array.replicate_zero,List.push_toArray,List.append_toArray,List.nil_append,List.cons_append];refine wpIn_wide.2 ?_
 go_upto_if 10 with (first|((with_reducible refine gate_dst (N:=2) rfl ?_);refine box_event ?hg (N:=2) ?hd (cs:=#[.slice none 0 0]) (t:=63) ?hr ?_;(case hd=>rfl);(case hg=>rfl);(case hr=>first|(go_simp;done)|(go_simp;rfl));intro gb52 hg w4 hbox hb;have BK52:=zA (hbox);have GW52:=zA (zG hg (below_size zB):w.heap.size≤gb52);have GE52:=GW52;replace HB:=zA (below_step zB hb);clear hb hbox hg)|((with_reducible refine gate_dst (N:=3) rfl ?_);refine box_event ?hg (N:=3) ?hd (cs:=#[.int .i64 0]) (t:=25) ?hr ?_;(case hd=>rfl);(case hg=>rfl);(case hr=>first|(go_simp;done)|(go_simp;rfl));intro gb53 hg w5 hbox hb;have BK53:=zA (hbox);have GW53:=zA (zG hg (below_size zB):w.heap.size≤gb53);have GE53:=GW53;have NB52_53:=zA ((zl hg (zk BK52):gb52≠gb53));have NB53_52:=zA ((zg hg (zk BK52):gb53≠gb52));replace BK52:=zA (zb BK52 hb);replace HB:=zA (below_step zB hb);clear hb hbox hg)|((with_reducible refine gate_callee (f:=50) rfl ?_);refine goesL_ (some 8) rfl rfl Try.func50 zK rfl #[.slice A0 l0.length c0] rfl zM ?_;(with_reducible refine (solve_valid.calls k _ _ l0 t65 _ ?side1 ?side2 A2.out).mono ?_);(case side1=>exact zC (Kd.C_below HR0.out HB.out));(case side2=>exact HC0.out);rintro e w6 ⟨rfl,hb⟩;refine ⟨_,rfl,?_⟩;replace BK52:=zA (zb BK52 hb);replace BK53:=zA (zb BK53 hb);replace HB:=zA (below_step zB hb);(try clear hb);(try clear hb2);(try clear hk);(try clear hi)))
 (try simp only [Act.put,zi,zs,zt]);have H:=HC3.out;clear HC3
 by_cases c7:t65=0
 ·rw [if_pos c7] at H;have c7b0:(t65 == 0)=true:=beq_iff_eq.mpr c7;have c7b1:(t65 != 0)=false:=bne_eq_false_iff_eq.mpr c7;clear c7
  (first|rw [c7b0]|(simp only [i64_w,i32_w];rw [c7b0])|skip)
  (try rw [c7b1]);replace H:=Option.bind_eq_some_iff.mp H;obtain ⟨t57,A80,H⟩:=H;replace H:((solve_search.f k l0 t57 0 0).bind fun s=>(if (s.length:Int)=0 then ((solve_split.f k l0 t57 0 0 []).bind fun q=>some (solve_Refute.of q)) else (some (([]:List (S116)),11))))=some (r1,r2):=H;have A8:=zA A80;clear A80;replace H:=Option.bind_eq_some_iff.mp H;obtain ⟨s_,AS0,H⟩:=H;have AS:=zA AS0;clear AS0;have HFS:=zA H;clear H;have HLT52:=zA (blk_lt BK52.out);have HLT53:=zA (blk_lt BK53.out)
  go_wp2_with (first
   | ((with_reducible refine gate_callee (f:=51) rfl ?_);refine goesL_ (some 14) rfl rfl Try.func51 zK rfl #[.slice A0 l0.length c0] rfl zM ?_;(with_reducible refine (solve_occurring.calls k _ _ l0 t57 _ ?side1 ?side2 A8.out).mono ?_);(case side1=>exact zC (Kd.C_below HR0.out HB.out));(case side2=>exact HC0.out);rintro e w9 ⟨v58,rfl,ho0,hb⟩;refine ⟨_,rfl,?_⟩;have hn6:=zA hb.size;have HO85:=zA ho0;have HS6:=zA (below_size HB.out);replace BK52:=zA (zb BK52 hb);replace BK53:=zA (zb BK53 hb);replace HB:=zA (below_step zB hb);clear hb ho0;obtain ⟨A58,c58,e58⟩:=Kd.R_slice HO85.out;subst e58))
  refine (solve_solutions.in_ A0 l0.length c0 A58 t57.length c58 0 0 _).mono ?_;rintro e w10 ⟨g0,g1,g2,rfl,hg0,hg1,hs0,hs1,hs2,hb⟩;have n0_:=zA (Kd.R_below HO85.out hb);have n1_:=zA (zb BK52 hb);have n2_:=zA (zb BK53 hb);have n3_:=zA (below_step zB hb);have hn9:=zA hb.size;have hc58:=zA (Kd.R_reads' HO85.out).2.1;clear BK52 BK53 HB HO85 hb hg0 hg1;have HO85:=n0_;have BK52:=n1_;have BK53:=n2_;have HB:=n3_;clear n0_ n1_ n2_ n3_
  go_wp2
  have h67:w6.heap.size≤w10.heap.size:=Nat.le_trans hn6.out hn9.out
  have hL:∀ W',KpS w.heap.size w6.heap.size w10.heap.size w10 W'→Kd.C k34 W' A0 l0.length l0:=fun W' hk=>Kd.C_kept_came k34_heap HR0.out HB.out (fun k hk=>hk.1) W' hk.kept
  have hV:∀ W',KpS w.heap.size w6.heap.size w10.heap.size w10 W'→Kd.C (Kd.int .i64) W' A58 t57.length t57:=fun W' hk=>Kd.C_kept_own (Kd.R_bound HO85.out) (fun k hk hs=>by have h_:=HS6.out;obtain ⟨_,h1,h2,_⟩:=hk;omega) W' hk.kept
  refine (wpIn_wide (n:=5)).1 ?_;refine wpIn_rangeFunc_ownF (n:=5) rfl (by omega) (gf:=71) (lb:=#[.pointer (some ⟨g0,0,none⟩),.pointer (some ⟨g1,0,none⟩),.pointer (some ⟨g2,0,none⟩)]) rfl trivial (enters_of Try.func71 zK rfl)
   (solve_solutions_stops w.heap.size w6.heap.size w10.heap.size A0 c0 l0 HC0.out A58 c58 t57 hc58.out 0 0 g0 g1 g2 k s_ w10 (Nat.le_refl _) hL hV AS.out hs0 hs1 hs2)
   KpS.trans (fun W l o o' hl h ho _=>KpS.put (Nat.le_trans HS6.out h67) W l o o' hl h ho) (Below.refl _ _) (fun _=>rfl)
   (fun (pre:List Int) (W:World)=>pre=[]∧W.heap[gb52]?=some (.cells #[.slice none 0 0] 63 (0,0))∧W.heap[gb53]?=some (.cells #[.int .i64 0] 25 (0,0))∧Kd.R (Kd.int .i64) 3 W w6.heap.size (fun _=>True) (.slice A58 t57.length c58) t57∧Below w.heap.size w W)
   (fun c pre W=>c=Code.ret∧(∃ x:Int,pre=[x])∧W.heap[gb52]?=some (.cells #[.slice none 0 0] 63 (0,0))∧W.heap[gb53]?=some (.cells #[.int .i64 11] 25 (0,0))∧Below w.heap.size w W)
   (fun s A B row hs hg hr=>by
    obtain ⟨h0,h1,h2,h4,h3⟩:=hs
    exact ⟨h0,blk_grown h1 hg (ne_row_ hr h1),blk_grown h2 hg (ne_row_ hr h2),Kd.R_mono (Kd.R_grown (Kd.R_bound h4) hg (fun k hk=>by obtain ⟨_,_,_,q,_,cs,hb⟩:=hk;exact ne_row_ hr hb)) (fun _ _=>trivial),h3.grown hg h3.size (fun k e=>Nat.le_trans HB.out.size (hr k e).1)⟩)
   (fun c s A B row hs hg hr=>by
    obtain ⟨e1,e2,h1,h2,h3⟩:=hs
    exact ⟨e1,e2,blk_grown h1 hg (ne_row_ hr h1),blk_grown h2 hg (ne_row_ hr h2),h3.grown hg h3.size (fun k e=>Nat.le_trans HB.out.size (hr k e).1)⟩)
   ⟨rfl,BK52.out,BK53.out,HO85.out,HB.out⟩
   (fun x=>{tmps:=#[.slice A0 l0.length c0,undef,.pointer (some ⟨gb52,0,none⟩),.pointer (some ⟨gb53,0,none⟩),.int .i64 t65,.slice A58 t57.length c58,undef,.slice A0 l0.length c0,.int .i64 t65,.int .i64 t65,.bool false,undef,undef,.slice A0 l0.length c0,.slice A58 t57.length c58,.slice A0 l0.length c0,.slice A58 t57.length c58,.agg #[.int .i64 0,.int .i64 0],.func (.func 71) #[] #[.pointer (some ⟨g0,0,none⟩),.pointer (some ⟨g1,0,none⟩),.pointer (some ⟨g2,0,none⟩)],.int .i64 x,undef,undef,undef,undef,undef,undef,undef,undef],defers:=[]}) ?assign ?body ?done ?stop
  case assign=>
   intro l x W K hK
   gi_wp2
   simpa using hK
  case body=>
   rintro l pre x W ⟨rfl,hb1,hb2,hRv,hbl⟩ _;have hcz0:W.cell? ⟨gb52,0,none⟩=some (.slice none 0 0):=(blk_cell hb1 0).trans rfl;have hfz0:=blk_frozen hb1 0;have hcz1:W.cell? ⟨gb53,0,none⟩=some (.int .i64 0):=(blk_cell hb2 0).trans rfl;have hfz1:=blk_frozen hb2 0;have hnb:=NB52_53.out;have hnc:=NB53_52.out
   gi_wp2
   have h2_:=two_set hb1 hb2 NB52_53.out (.slice none 0 0) (.int .i64 11);exact ⟨two_keep _ _ _ _ _,rfl,⟨x,rfl⟩,h2_.1,h2_.2,below_set (below_set hbl GE52.out) GE53.out⟩
  case done=>
   rintro D ys W hD hys ⟨rfl,hb1,hb2,hRv,hbl⟩ hK;subst hys;have H:=HFS.out;rw [if_pos (show (([]:List Int).length:Int)=0 from rfl)] at H;replace H:=Option.bind_eq_some_iff.mp H;obtain ⟨⟨q_,qb⟩,AQ0,H⟩:=H;have AQ:=zA AQ0;have HFQ:=zA (Option.some.inj H);have BK52:=zA hb1;have BK53:=zA hb2;have HKD:=zA hK;have HRV:=zA hRv;have HBL:=zA hbl;clear hK AQ0 H hb1 hb2 hRv hbl
   dsimp only
   go_wp2_with (first
    | ((with_reducible refine gate_dst (N:=6) rfl ?_);refine box_event ?hg (N:=6) ?hd (cs:=#[.slice none 0 0]) (t:=63) ?hr ?_;(case hd=>rfl);(case hg=>rfl);(case hr=>first|(go_simp;done)|(go_simp;rfl));intro gr hg w11 hbox hb;have BKR:=zA hbox;have GER:=zA (show w.heap.size≤gr by rw [hg];exact HBL.out.size);have ND:=zA (show D≠gr by rw [hg];exact Nat.ne_of_lt (Array.getElem?_eq_some_iff.1 HKD.out).1);have N52:=zA (show gb52≠gr by rw [hg];exact Nat.ne_of_lt (blk_lt BK52.out));have N53:=zA (show gb53≠gr by rw [hg];exact Nat.ne_of_lt (blk_lt BK53.out));replace BK52:=zA (blk_below BK52.out hb);replace BK53:=zA (blk_below BK53.out hb);replace HRV:=zA (Kd.R_below HRV.out hb);replace HBL:=zA (below_step HBL.out hb);replace HKD:=zA ((hb.block D (Array.getElem?_eq_some_iff.1 HKD.out).1).trans HKD.out);clear hbox hb hg))
   have hLs:∀ W',KpR w.heap.size gr w11 W'→Kd.C k34 W' A0 l0.length l0:=fun W' hk=>Kd.C_kept_came k34_heap HR0.out HBL.out (fun k hk=>hk.1) W' hk.kept
   have hVs:∀ W',KpR w.heap.size gr w11 W'→Kd.C (Kd.int .i64) W' A58 t57.length t57:=fun W' hk=>Kd.C_kept_own (Kd.R_bound HRV.out) (fun k hk hs=>by
    obtain ⟨_,_,_,q,hq,cs,hbk⟩:=hk;have hq':q∈([3]:List Nat):=hq
    have e3:q=3:=by simpa using hq'
    subst e3;obtain ⟨_,rfl|⟨cs',hc⟩⟩:=hs
    ·rw [BKR.out] at hbk;cases hbk
    ·rw [hc] at hbk;cases hbk) W' hk.kept
   have hcallS:=zA (solve_split.in_ w.heap.size gr GER.out w11 A0 c0 l0 HC0.out hLs k A58 c58 t57 0 0 [] (.slice none 0 0) q_ qb w11 (KpR.refl _) HBL.out.size hVs hc58.out BKR.out (Kd.R_nil _ _ _ _ _) AQ.out);refine hcallS.out.mono ?_;clear hcallS hLs hVs;rintro e w12 ⟨rfl,u_,hbr,hor,hkk⟩;have n0_:=zA (KpR.blk hkk BK52.out N52.out (by decide));have n1_:=zA (KpR.blk hkk BK53.out N53.out (by decide));have n4_:=zA (KpR.other hkk HKD.out ND.out rfl);have n3_:=zA (HBL.out.trans (KpR.belowN hkk HBL.out.size));clear BK52 BK53 HBL HKD HRV BKR hkk;have BK52:=n0_;have BK53:=n1_;have HBL:=n3_;have HKD:=n4_;have BKR:=zA hbr;have HOR:=zA hor;clear n0_ n1_ n3_ n4_ hbr hor;have hcz0:w12.cell? ⟨gb52,0,none⟩=some (.slice none 0 0):=(blk_cell BK52.out 0).trans rfl;have hfz0:=blk_frozen BK52.out 0;have hcz1:w12.cell? ⟨gb53,0,none⟩=some (.int .i64 0):=(blk_cell BK53.out 0).trans rfl;have hfz1:=blk_frozen BK53.out 0;have hcz2:w12.cell? ⟨gr,0,none⟩=some u_:=(blk_cell BKR.out 0).trans rfl;have hfz2:=blk_frozen BKR.out 0;have hnb:=NB52_53.out;have hnc:=NB53_52.out;have e_:=HFQ.out;obtain ⟨Ar,cr,rfl⟩:=Kd.R_slice HOR.out
   cases qb with
   | false=>
    simp only [solve_Refute.of,Bool.false_eq_true,if_false,Prod.mk.injEq] at e_;obtain ⟨rfl,rfl⟩:=e_
    go_wp2
    have h2_:=two_set BK52.out BK53.out NB52_53.out (.slice none 0 0) (.int .i64 3);have hKD:=(two_keep w12 gb52 gb53 (.slice none 0 0) (.int .i64 3)).same D _ HKD.out rfl;have hbl2:Below w.heap.size w ((w12.setCell ⟨gb52,0,none⟩ (.slice none 0 0)).setCell ⟨gb53,0,none⟩ (.int .i64 3)):=below_set (below_set HBL.out GE52.out) GE53.out;refine ⟨by simp,.inl ⟨_,_,rfl,run_takeDeferred hKD,?_⟩⟩;exact ⟨_,results_two rfl _ _ gb52 gb53 _ _ rfl rfl (run_loadVar_row _ _ 63 63 _ (0,0) _ (blk_deferred h2_.1 hKD _) Try.underlying63 rfl zK) (run_loadVar_one _ _ 25 25 _ (0,0) _ (blk_deferred h2_.2 hKD _) Try.underlying25 rfl),_,rfl,Kd.R_nil _ _ _ _ _,hbl2.grown (grownBy_putObj' _ D _) hbl2.size (fun k e=>by cases e;exact Nat.le_trans HB.out.size hD)⟩
   | true=>
    simp only [solve_Refute.of,if_true,Prod.mk.injEq] at e_;obtain ⟨rfl,rfl⟩:=e_
    go_wp2
    have h2_:=two_set BK52.out BK53.out NB52_53.out (.slice Ar q_.length cr) (.int .i64 0);have hKD:=(two_keep w12 gb52 gb53 (.slice Ar q_.length cr) (.int .i64 0)).same D _ HKD.out rfl;have hbl2:Below w.heap.size w ((w12.setCell ⟨gb52,0,none⟩ (.slice Ar q_.length cr)).setCell ⟨gb53,0,none⟩ (.int .i64 0)):=below_set (below_set HBL.out GE52.out) GE53.out
    have hR2:Kd.R k116 116 ((w12.setCell ⟨gb52,0,none⟩ (.slice Ar q_.length cr)).setCell ⟨gb53,0,none⟩ (.int .i64 0)) w.heap.size (fun _=>True) (.slice Ar q_.length cr) q_:=
     Kd.R_mono (Kd.R_far (p:=⟨gb53,0,none⟩) (Kd.R_far (p:=⟨gb52,0,none⟩) (Kd.R_types (Kd.R_types HOR.out BK52.out (by decide)) BK53.out (by decide)) (fun _ hk=>hk.1.2) _) (fun _ hk=>hk.2) _) (fun _ _=>trivial)
    refine ⟨by simp,.inl ⟨_,_,rfl,run_takeDeferred hKD,?_⟩⟩;refine ⟨_,results_two rfl _ _ gb52 gb53 _ _ rfl rfl (run_loadVar_row _ _ 63 63 _ (0,0) _ (blk_deferred h2_.1 hKD _) Try.underlying63 rfl zK) (run_loadVar_one _ _ 25 25 _ (0,0) _ (blk_deferred h2_.2 hKD _) Try.underlying25 rfl),_,rfl,?_,hbl2.grown (grownBy_putObj' _ D _) hbl2.size (fun k e=>by cases e;exact Nat.le_trans HB.out.size hD)⟩;exact Kd.R_mono (Kd.R_grown (Kd.R_bound hR2) (grownBy_putObj' _ D (.deferred none)) (fun k hk e=>by obtain ⟨_,_,_,q,_,cs,hb⟩:=hk;cases e;rw [hKD] at hb;cases hb)) (fun _ _=>trivial)
  case stop=>
   rintro D c pre W hD hSp ⟨rfl,⟨x,rfl⟩,hb1,hb2,hbl⟩ hK;refine wpIn_wide.2 ?_
   go_wp2
   obtain ⟨z_,rfl⟩:=hSp;have e_:=HFS.out;rw [if_neg (by simp;omega)] at e_;simp only [Option.some.injEq,Prod.mk.injEq] at e_;obtain ⟨rfl,rfl⟩:=e_;refine ⟨by simp,.inl ⟨_,_,rfl,run_takeDeferred hK,?_⟩⟩;exact ⟨_,results_two rfl _ _ gb52 gb53 _ _ rfl rfl (run_loadVar_row _ _ 63 63 _ (0,0) _ (blk_deferred hb1 hK _) Try.underlying63 rfl zK) (run_loadVar_one _ _ 25 25 _ (0,0) _ (blk_deferred hb2 hK _) Try.underlying25 rfl),_,rfl,Kd.R_nil _ _ _ _ _,hbl.grown (grownBy_putObj' _ D _) hbl.size (fun k e=>by cases e;exact Nat.le_trans HB.out.size hD)⟩
 ·rw [if_neg c7] at H;have c7b0:(t65 == 0)=false:=beq_eq_false_iff_ne.mpr c7;have c7b1:(t65 != 0)=true:=bne_iff_ne.mpr c7
  (first|rw [c7b0]|(simp only [i64_w,i32_w];rw [c7b0])|skip)
  (try rw [c7b1]);simp only [Option.some.injEq,Prod.mk.injEq] at H;obtain ⟨rfl,rfl⟩:=H;have hnb13:=NB52_53.out;have hnc13:=NB53_52.out;have hcz14_0:w6.cell? ⟨gb52,0,none⟩=some (.slice none 0 0):=(blk_cell BK52.out 0).trans rfl;have hfz14_0:=blk_frozen BK52.out 0;have hcz15_0:w6.cell? ⟨gb53,0,none⟩=some (.int .i64 0):=(blk_cell BK53.out 0).trans rfl;have hfz15_0:=blk_frozen BK53.out 0
  go_wp2
  have h2_:=two_set BK52.out BK53.out NB52_53.out (.slice none 0 0) (.int .i64 t65);exact ⟨_,results_two rfl _ _ gb52 gb53 _ _ rfl rfl (run_loadVar_row _ _ 63 63 _ (0,0) _ h2_.1 Try.underlying63 rfl zK) (run_loadVar_one _ _ 25 25 _ (0,0) _ h2_.2 Try.underlying25 rfl),_,rfl,Kd.R_nil _ _ _ _ _,below_set (below_set HB.out GE52.out) GE53.out⟩
end
end Go.Proofs.Ytngpkbbljnbojaa.I
