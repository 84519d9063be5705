import Derived.Test.YtkjghablbeaioaaGreatB0
import Derived.Test.YtkjghablbeaioaaGreatB10
namespace Go.Proofs.YtkjghablbeaioaaGreat.B
open Go.RowKit Go.Proofs.YtkjghablbeaioaaGreatW.PrintWords Go.Proofs.YtkjghablbeaioaaGreatW.PrintLast Go.Proofs.YtkjghablbeaioaaGreatW.PrintMore
attribute [local go_sem] max2_int min2_int max_two min_two max_three min_three max_four min_four Tryz.underlying23 Tryz.underlying3 Tryz.underlying49
set_option linter.unusedVariables false
set_option linter.unusedSimpArgs false
mutual
def ancepsref42_Sets.l0:Nat→Int→Int→List (List Int)→Int→Option ((List (List Int)))
 | 0,_,_,_,_=>none
 | k+1,x0,x1,x5,x6=>if x6<x0 then ((ancepsref42_Sets.f k (wrap64 ((wrap64 (x0 - x6)) - 1)) (wrap64 (x1 - 1))).bind fun t31=>(ancepsref42_Sets.l1 k x0 x1 x5 x6 t31 0)) else (some x5)
def ancepsref42_Sets.l1:Nat→Int→Int→List (List Int)→Int→List (List Int)→Int→Option ((List (List Int)))
 | 0,_,_,_,_,_,_=>none
 | k+1,x0,x1,x5,x6,x7,x8=>if x8<(x7.length:Int) then (ancepsref42_Sets.l2 k x0 x1 x5 x6 x7 x8 (([x6]:List Int)) 0) else (ancepsref42_Sets.l0 k x0 x1 x5 (wrap64 (x6+1)))
def ancepsref42_Sets.l2:Nat→Int→Int→List (List Int)→Int→List (List Int)→Int→List Int→Int→Option ((List (List Int)))
 | 0,_,_,_,_,_,_,_,_=>none
 | k+1,x0,x1,x5,x6,x7,x8,x9,x10=>if 0≤x8 then (if x8<(x7.length:Int) then (if x10<((rd_L1 x7 x8).length:Int) then (if 0≤x10 then (if x9.length<17592186044416 then (ancepsref42_Sets.l2 k x0 x1 x5 x6 x7 x8 (x9++[wrap64 ((wrap64 ((rd (rd_L1 x7 x8) x10)+x6))+1)]) (wrap64 (x10+1))) else (none)) else (none)) else (if x5.length<5864062014805 then (ancepsref42_Sets.l1 k x0 x1 (x5++[x9]) x6 x7 (wrap64 (x8+1))) else (none))) else (none)) else (none)
def ancepsref42_Sets.f:Nat→Int→Int→Option ((List (List Int)))
 | 0,_,_=>none
 | k+1,a0,a1=>if a1=0 then (some (([[]]:List (List Int)))) else (ancepsref42_Sets.l0 k a0 a1 ([]:List (List Int)) 0)
end
set_option maxHeartbeats 8000000 in
set_option maxRecDepth 100000 in
theorem ancepsref42_Sets.calls (k:Nat):∀ (a0:Int) (a1:Int) (r:List (List Int)) (w:World) (h:ancepsref42_Sets.f k a0 a1=some r),
  Calls Tryz.prog 43 #[.int .i64 a0,.int .i64 a1] w fun e w'=>∃ v0_:Value,e=.returned (v0_)∧Kd.S (Kd.slice 3 (Kd.int .i64)) 23 w' w.heap.size (fun _=>True) v0_ r∧Below w.heap.size w w':=by
 induction k using Nat.strongRecOn with
 | _ k ih=>
 intro a0 a1 r w h
 cases k with
 | zero=>exact absurd h (by simp [ancepsref42_Sets.f])
 | succ k=>
 simp only [ancepsref42_Sets.f] at h;have HB:=zA (Below.refl w.heap.size w);have H:(if a1=0 then (some (([[]]:List (List Int)))) else (ancepsref42_Sets.l0 k a0 a1 ([]:List (List Int)) 0))=some r:=h;clear h
 rcases ife H with ⟨c3b0,c3b1,H⟩|⟨c3,c3b0,c3b1,H⟩
 ·first|(replace H:=zyb (([[]]:List (List Int))) H;obtain ⟨y48,Ny48,H⟩:=H)|(obtain ⟨y48,hy48⟩:=zY (([[]]:List (List Int)));(try rw (occs:=.pos [1]) [← hy48] at H);have Ny48:=zA hy48;clear hy48)
  obtain rfl:=Option.some.inj H
  go_enter Tryz.func43,Tryz.ntmps43
  go_wp2_with (first|((with_reducible refine gate_dst (N:=13) rfl ?_);refine Kd.S_lit (Kd.slice 3 (Kd.int .i64)) _ 23 ?hg (N:=13) ?hd (xs:=([[]]:List (List Int))) (inner:=[.slice none 0 0]) (ok:=fun _=>True) (okp:=fun _=>True) ?hr ?hp (fun _ hk=>hk) trivial (Below.refl _ _) (Nat.le_refl _) (by simp) ?_;(case hd=>rfl);(case hg=>rfl);(case hr=>first|(go_simp;done)|(go_simp;rfl));(case hp=>exact (Reps.one (show Kd.M (Kd.slice 3 (Kd.int .i64)) _ _ _ [] [.slice none 0 0] from ⟨_,rfl,Kd.R_nil _ _ _ _ _⟩) (Reps.none _ _)));intro v95 w4 ho5 hb hg_ hnew_;clear hg_ hnew_;(first|rw [← Ny48.out] at ho5|(simp only [Int.reduceToNat] at ho5;rw [← Ny48.out] at ho5));have HO83:=zA (Kd.S_lower ho5 (below_size zB));replace HB:=zu hb;clear hb ho5))
  go_ret
  exact ⟨_,ze,by (with_reducible repeat (first|apply Kd.S_alloc|apply Kd.S_drewN|apply Kd.S_drew));exact HO83.out,zv0 HB⟩
 ·have H':=zA H;clear H
  go_enter Tryz.func43,Tryz.ntmps43
  go_wp2
  go_loopg [5,6] k (fun kq v5 v6 w'=>∃ (x5_1:List (List Int)) (x6_1:Int),v6=.int .i64 x6_1∧Aside0 (ancepsref42_Sets.l0 kq a0 a1 x5_1 x6_1=some r)∧Aside0 (kq≤k)∧Aside0 (Kd.S (Kd.slice 3 (Kd.int .i64)) 23 w' w.heap.size (fun _=>True) v5 x5_1)∧Aside0 (Below w.heap.size w w'))
  case atStart=>exact ⟨(([]:List (List Int))),(0),zT,H',⟨Nat.le_refl _⟩,⟨by first|exact Kd.S_nil _ _ _ _ _|exact Kd.N_nil _ _ _ _ _|exact Kd.V_nil _ _ _ _ _|exact Kd.Q_nil _ _ _ _ _|exact Kd.R_nil _ _ _ _ _⟩,⟨zv0 HB⟩⟩
  case round=>
   clear H'
   try clear c3
   try clear c3b0
   try clear c3b1
   obtain ⟨x5_1,x6_1,rfl,HA,HK1,HO_5,HB⟩:=hrel
   cases gk with
   | zero=>exact absurd HA.out (by simp [ancepsref42_Sets.l0])
   | succ k1=>
    have H:=HA.out;clear HA;simp only [ancepsref42_Sets.l0] at H
    rcases ifd H with ⟨c6b0,H⟩|⟨c6b0,H⟩
    ·obtain ⟨t31,A7,H⟩:=zo H;have H':=zA H;clear H
     go_wp2_with (first|((with_reducible refine gate_callee (f:=43) rfl ?_);refine zgo 25 Tryz.func43 #[.int .i64 (wrap64 ((wrap64 (a0 - x6_1)) - 1)),.int .i64 (wrap64 (a1 - 1))] ?_;(with_reducible refine (ih k1 (by have:=HK1.out;omega) (wrap64 ((wrap64 (a0 - x6_1)) - 1)) (wrap64 (a1 - 1)) t31 _ A7.out).mono ?_);rintro e w8 ⟨v73,rfl,ho0,hb⟩;refine ⟨_,rfl,?_⟩;have HO84:=zA (Kd.S_lower (Kd.S_new' ho0 (Kd.S_lt (zS HO_5))) (below_size zB));replace HO_5:=zA (Kd.S_elder' (zS HO_5) (Kd.S_base ho0) hb);replace HB:=zu hb;clear hb;(try clear ho0)))
     go_loopg [5,8] k1 (fun kq v5 v8 w'=>∃ (x5_2:List (List Int)) (x8_2:Int),v8=.int .i64 x8_2∧Aside0 (ancepsref42_Sets.l1 kq a0 a1 x5_2 x6_1 t31 x8_2=some r)∧Aside0 (kq≤k1)∧Aside0 (Kd.S (Kd.slice 3 (Kd.int .i64)) 23 w' w.heap.size (fun k_=>some k_≠(v73:Value).ownBlock) v5 x5_2)∧Aside0 (Kd.S (Kd.slice 3 (Kd.int .i64)) 23 w' w.heap.size (fun k_=>some k_≠(v5:Value).ownBlock) v73 t31)∧Aside0 (Below w.heap.size w w'))
     case atStart=>exact ⟨(x5_1),(0),zT,H',⟨Nat.le_refl _⟩,⟨by (with_reducible repeat (first|apply Kd.S_alloc|apply Kd.S_drewN|apply Kd.S_drew));exact Kd.S_mono HO_5.out (fun _ hk=>hk.2)⟩,⟨by (with_reducible repeat (first|apply Kd.S_alloc|apply Kd.S_drewN|apply Kd.S_drew));exact Kd.S_mono HO84.out (fun _ hk=>hk.2)⟩,⟨zv0 HB⟩⟩
     case round=>
      clear H'
      try clear c3
      try clear c3b0
      try clear c3b1
      try clear c6
      try clear c6b0
      obtain ⟨x5_2,x8_2,rfl,HA,HK2,HO_5,HO_7,HB⟩:=hrel
      cases gk with
      | zero=>exact absurd HA.out (by simp [ancepsref42_Sets.l1])
      | succ k2=>
       have H:=HA.out;clear HA;simp only [ancepsref42_Sets.l1] at H
       rcases ifd H with ⟨c9b0,H⟩|⟨c9b0,H⟩
       ·first|(replace H:=zyb (([x6_1]:List Int)) H;obtain ⟨y46,Ny46,H⟩:=H)|(obtain ⟨y46,hy46⟩:=zY (([x6_1]:List Int));(try rw (occs:=.pos [1]) [← hy46] at H);have Ny46:=zA hy46;clear hy46)
        have H':=zA H;clear H;obtain ⟨Ao10,co10,eo10⟩:=Kd.S_slice HO_7.out;subst eo10
        go_wp2_with (first|((with_reducible refine gate_dst (N:=33) rfl ?_);refine Kd.R_lit (Kd.int .i64) _ 3 ?hg (N:=33) ?hd (xs:=([x6_1]:List Int)) (inner:=[.int .i64 x6_1]) (ok:=fun _=>True) (okp:=fun _=>True) ?hr ?hp (fun _ hk=>hk) trivial (Below.refl _ _) (Nat.le_refl _) (by simp) ?_;(case hd=>rfl);(case hg=>rfl);(case hr=>first|(go_simp;done)|(go_simp;rfl));(case hp=>exact (Reps.one (show Kd.M (Kd.int .i64) _ _ _ x6_1 [.int .i64 x6_1] from rfl) (Reps.none _ _)));intro v97 w11 ho12 hb hg_ hnew_;clear hg_ hnew_;(first|rw [← Ny46.out] at ho12|(simp only [Int.reduceToNat] at ho12;rw [← Ny46.out] at ho12));have HO85:=zA (Kd.R_lower ho12 (below_size zB));replace HO_5:=zA (Kd.S_elder' (zS HO_5) (Kd.R_base ho12) hb);replace HO_7:=zA (Kd.S_elder' (zS HO_7) (Kd.R_base ho12) hb);replace HB:=zu hb;clear hb ho12))
        go_loopg [9,10] k2 (fun kq v9 v10 w'=>∃ (x9_3:List Int) (x10_3:Int),v10=.int .i64 x10_3∧Aside0 (ancepsref42_Sets.l2 kq a0 a1 x5_2 x6_1 t31 x8_2 x9_3 x10_3=some r)∧Aside0 (kq≤k2)∧Aside0 (Kd.S (Kd.slice 3 (Kd.int .i64)) 23 w' w.heap.size (fun k_=>some k_≠((.slice Ao10 t31.length co10):Value).ownBlock∧some k_≠(v9:Value).ownBlock) u5 x5_2)∧Aside0 (Kd.S (Kd.slice 3 (Kd.int .i64)) 23 w' w.heap.size (fun k_=>some k_≠(u5:Value).ownBlock∧some k_≠(v9:Value).ownBlock) (.slice Ao10 t31.length co10) t31)∧Aside0 (Kd.R (Kd.int .i64) 3 w' w.heap.size (fun _=>True) v9 x9_3)∧Aside0 (Below w.heap.size w w'))
        case atStart=>exact ⟨(y46),(0),zT,H',⟨Nat.le_refl _⟩,⟨by (with_reducible repeat (first|apply Kd.S_alloc|apply Kd.S_drewN|apply Kd.S_drew));exact HO_5.out⟩,⟨by (with_reducible repeat (first|apply Kd.S_alloc|apply Kd.S_drewN|apply Kd.S_drew));exact HO_7.out⟩,⟨by refine zr ?_;exact HO85.out⟩,⟨zv0 HB⟩⟩
        case round=>
         clear H'
         try clear c3
         try clear c3b0
         try clear c3b1
         try clear c6
         try clear c6b0
         try clear c9
         try clear c9b0
         obtain ⟨x9_3,x10_3,rfl,HA,HK3,HO_5,HO_7,HO_9,HB⟩:=hrel
         cases gk with
         | zero=>exact absurd HA.out (by simp [ancepsref42_Sets.l2])
         | succ k3=>
          have H:=HA.out;clear HA;simp only [ancepsref42_Sets.l2] at H;obtain ⟨c13b0,H⟩:=ifd1 H;obtain ⟨c14b0,H⟩:=ifd1 H
          rcases ifd H with ⟨c15b0,H⟩|⟨c15b0,H⟩
          ·obtain ⟨c16b0,H⟩:=ifd1 H;obtain ⟨c17,H⟩:=if1 H;have LMc17:=zA c17;clear c17
           first|(replace H:=zyb (x9_3++[wrap64 ((wrap64 ((rd (rd_L1 t31 x8_2) x10_3)+x6_1))+1)]) H;obtain ⟨y50,Ny50,H⟩:=H)|(obtain ⟨y50,hy50⟩:=zY (x9_3++[wrap64 ((wrap64 ((rd (rd_L1 t31 x8_2) x10_3)+x6_1))+1)]);(try rw (occs:=.pos [1]) [← hy50] at H);have Ny50:=zA hy50;clear hy50)
           have H':=zA H;clear H;obtain ⟨p24,q24,ad24,A24_0,c24_0,e24,hx24_0,hl24_0,hi24_0⟩:=zp (at_L1 (Kd.S_reads' HO_7.out).2.2 x8_2)
           cases e24
           obtain ⟨ce24,hce24,hMe24,hcc24⟩:=Kd.S_get HO_7.out [] x8_2 p24 (by first|exact q24|exact of_decide_eq_true zh|(have e_:=(Kd.S_reads' HO_7.out).1;omega));obtain ⟨ve24_0,rfl,ge24_0⟩:=hMe24;have hv24_0:=hcc24 0 _ rfl;rw [Nat.add_zero,show ((Kd.slice 3 (Kd.int .i64))).sz=1 from rfl,Nat.mul_one] at hv24_0;replace hv24_0:=Option.some.inj (hv24_0.symm.trans hx24_0);rw [hv24_0] at ge24_0;have HL24_0:=zA (show Kd.R (Kd.int .i64) 3 _ _ _ _ (rd_L1 t31 x8_2) from ge24_0);clear hv24_0 ge24_0;clear hcc24 hce24;have HR24_0:=zA hi24_0;have HC24_0:=zA hl24_0;clear hi24_0 hl24_0;replace p24:=eq_true p24;replace q24:=eq_true q24;obtain ⟨p26,q26,ad26,A26_0,c26_0,e26,hx26_0,hl26_0,hi26_0⟩:=zp (at_L1 (Kd.S_reads' HO_7.out).2.2 x8_2)
           obtain rfl:ad24=ad26:=(by injection e26)
           obtain ⟨ce26,hce26,hMe26,hcc26⟩:=Kd.S_get HO_7.out [] x8_2 p26 (by first|exact q26|exact of_decide_eq_true zh|(have e_:=(Kd.S_reads' HO_7.out).1;omega));obtain ⟨ve26_0,rfl,ge26_0⟩:=hMe26;have hv26_0:=hcc26 0 _ rfl;rw [Nat.add_zero,show ((Kd.slice 3 (Kd.int .i64))).sz=1 from rfl,Nat.mul_one] at hv26_0;replace hv26_0:=Option.some.inj (hv26_0.symm.trans hx26_0);rw [hv26_0] at ge26_0;have HL26_0:=zA (show Kd.R (Kd.int .i64) 3 _ _ _ _ (rd_L1 t31 x8_2) from ge26_0);clear hv26_0 ge26_0;clear hcc26 hce26;have HR26_0:=zA hi26_0;have HC26_0:=zA hl26_0;clear hi26_0 hl26_0;replace p26:=eq_true p26;replace q26:=eq_true q26;have ea_:=Option.some.inj (hx24_0.symm.trans hx26_0)
           injection ea_ with ea_ en_ ec_
           subst ea_;subst ec_;clear en_;obtain ⟨p51,q51,ad51,e51,hx51_0⟩:=zp (Kd.at_int ((Kd.R_reads' HL26_0.out).2.2) x10_3)
           cases e51
           replace p51:=eq_true p51;replace q51:=eq_true q51
           go_wp2_with (first|((with_reducible refine gate_builtin (b:=.append) (xs:=#[.tmp 43,.tmp 54]) rfl ?_);at_builtin;refine Kd.R_append (Kd.int .i64) (w0:=w) w.heap.size rfl (.tmp 43) (.tmp 54) 23 3 (.int .i64 0) 8 rfl Tryz.underlying23 info3 rfl (by decide) (by omega) u9 x9_3 (wrap64 ((wrap64 ((rd (rd_L1 t31 x8_2) x10_3)+x6_1))+1)) [.int .i64 (wrap64 ((wrap64 ((rd (rd_L1 t31 x8_2) x10_3)+x6_1))+1))] (fun _=>True) (fun _=>False) rfl rfl ?aP (fun _ hk=>hk.elim) ?aF ?aO ?aB ?aS ?aL ?_;(case aP=>exact rfl);(case aB=>exact zB);(case aF=>exact (fun _ _=>trivial));(case aO=>exact (zR HO_9));(case aS=>exact (below_size zB));(case aL=>have:=LMc17.out;omega);intro v98 w18 ho hb hg hat;rw [← Ny50.out] at ho;have HO86:=zA (ho);replace HO_5:=zA (Kd.S_after (ok:=(fun k_=>some k_≠(.slice (some ad24) t31.length co10:Value).ownBlock)) (zS HO_5) hg hat);replace HO_7:=zA (Kd.S_after (ok:=(fun k_=>some k_≠(u5:Value).ownBlock)) (zS HO_7) hg hat);replace HL24_0:=zA (Kd.R_after (ok:=(fun k_=>some k_≠(u5:Value).ownBlock∧some k_≠(.slice (some ad24) t31.length co10:Value).ownBlock)) (by refine zr ?_;exact Kd.R_mono HL24_0.out (fun _ hk=>⟨⟨hk.1.1,hk.2⟩,hk.1.2⟩)) hg hat);replace HL26_0:=zA (Kd.R_after (ok:=(fun k_=>some k_≠(u5:Value).ownBlock∧some k_≠(.slice (some ad24) t31.length co10:Value).ownBlock)) (by refine zr ?_;exact Kd.R_mono HL26_0.out (fun _ hk=>⟨⟨hk.1.1,hk.2⟩,hk.1.2⟩)) hg hat);replace HB:=zA (hb);clear HO_9;clear ho hb hg hat))
           go_roundg k3
           case measure=>have:=HK1.out;have:=HK2.out;have:=HK3.out;omega
           case rel=>exact ⟨(y50),(wrap64 (x10_3+1)),zT,H',⟨by have:=HK1.out;have:=HK2.out;have:=HK3.out;omega⟩,⟨by (with_reducible repeat (first|apply Kd.S_alloc|apply Kd.S_drewN|apply Kd.S_drew));exact HO_5.out⟩,⟨by (with_reducible repeat (first|apply Kd.S_alloc|apply Kd.S_drewN|apply Kd.S_drew));exact HO_7.out⟩,⟨by refine zr ?_;exact HO86.out⟩,⟨zv0 HB⟩⟩
          ·obtain ⟨c19,H⟩:=if1 H;have LMc19:=zA c19;clear c19
           first|(replace H:=zyb (x5_2++[x9_3]) H;obtain ⟨y52,Ny52,H⟩:=H)|(obtain ⟨y52,hy52⟩:=zY (x5_2++[x9_3]);(try rw (occs:=.pos [1]) [← hy52] at H);have Ny52:=zA hy52;clear hy52)
           have H':=zA H;clear H;obtain ⟨p24,q24,ad24,A24_0,c24_0,e24,hx24_0,hl24_0,hi24_0⟩:=zp (at_L1 (Kd.S_reads' HO_7.out).2.2 x8_2)
           cases e24
           obtain ⟨ce24,hce24,hMe24,hcc24⟩:=Kd.S_get HO_7.out [] x8_2 p24 (by first|exact q24|exact of_decide_eq_true zh|(have e_:=(Kd.S_reads' HO_7.out).1;omega));obtain ⟨ve24_0,rfl,ge24_0⟩:=hMe24;have hv24_0:=hcc24 0 _ rfl;rw [Nat.add_zero,show ((Kd.slice 3 (Kd.int .i64))).sz=1 from rfl,Nat.mul_one] at hv24_0;replace hv24_0:=Option.some.inj (hv24_0.symm.trans hx24_0);rw [hv24_0] at ge24_0;have HL24_0:=zA (show Kd.R (Kd.int .i64) 3 _ _ _ _ (rd_L1 t31 x8_2) from ge24_0);clear hv24_0 ge24_0;clear hcc24 hce24;have HR24_0:=zA hi24_0;have HC24_0:=zA hl24_0;clear hi24_0 hl24_0;replace p24:=eq_true p24;replace q24:=eq_true q24;obtain ⟨Ao21,co21,eo21⟩:=Kd.R_slice HO_9.out;subst eo21
           go_wp2_with (first|((with_reducible refine gate_builtin (b:=.append) (xs:=#[.tmp 56,.tmp 58]) rfl ?_);at_builtin;refine Kd.S_append (Kd.slice 3 (Kd.int .i64)) (w0:=w) w.heap.size rfl (.tmp 56) (.tmp 58) 36 23 (.slice none 0 0) 24 rfl Tryz.underlying36 info23 rfl (by decide) (by omega) u5 x5_2 x9_3 [.slice Ao21 x9_3.length co21] (fun k_=>some k_≠(.slice (some ad24) t31.length co10:Value).ownBlock) (fun k_=>some k_=(.slice Ao21 x9_3.length co21:Value).ownBlock) rfl rfl ?aP (fun k_ hk_=>((Kd.R_mono (ok':=fun k_=>((fun k_=>some k_≠(.slice (some ad24) t31.length co10:Value).ownBlock)) k_∧some k_≠(u5:Value).ownBlock) (Kd.R_apart' (Kd.R_apart' (HO_9.out) (Kd.S_typed HO_7.out) (by decide)) (Kd.S_typed HO_5.out) (by decide)) (fun k_ hk=>⟨hk.1.2,hk.2⟩))).1 k_ hk_.symm) ?aF ?aO ?aB ?aS ?aL ?_;(case aP=>exact Kd.M_row (Kd.R_mono (Kd.R_tight rfl (Kd.R_mono (ok':=fun k_=>((fun k_=>some k_≠(.slice (some ad24) t31.length co10:Value).ownBlock)) k_∧some k_≠(u5:Value).ownBlock) (Kd.R_apart' (Kd.R_apart' (HO_9.out) (Kd.S_typed HO_7.out) (by decide)) (Kd.S_typed HO_5.out) (by decide)) (fun k_ hk=>⟨hk.1.2,hk.2⟩))) (fun _ h_=>h_)));(case aB=>exact zB);(case aF=>exact (fun k_ hk=>Kd.fresh' (Kd.S_lt (zS HO_7)) k_ hk));(case aO=>exact (by (with_reducible repeat (first|apply Kd.S_alloc|apply Kd.S_drewN|apply Kd.S_drew));exact Kd.S_mono HO_5.out (fun k_ hk=>⟨hk.1,fun e_=>hk.2 e_⟩)));(case aS=>exact (below_size zB));(case aL=>have:=LMc19.out;omega);intro v99 w20 ho hb hg hat;rw [← Ny52.out] at ho;have HO87:=zA (ho);replace HO_7:=zA (Kd.S_after (ok:=(fun k_=>some k_≠(.slice Ao21 x9_3.length co21:Value).ownBlock)) (by (with_reducible repeat (first|apply Kd.S_alloc|apply Kd.S_drewN|apply Kd.S_drew));exact Kd.S_mono HO_7.out (fun _ hk=>⟨hk.2,hk.1⟩)) hg hat);replace HL24_0:=zA (Kd.R_after (ok:=(fun k_=>some k_≠(.slice (some ad24) t31.length co10:Value).ownBlock∧some k_≠(.slice Ao21 x9_3.length co21:Value).ownBlock)) (by refine zr ?_;exact Kd.R_mono HL24_0.out (fun _ hk=>⟨⟨hk.2,hk.1.2⟩,hk.1.1⟩)) hg hat);replace HB:=zA (hb);clear HO_5 HO_9;clear ho hb hg hat))
           go_roundg k3
           case measure=>have:=HK1.out;have:=HK2.out;have:=HK3.out;omega
           case rel=>exact ⟨(y52),(wrap64 (x8_2+1)),zT,H',⟨by have:=HK1.out;have:=HK2.out;have:=HK3.out;omega⟩,⟨by (with_reducible repeat (first|apply Kd.S_alloc|apply Kd.S_drewN|apply Kd.S_drew));exact HO87.out⟩,⟨by (with_reducible repeat (first|apply Kd.S_alloc|apply Kd.S_drewN|apply Kd.S_drew));exact Kd.S_mono HO_7.out (fun _ hk=>hk.2)⟩,⟨zv0 HB⟩⟩
       ·have H':=zA H;clear H;obtain ⟨Ao22,co22,eo22⟩:=Kd.S_slice HO_7.out;subst eo22
        go_wp2
        go_roundg k2
        case measure=>have:=HK1.out;have:=HK2.out;omega
        case rel=>exact ⟨(x5_2),(wrap64 (x6_1+1)),zT,H',⟨by have:=HK1.out;have:=HK2.out;omega⟩,⟨by (with_reducible repeat (first|apply Kd.S_alloc|apply Kd.S_drewN|apply Kd.S_drew));exact Kd.S_mono HO_5.out (fun _ hk=>trivial)⟩,⟨zv0 HB⟩⟩
    ·obtain rfl:=Option.some.inj H
     go_wp2
     go_ret
     exact ⟨_,ze,by (with_reducible repeat (first|apply Kd.S_alloc|apply Kd.S_drewN|apply Kd.S_drew));exact HO_5.out,zv0 HB⟩
def ancepsref42_Without.f (l0:List Int) (a1:Int):Option (List Int):=(some (([]:List Int):List Int)).bind fun y34=>(if 0≤a1 then (if a1≤(l0.length:Int) then (if y34.length+(l0.take (a1:Int).toNat).length<17592186044416 then ((some (y34++(l0.take (a1:Int).toNat):List Int)).bind fun y35=>(if 0≤(wrap64 (a1+1)) then (if (wrap64 (a1+1))≤(l0.length:Int) then (if y35.length+(l0.drop ((wrap64 (a1+1)):Int).toNat).length<17592186044416 then (some (y35++(l0.drop ((wrap64 (a1+1)):Int).toNat))) else (none)) else (none)) else (none))) else (none)) else (none)) else (none))
def ancepsref42_Without.T1:Bool×List (List Nat×List Nat):=(true,[([],[]),([],[]),([],[]),([1,2],[1,2]),([0,3],[0,3]),([],[]),([],[]),([6],[6]),([5,7],[5,7]),([4,8,4],[4,8]),([9,9,0,1,2,3,4,5,6,7,8,9],[9])])
def ancepsref42_Without.B1:List Nat:=[0,0,0,6,15,0,0,64,224,511,1023]
theorem ancepsref42_Without.tab1:rtab .any (opsOf Tryz.f42 1)=ancepsref42_Without.T1:=by kernel_rfl
theorem ancepsref42_Without.bits1:waitsOk ancepsref42_Without.T1.2 ancepsref42_Without.B1=true:=by kernel_rfl
set_option maxHeartbeats 8000000 in
set_option maxRecDepth 100000 in
theorem ancepsref42_Without.calls (A0:Option Addr) (c0:Nat) (l0:List Int) (a1:Int) (r:List Int) (w:World) (hr0:Kd.C (Kd.int .i64) w A0 l0.length l0) (hc0:l0.length≤c0) (h:ancepsref42_Without.f l0 a1=some r) :
  Calls Tryz.prog 42 #[.slice A0 l0.length c0,.int .i64 a1] w fun e w'=>∃ v0_:Value,e=.returned (v0_)∧Kd.R (Kd.int .i64) 3 w' w.heap.size (fun _=>True) v0_ r∧Below w.heap.size w w':=by
 have HR0:=zA hr0;have HC0:=zA hc0;clear hr0 hc0;have HB:=zA (Below.refl w.heap.size w);have H:((some (([]:List Int):List Int)).bind fun y34=>(if 0≤a1 then (if a1≤(l0.length:Int) then (if y34.length+(l0.take (a1:Int).toNat).length<17592186044416 then ((some (y34++(l0.take (a1:Int).toNat):List Int)).bind fun y35=>(if 0≤(wrap64 (a1+1)) then (if (wrap64 (a1+1))≤(l0.length:Int) then (if y35.length+(l0.drop ((wrap64 (a1+1)):Int).toNat).length<17592186044416 then (some (y35++(l0.drop ((wrap64 (a1+1)):Int).toNat))) else (none)) else (none)) else (none))) else (none)) else (none)) else (none)))=some r:=h;clear h
 first|(replace H:=zyb (([]:List Int)) H;obtain ⟨y34,Ny34,H⟩:=H)|(obtain ⟨y34,hy34⟩:=zY (([]:List Int));(try rw (occs:=.pos [1]) [← hy34] at H);have Ny34:=zA hy34;clear hy34)
 obtain ⟨c3,H⟩:=if1 H;have c3b0:=eq_true c3;have c3b1:decide (0≤a1)=true:=decide_eq_true c3;clear c3;obtain ⟨c4,H⟩:=if1 H;have c4b0:=eq_true c4;have c4b1:decide (a1≤(l0.length:Int))=true:=decide_eq_true c4;clear c4;obtain ⟨c5,H⟩:=if1 H;have LMc5:=zA c5;clear c5
 first|(replace H:=zyb (y34++(l0.take (a1:Int).toNat)) H;obtain ⟨y35,Ny35,H⟩:=H)|(obtain ⟨y35,hy35⟩:=zY (y34++(l0.take (a1:Int).toNat));(try rw (occs:=.pos [1]) [← hy35] at H);have Ny35:=zA hy35;clear hy35)
 obtain ⟨ji6,hji6⟩:=zZ (wrap64 (a1+1))
 first|rw [hji6] at H|simp only [hji6] at H
 have hji6w:(IntKind.i64.wrap (a1+1))=ji6:=(i64_w _).trans hji6;obtain ⟨c7,H⟩:=if1 H;have c7b0:=eq_true c7;have c7b1:decide (0≤(ji6))=true:=decide_eq_true c7;clear c7;obtain ⟨c8,H⟩:=if1 H;have c8b0:=eq_true c8;have c8b1:decide ((ji6)≤(l0.length:Int))=true:=decide_eq_true c8;clear c8;obtain ⟨c9,H⟩:=if1 H;have LMc9:=zA c9;clear c9
 first|(replace H:=zyb (y35++(l0.drop ((ji6):Int).toNat)) H;obtain ⟨y57,Ny57,H⟩:=H)|(obtain ⟨y57,hy57⟩:=zY (y35++(l0.drop ((ji6):Int).toNat));(try rw (occs:=.pos [1]) [← hy57] at H);have Ny57:=zA hy57;clear hy57)
 obtain rfl:=Option.some.inj H
 go_enter Tryz.func42,Tryz.ntmps42
 try go_wp2
 replace HB:=zA (below_drew1 HB.out);obtain ⟨i71,hi71,_,hsz11,_⟩:=info_parts info3;obtain ⟨hcut11,hA11,hC11⟩:=print_take_of (P:=Tryz.prog) (Value.int .i64) 0 23 3 .i64 Tryz.underlying23 hi71 hsz11 A0 c0 l0 a1 (of_decide_eq_true zh) (of_decide_eq_true zh) HC0.out;have HR63:=zA (Kd.C_of_reads (h1:=fun _=>rfl) (hA11 _ (Kd.reads_of_C HR0.out)));have HC63:=zA hC11;clear hA11 hC11 hi71 hsz11;obtain ⟨i72,hi72,_,hsz12,_⟩:=info_parts info3;obtain ⟨A12,hcut12,hA12,hC12⟩:=print_drop_of (P:=Tryz.prog) (Value.int .i64) 0 23 3 .i64 Tryz.underlying23 hi72 hsz12 A0 c0 l0 (ji6) (of_decide_eq_true zh) (of_decide_eq_true zh) HC0.out;have HR65:=zA (Kd.C_of_reads (h1:=fun _=>rfl) (hA12 _ (Kd.reads_of_C HR0.out)));have HC65:=zA hC12;clear hA12 hC12 hi72 hsz12;refine start_ (n:=11) (S:=fun w'=>True) (ds:=[]) (bz 11 0) zK rfl rfl trivial (fun hHeld=>?_);refine with_tabW ancepsref42_Without.tab1 ancepsref42_Without.bits1 (fun HT_ HW_=>?_)
 generalize w.drew=w10 at HB HR63 HR65 hHeld ⊢
 refine zP 1 6 (bz 11 2) HT_ ?_;refine zP 2 7 (bz 11 6) HT_ ?_;refine zP 3 8 (bz 11 14) HT_ ?_;refine zP 5 10 (bz 11 46) HT_ ?_;refine zP 6 11 (bz 11 110) HT_ ?_;refine zP 7 12 (bz 11 238) HT_ ?_;refine zP 8 13 (bz 11 494) HT_ ?_;refine one_ (i:=0) (N:=some 5) (bz 11 495) rfl rfl (one_of HT_.out zK) (by decide) (fun K hK=>?_);refine Kd.R_lit_step (Kd.int .i64) _ 3 ?hg (N:=5) ?hd (xs:=([]:List Int)) (inner:=[]) (ok:=fun _=>True) (okp:=fun _=>True) ?hr ?hp (fun _ hk=>hk) trivial (Below.refl _ _) (Nat.le_refl _) (by simp) ?_;(case hd=>rfl);(case hg=>rfl);(case hr=>first|(go_simp;done)|(go_simp;rfl));(case hp=>exact (Reps.none _ _));intro v88 w13 ho14 hb hg_ hnew_;clear hg_ hnew_
 (first|rw [← Ny34.out] at ho14|(simp only [Int.reduceToNat] at ho14;rw [← Ny34.out] at ho14))
 have HO74:=zA (Kd.R_lower ho14 (below_size zB));replace HB:=zu hb;clear hb ho14;refine hK.out _ _ trivial (fun hHeld=>?_);clear hK K;refine norm_ (a':=?_) ?_ ?_;rotate_left
 ·show Act.put _ (some 5) _=_
  simp only [Act.put,zi,zs,zt,i64_w,i32_w];rfl
 refine one_ (i:=4) (N:=some 9) (bz 11 511) rfl rfl (one_of HT_.out zK) (by decide) (fun K hK=>?_);refine Kd.R_append_rows_step (Kd.int .i64) (w0:=w) w.heap.size (by rfl) (.tmp 5) (.tmp 8) 23 3 (.int .i64 0) 8 rfl Tryz.underlying23 info3 rfl (by decide) (by omega) v88 y34 (l0.take (a1:Int).toNat) _ _ _ (fun _=>True) (fun _=>False) rfl rfl ?aO ?aR (fun _ _ h=>h) (fun _ h=>h.elim) ?aF ?aB ?aS ?aL ?_;(case aR=>first|(rw [← show (l0.take (a1:Int).toNat).length=a1.toNat from (by rw [List.length_take];have h_:(a1:Int)≤(l0.length:Int):=of_decide_eq_true zh;omega)];(repeat (first|exact (Kd.C_below HR63.out HB.out)|(with_reducible refine Kd.C_alloc ?_ _)|(with_reducible refine Kd.C_drewN ?_ _)|(with_reducible refine Kd.C_drew ?_)));done)|((repeat (first|exact (Kd.C_below HR63.out HB.out)|(with_reducible refine Kd.C_alloc ?_ _)|(with_reducible refine Kd.C_drewN ?_ _)|(with_reducible refine Kd.C_drew ?_)));done)|(have hl_:(l0.take (a1:Int).toNat).length=a1.toNat:=(by rw [List.length_take];have h_:(a1:Int)≤(l0.length:Int):=of_decide_eq_true zh;omega);have h_:=(Kd.C_below HR63.out HB.out);rw [hl_] at h_;repeat (first|exact h_|(with_reducible refine Kd.C_alloc ?_ _)|(with_reducible refine Kd.C_drewN ?_ _)|(with_reducible refine Kd.C_drew ?_))));(case aB=>exact zB);(case aF=>exact (fun _ _=>trivial));(case aO=>exact (zR HO74));(case aS=>exact (below_size zB));(case aL=>have:=LMc5.out;have hlx_:=(show (l0.take (a1:Int).toNat).length=a1.toNat from (by rw [List.length_take];have h_:(a1:Int)≤(l0.length:Int):=of_decide_eq_true zh;omega));omega);intro v89 w15 ho hb hg hat;rw [← Ny35.out] at ho;have HO79:=zA (ho);replace HB:=zA (hb);clear HO74;clear ho hb hg hat;refine hK.out _ _ trivial (fun hHeld=>?_);clear hK K;refine norm_ (a':=?_) ?_ ?_;rotate_left
 ·show Act.put _ (some 9) _=_
  simp only [Act.put,zi,zs,zt,i64_w,i32_w];rfl
 refine one_ (i:=9) (N:=some 14) (bz 11 1023) rfl rfl (one_of HT_.out zK) (by decide) (fun K hK=>?_);refine Kd.R_append_rows_step (Kd.int .i64) (w0:=w) w.heap.size (by rfl) (.tmp 9) (.tmp 13) 23 3 (.int .i64 0) 8 rfl Tryz.underlying23 info3 rfl (by decide) (by omega) v89 y35 (l0.drop ((ji6):Int).toNat) _ _ _ (fun _=>True) (fun _=>False) rfl rfl ?aO ?aR (fun _ _ h=>h) (fun _ h=>h.elim) ?aF ?aB ?aS ?aL ?_;(case aR=>first|(rw [← show (l0.drop ((ji6):Int).toNat).length=(l0.length - (ji6).toNat) from List.length_drop];(repeat (first|exact (Kd.C_below HR65.out HB.out)|(with_reducible refine Kd.C_alloc ?_ _)|(with_reducible refine Kd.C_drewN ?_ _)|(with_reducible refine Kd.C_drew ?_)));done)|((repeat (first|exact (Kd.C_below HR65.out HB.out)|(with_reducible refine Kd.C_alloc ?_ _)|(with_reducible refine Kd.C_drewN ?_ _)|(with_reducible refine Kd.C_drew ?_)));done)|(have hl_:(l0.drop ((ji6):Int).toNat).length=(l0.length - (ji6).toNat):=List.length_drop;have h_:=(Kd.C_below HR65.out HB.out);rw [hl_] at h_;repeat (first|exact h_|(with_reducible refine Kd.C_alloc ?_ _)|(with_reducible refine Kd.C_drewN ?_ _)|(with_reducible refine Kd.C_drew ?_))));(case aB=>exact zB);(case aF=>exact (fun _ _=>trivial));(case aO=>exact (zR HO79));(case aS=>exact (below_size zB));(case aL=>have:=LMc9.out;have hlx_:=(show (l0.drop ((ji6):Int).toNat).length=(l0.length - (ji6).toNat) from List.length_drop);omega);intro v648 w16 ho hb hg hat;rw [← Ny57.out] at ho;have HO90:=zA (ho);replace HB:=zA (hb);clear HO79;clear ho hb hg hat;refine hK.out _ _ trivial (fun hHeld=>?_);clear hK K;refine norm_ (a':=?_) ?_ ?_;rotate_left
 ·show Act.put _ (some 14) _=_
  simp only [Act.put,zi,zs,zt,i64_w,i32_w];rfl
 refine zP 10 4 (bz 11 2047) HT_ ?_;refine done_ (done_of HT_.out zK) ?_
 try go_wp2
 go_ret
 exact ⟨_,by first|rfl|(simp [errW_none,errW_some] <;> rfl)|(simp only [← hji6];first|rfl|(simp [errW_none,errW_some] <;> rfl))|(simp [*,errW_none,errW_some] <;> rfl),by refine zr ?_;exact HO90.out,zv0 HB⟩
def ancepsref42_System.l0:Nat→List (S49)→List Int→List (S49)→Int→Option ((List (S49)))
 | 0,_,_,_,_=>none
 | k+1,x0,x1,x5,x6=>if x6<(x1.length:Int) then (if 0≤x6 then (if 0≤(rd x1 x6) then (if (rd x1 x6)<(x0.length:Int) then (if x5.length<2932031007402 then (ancepsref42_System.l0 k x0 x1 (x5++[(⟨(rd_T49 x0 (rd x1 x6)).f0,(rd_T49 x0 (rd x1 x6)).f1⟩:S49)]) (wrap64 (x6+1))) else (none)) else (none)) else (none)) else (none)) else (some x5)
def ancepsref42_System.f (k:Nat) (l0:List (S49)) (l1:List Int):Option ((List (S49))):=ancepsref42_System.l0 k l0 l1 ([]:List (S49)) 0
set_option maxHeartbeats 8000000 in
set_option maxRecDepth 100000 in
theorem ancepsref42_System.calls (k:Nat) (P0_:Nat→Prop) (A0:Option Addr) (c0:Nat) (l0:List (S49)) (A1:Option Addr) (c1:Nat) (l1:List Int) (r:List (S49)) (w:World) (hs0:Kd.V k49 49 w w.heap.size (fun k_=>P0_ k_) (.slice A0 l0.length c0) l0) (hr1:Kd.C (Kd.int .i64) w A1 l1.length l1) (hc1:l1.length≤c1) (h:ancepsref42_System.f k l0 l1=some r) :
  Calls Tryz.prog 40 #[.slice A0 l0.length c0,.slice A1 l1.length c1] w fun e w'=>∃ v0_:Value,e=.returned (v0_)∧Kd.N k49 49 w' w.heap.size (fun k_=>(P0_ k_∨w.heap.size≤k_)) v0_ r∧Below w.heap.size w w':=by
 have HO0:=zA (show Kd.V k49 49 w w.heap.size (fun k_=>(P0_ k_∨w.heap.size≤k_)) (.slice A0 l0.length c0) l0 from Kd.V_mono hs0 (fun k_ hk=>.inl hk));have HR1:=zA hr1;have HC1:=zA hc1;clear hr1 hc1;have HB:=zA (Below.refl w.heap.size w);have H:(ancepsref42_System.l0 k l0 l1 ([]:List (S49)) 0)=some r:=h;clear h;have H':=zA H;clear H
 go_enter Tryz.func40,Tryz.ntmps40
 go_wp2
 go_loopg [5,6] k (fun kq v5 v6 w'=>∃ (x5_1:List (S49)) (x6_1:Int),v6=.int .i64 x6_1∧Aside0 (ancepsref42_System.l0 kq l0 l1 x5_1 x6_1=some r)∧Aside0 (kq≤k)∧Aside0 (Kd.V k49 49 w' w.heap.size (fun k_=>(P0_ k_∨w.heap.size≤k_)∧some k_≠(v5:Value).ownBlock) (.slice A0 l0.length c0) l0)∧Aside0 (Kd.N k49 49 w' w.heap.size (fun k_=>(P0_ k_∨w.heap.size≤k_)) v5 x5_1)∧Aside0 (Below w.heap.size w w'))
 case atStart=>exact ⟨(([]:List (S49))),(0),zT,H',⟨Nat.le_refl _⟩,⟨by (with_reducible repeat (first|apply Kd.V_alloc|apply Kd.V_drewN|apply Kd.V_drew));exact Kd.V_mono HO0.out (fun _ hk=>⟨hk,(by simp [Value.ownBlock])⟩)⟩,⟨by first|exact Kd.S_nil _ _ _ _ _|exact Kd.N_nil _ _ _ _ _|exact Kd.V_nil _ _ _ _ _|exact Kd.Q_nil _ _ _ _ _|exact Kd.R_nil _ _ _ _ _⟩,⟨zv0 HB⟩⟩
 case round=>
  clear H';obtain ⟨x5_1,x6_1,rfl,HA,HK1,HO_0,HO_5,HB⟩:=hrel
  cases gk with
  | zero=>exact absurd HA.out (by simp [ancepsref42_System.l0])
  | succ k1=>
   have H:=HA.out;clear HA;simp only [ancepsref42_System.l0] at H
   rcases ifd H with ⟨c3b0,H⟩|⟨c3b0,H⟩
   ·obtain ⟨c4b0,H⟩:=ifd1 H;obtain ⟨c5b0,H⟩:=ifd1 H;obtain ⟨c6b0,H⟩:=ifd1 H;obtain ⟨c7,H⟩:=if1 H;have LMc7:=zA c7;clear c7
    first|(replace H:=zyb (x5_1++[(⟨(rd_T49 l0 (rd l1 x6_1)).f0,(rd_T49 l0 (rd l1 x6_1)).f1⟩:S49)]) H;obtain ⟨y53,Ny53,H⟩:=H)|(obtain ⟨y53,hy53⟩:=zY (x5_1++[(⟨(rd_T49 l0 (rd l1 x6_1)).f0,(rd_T49 l0 (rd l1 x6_1)).f1⟩:S49)]);(try rw (occs:=.pos [1]) [← hy53] at H);have Ny53:=zA hy53;clear hy53)
    have H':=zA H;clear H;obtain ⟨p45,q45,ad45,e45,hx45_0⟩:=zp (Kd.at_int HR1.out x6_1)
    cases e45
    replace hx45_0:=zd HB hx45_0;replace p45:=eq_true p45;replace q45:=eq_true q45;obtain ⟨p25,q25,ad25,A25_0,c25_0,A25_1,c25_1,e25,hx25_0,hx25_1,hl25_0,hi25_0,hl25_1,hi25_1⟩:=zp (at_T49 (Kd.V_reads' HO_0.out).2.2 (rd l1 x6_1))
    cases e25
    obtain ⟨ce25,hce25,hMe25,hcc25⟩:=Kd.V_get HO_0.out z49 (rd l1 x6_1) p25 (by first|exact q25|exact of_decide_eq_true zh|(have e_:=(Kd.V_reads' HO_0.out).1;omega));obtain ⟨ua25_0,uc25_0,ua25_1,uc25_1,rfl,ul25_0,ge25_0,ul25_1,ge25_1⟩:=k49_openF hMe25;have hv25_0:=hcc25 0 _ rfl;rw [Nat.add_zero] at hv25_0;replace hv25_0:=Option.some.inj (hv25_0.symm.trans hx25_0)
    injection hv25_0 with hva_ hvn_ hvc_
    rw [hva_] at ge25_0;rw [hvc_] at ul25_0;have HL25_0:=zA (show Kd.V (Kd.int .i64) 3 _ w.heap.size _ _ ((rd_T49 l0 (rd l1 x6_1)).f0) from Kd.V_mk ul25_0 ge25_0);clear hva_ hvn_ hvc_ ge25_0 ul25_0;have hv25_1:=hcc25 1 _ rfl;rw [add_field _ _ 1 (by omega)] at hv25_1;replace hv25_1:=Option.some.inj (hv25_1.symm.trans hx25_1)
    injection hv25_1 with hva_ hvn_ hvc_
    rw [hva_] at ge25_1;rw [hvc_] at ul25_1;have HL25_1:=zA (show Kd.V (Kd.int .i64) 3 _ w.heap.size _ _ ((rd_T49 l0 (rd l1 x6_1)).f1) from Kd.V_mk ul25_1 ge25_1);clear hva_ hvn_ hvc_ ge25_1 ul25_1;clear hcc25 hce25;have HR25_0:=zA hi25_0;have HC25_0:=zA hl25_0;clear hi25_0 hl25_0;have HR25_1:=zA hi25_1;have HC25_1:=zA hl25_1;clear hi25_1 hl25_1;replace p25:=eq_true p25;replace q25:=eq_true q25
    go_wp2_with (first|((with_reducible refine gate_builtin (b:=.append) (xs:=#[.tmp 13,.tmp 21]) rfl ?_);at_builtin;refine Kd.N_append k49 (w0:=w) w.heap.size rfl (.tmp 13) (.tmp 21) 22 49 (.agg #[(.slice none 0 0),(.slice none 0 0)]) 48 rfl Tryz.underlying22 info49 rfl (by decide) (by omega) u5 x5_1 (⟨(rd_T49 l0 (rd l1 x6_1)).f0,(rd_T49 l0 (rd l1 x6_1)).f1⟩:S49) [.slice A25_0 ((rd_T49 l0 (rd l1 x6_1)).f0).length c25_0,.slice A25_1 ((rd_T49 l0 (rd l1 x6_1)).f1).length c25_1] (fun k_=>(P0_ k_∨w.heap.size≤k_)) (fun k_=>((fun k_=>(P0_ k_∨w.heap.size≤k_))) k_∧some k_≠(u5:Value).ownBlock) rfl rfl ?aP (fun _ hk=>hk) ?aF ?aO ?aB ?aS ?aL ?_;(case aP=>exact (k49_mkF _ _ (⟨(rd_T49 l0 (rd l1 x6_1)).f0,(rd_T49 l0 (rd l1 x6_1)).f1⟩:S49) (Kd.V_reads' (Kd.V_mono (ok':=(fun k_=>((fun k_=>(P0_ k_∨w.heap.size≤k_))) k_∧some k_≠(u5:Value).ownBlock)) (HL25_0.out) (fun k_ hk=>⟨hk.1,hk.2⟩))).2.1 (Kd.V_F (Kd.V_mono (ok':=(fun k_=>((fun k_=>(P0_ k_∨w.heap.size≤k_))) k_∧some k_≠(u5:Value).ownBlock)) (HL25_0.out) (fun k_ hk=>⟨hk.1,hk.2⟩))) (Kd.V_reads' (Kd.V_mono (ok':=(fun k_=>((fun k_=>(P0_ k_∨w.heap.size≤k_))) k_∧some k_≠(u5:Value).ownBlock)) (HL25_1.out) (fun k_ hk=>⟨hk.1,hk.2⟩))).2.1 (Kd.V_F (Kd.V_mono (ok':=(fun k_=>((fun k_=>(P0_ k_∨w.heap.size≤k_))) k_∧some k_≠(u5:Value).ownBlock)) (HL25_1.out) (fun k_ hk=>⟨hk.1,hk.2⟩)))));(case aB=>exact zB);(case aF=>exact (fun k_ hk=>(.inr (Nat.le_trans (below_size zB) hk))));(case aO=>exact (zN HO_5));(case aS=>exact (below_size zB));(case aL=>have:=LMc7.out;omega);intro v653 w8 ho hb hg hat;rw [← Ny53.out] at ho;have HO91:=zA (ho);replace HO_0:=zA (Kd.V_afterv (ok:=(fun k_=>(P0_ k_∨w.heap.size≤k_))) (zV HO_0) hg hat);replace HL25_0:=zA (Kd.V_afterv (ok:=(fun k_=>(P0_ k_∨w.heap.size≤k_))) (by (with_reducible repeat (first|apply Kd.V_alloc|apply Kd.V_drewN|apply Kd.V_drew));exact HL25_0.out) hg hat);replace HL25_1:=zA (Kd.V_afterv (ok:=(fun k_=>(P0_ k_∨w.heap.size≤k_))) (by (with_reducible repeat (first|apply Kd.V_alloc|apply Kd.V_drewN|apply Kd.V_drew));exact HL25_1.out) hg hat);replace HB:=zA (hb);clear HO_5;clear ho hb hg hat))
    go_roundg k1
    case measure=>have:=HK1.out;omega
    case rel=>exact ⟨(y53),(wrap64 (x6_1+1)),zT,H',⟨by have:=HK1.out;omega⟩,⟨by (with_reducible repeat (first|apply Kd.V_alloc|apply Kd.V_drewN|apply Kd.V_drew));exact HO_0.out⟩,⟨by (with_reducible repeat (first|apply Kd.N_alloc|apply Kd.N_drewN|apply Kd.N_drew));exact HO91.out⟩,⟨zv0 HB⟩⟩
   ·obtain rfl:=Option.some.inj H
    go_wp2
    go_ret
    exact ⟨_,ze,by (with_reducible repeat (first|apply Kd.N_alloc|apply Kd.N_drewN|apply Kd.N_drew));exact HO_5.out,zv0 HB⟩
def ancepsref38_Assignment.l0:Nat→List Int→Int→Int→Int→Option (Int)
 | 0,_,_,_,_=>none
 | k+1,x0,x1,x5,x6=>if x6<(x0.length:Int) then (if 0≤x6 then (if 0≤(rd x0 x6) then (ancepsref38_Assignment.l0 k x0 x1 (wrap64 (x5+(shl .i64 (Int.tmod (shr .i64 x1 x6) 2) (rd x0 x6)))) (wrap64 (x6+1))) else (none)) else (none)) else (some x5)
def ancepsref38_Assignment.f (k:Nat) (l0:List Int) (a1:Int):Option (Int):=ancepsref38_Assignment.l0 k l0 a1 0 0
set_option maxHeartbeats 8000000 in
set_option maxRecDepth 100000 in
theorem ancepsref38_Assignment.calls (k:Nat) (A0:Option Addr) (c0:Nat) (l0:List Int) (a1:Int) (r:Int) (w:World) (hr0:Kd.C (Kd.int .i64) w A0 l0.length l0) (hc0:l0.length≤c0) (h:ancepsref38_Assignment.f k l0 a1=some r) :
  Calls Tryz.prog 75 #[.slice A0 l0.length c0,.int .i64 a1] w fun e w'=>e=.returned (.int .i64 r)∧Drawn0 w w':=by
 have HR0:=zA hr0;have HC0:=zA hc0;clear hr0 hc0;have H:(ancepsref38_Assignment.l0 k l0 a1 0 0)=some r:=h;clear h;have H':=zA H;clear H
 go_enter Tryz.func75,Tryz.ntmps75
 go_wp2
 repeat (go_quiet (fail);try go_wp2)
 go_loopg [5,6] k (fun kq v5 v6 w'=>∃ (x5_1:Int) (x6_1:Int),v5=.int .i64 x5_1∧v6=.int .i64 x6_1∧Aside0 (ancepsref38_Assignment.l0 kq l0 a1 x5_1 x6_1=some r)∧Aside0 (kq≤k)∧Drawn0 w w')
 case atStart=>exact ⟨(0),(0),zT,zT,H',⟨Nat.le_refl _⟩,by repeat (first|exact Drawn0.refl _|apply Drawn0.step)⟩
 case round=>
  clear H';obtain ⟨x5_1,x6_1,rfl,rfl,HA,HK1,⟨m1,rfl⟩⟩:=hrel
  cases gk with
  | zero=>exact absurd HA.out (by simp [ancepsref38_Assignment.l0])
  | succ k1=>
   have H:=HA.out;clear HA;simp only [ancepsref38_Assignment.l0] at H
   rcases ifd H with ⟨c3b0,H⟩|⟨c3b0,H⟩
   ·obtain ⟨c4,H⟩:=if1 H;have c4b0:=eq_true c4;have c4b1:decide (0≤x6_1)=true:=decide_eq_true c4;clear c4;obtain ⟨ji5,hji5⟩:=zZ (shr .i64 a1 x6_1)
    first|rw [hji5] at H|simp only [hji5] at H
    have hji5_:(a1 / 2 ^ min x6_1.toNat 64)=ji5:=hji5;have hji5z:x6_1≤64→(a1 / 2 ^ x6_1.toNat)=ji5:=shr_small hji5;obtain ⟨c6,H⟩:=if1 H;have c6b0:=eq_true c6;have c6b1:decide (0≤(rd l0 x6_1))=true:=decide_eq_true c6;clear c6;obtain ⟨ji7,hji7⟩:=zZ (shl .i64 (Int.tmod (ji5) 2) (rd l0 x6_1))
    first|rw [hji7] at H|simp only [hji7] at H
    have hji7_:(IntKind.i64.wrap ((Int.tmod (ji5) 2) * 2 ^ min (rd l0 x6_1).toNat 64))=ji7:=hji7;have hji7z:(rd l0 x6_1)≤64→(IntKind.i64.wrap ((Int.tmod (ji5) 2) * 2 ^ (rd l0 x6_1).toNat))=ji7:=shl_small hji7;have hji7y:(wrap64 ((Int.tmod (ji5) 2) * 2 ^ min (rd l0 x6_1).toNat 64))=ji7:=(i64_w _).symm.trans hji7_
    have hji7x:(rd l0 x6_1)≤64→(wrap64 ((Int.tmod (ji5) 2) * 2 ^ (rd l0 x6_1).toNat))=ji7:=fun h_=>(i64_w _).symm.trans (hji7z h_)
    have H':=zA H;clear H;obtain ⟨p54,q54,ad54,e54,hx54_0⟩:=zp (Kd.at_int HR0.out x6_1)
    cases e54
    replace p54:=eq_true p54;replace q54:=eq_true q54
    go_wp2
    repeat (go_quiet (fail);try go_wp2)
    go_roundg k1
    case measure=>have:=HK1.out;omega
    case rel=>exact ⟨(wrap64 (x5_1+(ji7))),(wrap64 (x6_1+1)),(by first|rfl|(simp;done)|(simp only [← hji7] <;> (first|rfl|simp))|(simp [*];done)),zT,H',⟨by have:=HK1.out;omega⟩,by repeat (first|exact Drawn0.refl _|apply Drawn0.step)⟩
   ·obtain rfl:=Option.some.inj H
    go_wp2
    repeat (go_quiet (fail);try go_wp2)
    go_ret
    exact ⟨by first|rfl|(simp;done)|(simp [*];done),by repeat (first|exact Drawn0.refl _|apply Drawn0.step)⟩
def ancepsref38_Row.l0:Nat→List Int→Int→Int→Int→Option (Int)
 | 0,_,_,_,_=>none
 | k+1,x0,x1,x5,x6=>if x6<(x0.length:Int) then (if 0≤x6 then (if 0≤(rd x0 x6) then (ancepsref38_Row.l0 k x0 x1 (wrap64 (x5+(shl .i64 (Int.tmod (shr .i64 x1 (rd x0 x6)) 2) x6))) (wrap64 (x6+1))) else (none)) else (none)) else (some x5)
def ancepsref38_Row.f (k:Nat) (l0:List Int) (a1:Int):Option (Int):=ancepsref38_Row.l0 k l0 a1 0 0
set_option maxHeartbeats 8000000 in
set_option maxRecDepth 100000 in
theorem ancepsref38_Row.calls (k:Nat) (A0:Option Addr) (c0:Nat) (l0:List Int) (a1:Int) (r:Int) (w:World) (hr0:Kd.C (Kd.int .i64) w A0 l0.length l0) (hc0:l0.length≤c0) (h:ancepsref38_Row.f k l0 a1=some r) :
  Calls Tryz.prog 76 #[.slice A0 l0.length c0,.int .i64 a1] w fun e w'=>e=.returned (.int .i64 r)∧Drawn0 w w':=by
 have HR0:=zA hr0;have HC0:=zA hc0;clear hr0 hc0;have H:(ancepsref38_Row.l0 k l0 a1 0 0)=some r:=h;clear h;have H':=zA H;clear H
 go_enter Tryz.func76,Tryz.ntmps76
 go_wp2
 go_loopg [5,6] k (fun kq v5 v6 w'=>∃ (x5_1:Int) (x6_1:Int),v5=.int .i64 x5_1∧v6=.int .i64 x6_1∧Aside0 (ancepsref38_Row.l0 kq l0 a1 x5_1 x6_1=some r)∧Aside0 (kq≤k)∧Drawn0 w w')
 case atStart=>exact ⟨(0),(0),zT,zT,H',⟨Nat.le_refl _⟩,by repeat (first|exact Drawn0.refl _|apply Drawn0.step)⟩
 case round=>
  clear H';obtain ⟨x5_1,x6_1,rfl,rfl,HA,HK1,⟨m1,rfl⟩⟩:=hrel
  cases gk with
  | zero=>exact absurd HA.out (by simp [ancepsref38_Row.l0])
  | succ k1=>
   have H:=HA.out;clear HA;simp only [ancepsref38_Row.l0] at H
   rcases ifd H with ⟨c3b0,H⟩|⟨c3b0,H⟩
   ·obtain ⟨c4b0,H⟩:=ifd1 H;obtain ⟨c5,H⟩:=if1 H;have c5b0:=eq_true c5;have c5b1:decide (0≤(rd l0 x6_1))=true:=decide_eq_true c5;clear c5;obtain ⟨ji6,hji6⟩:=zZ (shr .i64 a1 (rd l0 x6_1))
    first|rw [hji6] at H|simp only [hji6] at H
    have hji6_:(a1 / 2 ^ min (rd l0 x6_1).toNat 64)=ji6:=hji6;have hji6z:(rd l0 x6_1)≤64→(a1 / 2 ^ (rd l0 x6_1).toNat)=ji6:=shr_small hji6;have c7b0:=eq_true (of_decide_eq_true zh:0≤x6_1);obtain ⟨ji8,hji8⟩:=zZ (shl .i64 (Int.tmod (ji6) 2) x6_1)
    first|rw [hji8] at H|simp only [hji8] at H
    have hji8_:(IntKind.i64.wrap ((Int.tmod (ji6) 2) * 2 ^ min x6_1.toNat 64))=ji8:=hji8;have hji8z:x6_1≤64→(IntKind.i64.wrap ((Int.tmod (ji6) 2) * 2 ^ x6_1.toNat))=ji8:=shl_small hji8;have hji8y:(wrap64 ((Int.tmod (ji6) 2) * 2 ^ min x6_1.toNat 64))=ji8:=(i64_w _).symm.trans hji8_
    have hji8x:x6_1≤64→(wrap64 ((Int.tmod (ji6) 2) * 2 ^ x6_1.toNat))=ji8:=fun h_=>(i64_w _).symm.trans (hji8z h_)
    have H':=zA H;clear H;obtain ⟨p55,q55,ad55,e55,hx55_0⟩:=zp (Kd.at_int HR0.out x6_1)
    cases e55
    replace p55:=eq_true p55;replace q55:=eq_true q55
    go_wp2
    go_roundg k1
    case measure=>have:=HK1.out;omega
    case rel=>exact ⟨(wrap64 (x5_1+(ji8))),(wrap64 (x6_1+1)),(by first|rfl|(simp;done)|(simp only [← hji8] <;> (first|rfl|simp))|(simp [*];done)),zT,H',⟨by have:=HK1.out;omega⟩,by repeat (first|exact Drawn0.refl _|apply Drawn0.step)⟩
   ·obtain rfl:=Option.some.inj H
    go_wp2
    go_ret
    exact ⟨by first|rfl|(simp;done)|(simp [*];done),by repeat (first|exact Drawn0.refl _|apply Drawn0.step)⟩
def ancepsref38_in.l0:Nat→List Int→Int→Int→Option (Bool)
 | 0,_,_,_=>none
 | k+1,x0,x1,x5=>if x5<(x0.length:Int) then (if 0≤x5 then (if (rd x0 x5)=x1 then (some true) else (ancepsref38_in.l0 k x0 x1 (wrap64 (x5+1)))) else (none)) else (some false)
def ancepsref38_in.f (k:Nat) (l0:List Int) (a1:Int):Option (Bool):=ancepsref38_in.l0 k l0 a1 0
set_option maxHeartbeats 8000000 in
set_option maxRecDepth 100000 in
theorem ancepsref38_in.calls (k:Nat) (A0:Option Addr) (c0:Nat) (l0:List Int) (a1:Int) (r:Bool) (w:World) (hr0:Kd.C (Kd.int .i64) w A0 l0.length l0) (hc0:l0.length≤c0) (h:ancepsref38_in.f k l0 a1=some r) :
  Calls Tryz.prog 96 #[.slice A0 l0.length c0,.int .i64 a1] w fun e w'=>e=.returned (.bool r)∧Drawn0 w w':=by
 have HR0:=zA hr0;have HC0:=zA hc0;clear hr0 hc0;have H:(ancepsref38_in.l0 k l0 a1 0)=some r:=h;clear h;have H':=zA H;clear H
 go_enter Tryz.func96,Tryz.ntmps96
 go_wp2
 go_loopg [5] k (fun kq v5 w'=>∃ (x5_1:Int),v5=.int .i64 x5_1∧Aside0 (ancepsref38_in.l0 kq l0 a1 x5_1=some r)∧Aside0 (kq≤k)∧Drawn0 w w')
 case atStart=>exact ⟨(0),zT,H',⟨Nat.le_refl _⟩,by repeat (first|exact Drawn0.refl _|apply Drawn0.step)⟩
 case round=>
  clear H';obtain ⟨x5_1,rfl,HA,HK1,⟨m1,rfl⟩⟩:=hrel
  cases gk with
  | zero=>exact absurd HA.out (by simp [ancepsref38_in.l0])
  | succ k1=>
   have H:=HA.out;clear HA;simp only [ancepsref38_in.l0] at H
   rcases ifd H with ⟨c3b0,H⟩|⟨c3b0,H⟩
   ·obtain ⟨c4b0,H⟩:=ifd1 H
    rcases ife H with ⟨c5b0,c5b1,H⟩|⟨c5,c5b0,c5b1,H⟩
    ·obtain rfl:=Option.some.inj H;obtain ⟨p33,q33,ad33,e33,hx33_0⟩:=zp (Kd.at_int HR0.out x5_1)
     cases e33
     replace p33:=eq_true p33;replace q33:=eq_true q33
     go_wp2
     go_ret
     exact ⟨by first|rfl|(simp;done)|(simp [*];done),by repeat (first|exact Drawn0.refl _|apply Drawn0.step)⟩
    ·have H':=zA H;clear H;obtain ⟨p33,q33,ad33,e33,hx33_0⟩:=zp (Kd.at_int HR0.out x5_1)
     cases e33
     replace p33:=eq_true p33;replace q33:=eq_true q33
     go_wp2
     go_roundg k1
     case measure=>have:=HK1.out;omega
     case rel=>exact ⟨(wrap64 (x5_1+1)),zT,H',⟨by have:=HK1.out;omega⟩,by repeat (first|exact Drawn0.refl _|apply Drawn0.step)⟩
   ·obtain rfl:=Option.some.inj H
    go_wp2
    go_ret
    exact ⟨by first|rfl|(simp;done)|(simp [*];done),by repeat (first|exact Drawn0.refl _|apply Drawn0.step)⟩
def ancepsref38_Holds.f (k:Nat) (l0_0:List Int) (l0_1:List Int) (a1:Int):Option (Bool):=(ancepsref38_Row.f k l0_0 a1).bind fun t47=>((ancepsref38_in.f k l0_1 t47).bind fun t58=>(some t58))
set_option maxHeartbeats 8000000 in
set_option maxRecDepth 100000 in
theorem ancepsref38_Holds.calls (k:Nat) (A0_0:Option Addr) (c0_0:Nat) (l0_0:List Int) (A0_1:Option Addr) (c0_1:Nat) (l0_1:List Int) (a1:Int) (r:Bool) (w:World) (hr0_0:Kd.C (Kd.int .i64) w A0_0 l0_0.length l0_0) (hc0_0:l0_0.length≤c0_0) (hr0_1:Kd.C (Kd.int .i64) w A0_1 l0_1.length l0_1) (hc0_1:l0_1.length≤c0_1) (h:ancepsref38_Holds.f k l0_0 l0_1 a1=some r) :
  Calls Tryz.prog 77 #[.agg #[.slice A0_0 l0_0.length c0_0,.slice A0_1 l0_1.length c0_1],.int .i64 a1] w fun e w'=>e=.returned (.bool r)∧Below w.heap.size w w':=by
 have HR0_0:=zA hr0_0;have HC0_0:=zA hc0_0;clear hr0_0 hc0_0;have HR0_1:=zA hr0_1;have HC0_1:=zA hc0_1;clear hr0_1 hc0_1;have HB:=zA (Below.refl w.heap.size w);have H:((ancepsref38_Row.f k l0_0 a1).bind fun t47=>((ancepsref38_in.f k l0_1 t47).bind fun t58=>(some t58)))=some r:=h;clear h;obtain ⟨t47,A3,H⟩:=zo H;obtain ⟨t58,A4,H⟩:=zo H;obtain rfl:=Option.some.inj H
 go_enter Tryz.func77,Tryz.ntmps77
 go_wp2_with (first|((with_reducible refine gd 2 rfl ?_);refine zx #[.slice A0_0 l0_0.length c0_0,.slice A0_1 l0_1.length c0_1] 49 ?_;intro gb30 hg w5 BK30 hb GW30 HB1;have GE30:=GW30;clear HB hb hg;have HB:=HB1;clear HB1;have hcz6_0:=zc0 BK30;have hcz6_1:=zc1 BK30;have hfz6_0:=zf BK30)|(go_at_call 76;(with_reducible refine (ancepsref38_Row.calls k _ _ l0_0 a1 t47 _ (zD HR0_0 HB) HC0_0.out A3.out).mono ?_);rintro e w' ⟨rfl,⟨nd,rfl⟩⟩;(try first|exact ⟨rfl,_,World.drewN_drewN _ _ _⟩|exact ⟨rfl,_,Eq.trans (World.drewN_drewN _ _ _) (congrArg (World.drewN _) (Nat.add_assoc _ _ _))⟩))|(go_at_call 96;(with_reducible refine (ancepsref38_in.calls k _ _ l0_1 t47 t58 _ ?side1 HC0_1.out A4.out).mono ?_);(case side1=>repeat (first|exact (Kd.C_below HR0_1.out zB)|(with_reducible refine Kd.C_alloc ?_ _)|(with_reducible refine Kd.C_drewN ?_ _)|(with_reducible refine Kd.C_drew ?_)));rintro e w' ⟨rfl,⟨nd,rfl⟩⟩;(try first|exact ⟨rfl,_,World.drewN_drewN _ _ _⟩|exact ⟨rfl,_,Eq.trans (World.drewN_drewN _ _ _) (congrArg (World.drewN _) (Nat.add_assoc _ _ _))⟩)))
 repeat (go_quiet (first|((with_reducible refine gd 2 rfl ?_);refine zx #[.slice A0_0 l0_0.length c0_0,.slice A0_1 l0_1.length c0_1] 49 ?_;intro gb30 hg w5 BK30 hb GW30 HB1;have GE30:=GW30;clear HB hb hg;have HB:=HB1;clear HB1;have hcz6_0:=zc0 BK30;have hcz6_1:=zc1 BK30;have hfz6_0:=zf BK30)|(go_at_call 76;(with_reducible refine (ancepsref38_Row.calls k _ _ l0_0 a1 t47 _ (zD HR0_0 HB) HC0_0.out A3.out).mono ?_);rintro e w' ⟨rfl,⟨nd,rfl⟩⟩;(try first|exact ⟨rfl,_,World.drewN_drewN _ _ _⟩|exact ⟨rfl,_,Eq.trans (World.drewN_drewN _ _ _) (congrArg (World.drewN _) (Nat.add_assoc _ _ _))⟩))|(go_at_call 96;(with_reducible refine (ancepsref38_in.calls k _ _ l0_1 t47 t58 _ ?side1 HC0_1.out A4.out).mono ?_);(case side1=>repeat (first|exact (Kd.C_below HR0_1.out zB)|(with_reducible refine Kd.C_alloc ?_ _)|(with_reducible refine Kd.C_drewN ?_ _)|(with_reducible refine Kd.C_drew ?_)));rintro e w' ⟨rfl,⟨nd,rfl⟩⟩;(try first|exact ⟨rfl,_,World.drewN_drewN _ _ _⟩|exact ⟨rfl,_,Eq.trans (World.drewN_drewN _ _ _) (congrArg (World.drewN _) (Nat.add_assoc _ _ _))⟩)));try go_wp2_with (first|((with_reducible refine gd 2 rfl ?_);refine zx #[.slice A0_0 l0_0.length c0_0,.slice A0_1 l0_1.length c0_1] 49 ?_;intro gb30 hg w5 BK30 hb GW30 HB1;have GE30:=GW30;clear HB hb hg;have HB:=HB1;clear HB1;have hcz6_0:=zc0 BK30;have hcz6_1:=zc1 BK30;have hfz6_0:=zf BK30)|(go_at_call 76;(with_reducible refine (ancepsref38_Row.calls k _ _ l0_0 a1 t47 _ (zD HR0_0 HB) HC0_0.out A3.out).mono ?_);rintro e w' ⟨rfl,⟨nd,rfl⟩⟩;(try first|exact ⟨rfl,_,World.drewN_drewN _ _ _⟩|exact ⟨rfl,_,Eq.trans (World.drewN_drewN _ _ _) (congrArg (World.drewN _) (Nat.add_assoc _ _ _))⟩))|(go_at_call 96;(with_reducible refine (ancepsref38_in.calls k _ _ l0_1 t47 t58 _ ?side1 HC0_1.out A4.out).mono ?_);(case side1=>repeat (first|exact (Kd.C_below HR0_1.out zB)|(with_reducible refine Kd.C_alloc ?_ _)|(with_reducible refine Kd.C_drewN ?_ _)|(with_reducible refine Kd.C_drew ?_)));rintro e w' ⟨rfl,⟨nd,rfl⟩⟩;(try first|exact ⟨rfl,_,World.drewN_drewN _ _ _⟩|exact ⟨rfl,_,Eq.trans (World.drewN_drewN _ _ _) (congrArg (World.drewN _) (Nat.add_assoc _ _ _))⟩))))
 go_ret
 exact ⟨ze,zv1 HB GE30⟩
mutual
def ancepsref40_solutions.l0:Nat→List (S49)→Int→List Int→List Int→Int→Option (List Int)
 | 0,_,_,_,_,_=>none
 | k+1,x0,x1,x5,x6,x7=>if x7<(shl .i64 1 (x5.length:Int)) then (if (x6.length:Int)<x1 then ((ancepsref38_Assignment.f k x5 x7).bind fun t41=>(ancepsref40_solutions.l1 k x0 x1 x5 x6 x7 t41 true 0)) else (some x6)) else (some x6)
def ancepsref40_solutions.l1:Nat→List (S49)→Int→List Int→List Int→Int→Int→Bool→Int→Option (List Int)
 | 0,_,_,_,_,_,_,_,_=>none
 | k+1,x0,x1,x5,x6,x7,x8,x9,x10=>if x10<(x0.length:Int) then (if x9=true then (if 0≤x10 then ((ancepsref38_Holds.f k ((rd_T49 x0 x10).f0) ((rd_T49 x0 x10).f1) x8).bind fun t61=>(ancepsref40_solutions.l1 k x0 x1 x5 x6 x7 x8 t61 (wrap64 (x10+1)))) else (none)) else (ancepsref40_solutions.l0 k x0 x1 x5 x6 (wrap64 (x7+1)))) else (if x9=true then (if x6.length<17592186044416 then (ancepsref40_solutions.l0 k x0 x1 x5 (x6++[x8]) (wrap64 (x7+1))) else (none)) else (ancepsref40_solutions.l0 k x0 x1 x5 x6 (wrap64 (x7+1))))
end
def ancepsref40_solutions.f (k:Nat) (l0:List (S49)) (a1:Int):Option (List Int):=(ancepsref40_Vars.f k l0).bind fun t28=>(ancepsref40_solutions.l0 k l0 a1 t28 ([]:List Int) 0)
set_option maxHeartbeats 8000000 in
set_option maxRecDepth 100000 in
theorem ancepsref40_solutions.calls (k:Nat) (A0:Option Addr) (c0:Nat) (l0:List (S49)) (a1:Int) (r:List Int) (w:World) (hr0:Kd.C k49 w A0 l0.length l0) (hc0:l0.length≤c0) (h:ancepsref40_solutions.f k l0 a1=some r) :
  Calls Tryz.prog 81 #[.slice A0 l0.length c0,.int .i64 a1] w fun e w'=>∃ v0_:Value,e=.returned (v0_)∧Kd.R (Kd.int .i64) 3 w' w.heap.size (fun _=>True) v0_ r∧Below w.heap.size w w':=by
 have HR0:=zA hr0;have HC0:=zA hc0;clear hr0 hc0;have HB:=zA (Below.refl w.heap.size w);have H:((ancepsref40_Vars.f k l0).bind fun t28=>(ancepsref40_solutions.l0 k l0 a1 t28 ([]:List Int) 0))=some r:=h;clear h;obtain ⟨t28,A3,H⟩:=zo H;have H':=zA H;clear H
 go_enter Tryz.func81,Tryz.ntmps81
 go_wp2_with (first|((with_reducible refine gate_callee (f:=29) rfl ?_);refine zgo 12 Tryz.func29 #[.slice A0 l0.length c0] ?_;(with_reducible refine (ancepsref40_Vars.calls k _ _ l0 t28 _ ?side1 HC0.out A3.out).mono ?_);(case side1=>repeat (first|exact HR0.out|(with_reducible refine Kd.C_alloc ?_ _)|(with_reducible refine Kd.C_drewN ?_ _)|(with_reducible refine Kd.C_drew ?_)));rintro e w4 ⟨v80,rfl,ho0,hb⟩;refine ⟨_,rfl,?_⟩;have HO92:=zA (Kd.R_lower ho0 (below_size zB));replace HB:=zu hb;clear hb;(try clear ho0)))
 go_loopg [6,7] k (fun kq v6 v7 w'=>∃ (x6_1:List Int) (x7_1:Int),v7=.int .i64 x7_1∧Aside0 (ancepsref40_solutions.l0 kq l0 a1 t28 x6_1 x7_1=some r)∧Aside0 (kq≤k)∧Aside0 (Kd.R (Kd.int .i64) 3 w' w.heap.size (fun k_=>some k_≠(v6:Value).ownBlock) v80 t28)∧Aside0 (Kd.R (Kd.int .i64) 3 w' w.heap.size (fun k_=>some k_≠(v80:Value).ownBlock) v6 x6_1)∧Aside0 (Below w.heap.size w w'))
 case atStart=>exact ⟨(([]:List Int)),(0),zT,H',⟨Nat.le_refl _⟩,⟨by refine zr ?_;exact Kd.R_mono HO92.out (fun _ hk=>(by simp [Value.ownBlock]))⟩,⟨by first|exact Kd.R_nil _ _ _ _ _|exact Kd.N_nil _ _ _ _ _|exact Kd.V_nil _ _ _ _ _|exact Kd.Q_nil _ _ _ _ _|exact Kd.S_nil _ _ _ _ _⟩,⟨zv0 HB⟩⟩
 case round=>
  clear H';obtain ⟨x6_1,x7_1,rfl,HA,HK1,HO_5,HO_6,HB⟩:=hrel
  cases gk with
  | zero=>exact absurd HA.out (by simp [ancepsref40_solutions.l0])
  | succ k1=>
   have H:=HA.out;clear HA;simp only [ancepsref40_solutions.l0] at H;obtain ⟨ji5,hji5⟩:=zZ (shl .i64 1 (t28.length:Int))
   first|rw [hji5] at H|simp only [hji5] at H
   have hji5_:(IntKind.i64.wrap (1 * 2 ^ min (t28.length:Int).toNat 64))=ji5:=hji5;have hji5z:(t28.length:Int)≤64→(IntKind.i64.wrap (1 * 2 ^ (t28.length:Int).toNat))=ji5:=shl_small hji5;have hji5p:(IntKind.i64.wrap (1 * 2 ^ min t28.length 64))=ji5:=hji5_;have hji5q:(t28.length:Int)≤64→(IntKind.i64.wrap (1 * 2 ^ t28.length))=ji5:=hji5z
   have hji5r:(IntKind.i64.wrap (2 ^ min t28.length 64))=ji5:=by have h_:=hji5p;rw [Int.one_mul] at h_;exact h_
   have hji5s:(t28.length:Int)≤64→(IntKind.i64.wrap (2 ^ t28.length))=ji5:=fun hle_=>by have h_:=hji5q hle_;rw [Int.one_mul] at h_;exact h_
   have hji5u:(IntKind.i64.wrap (2 ^ min (t28.length:Int).toNat 64))=ji5:=by have h_:=hji5_;rw [Int.one_mul] at h_;exact h_
   have hji5v:(t28.length:Int)≤64→(IntKind.i64.wrap (2 ^ (t28.length:Int).toNat))=ji5:=fun hle_=>by have h_:=hji5z hle_;rw [Int.one_mul] at h_;exact h_
   have hji5y:(wrap64 (1 * 2 ^ min (t28.length:Int).toNat 64))=ji5:=(i64_w _).symm.trans hji5_
   have hji5x:(t28.length:Int)≤64→(wrap64 (1 * 2 ^ (t28.length:Int).toNat))=ji5:=fun h_=>(i64_w _).symm.trans (hji5z h_)
   rcases ifd H with ⟨c6b0,H⟩|⟨c6b0,H⟩
   ·rcases ifd H with ⟨c7b0,H⟩|⟨c7b0,H⟩
    ·obtain ⟨t41,A8,H⟩:=zo H;have H':=zA H;clear H;obtain ⟨Ao9,co9,eo9⟩:=Kd.R_slice HO_5.out;subst eo9;obtain ⟨Ao10,co10,eo10⟩:=Kd.R_slice HO_6.out;subst eo10
     go_wp2_with (first|((with_reducible refine gate_callee (f:=75) rfl ?_);refine zgo 28 Tryz.func75 #[.slice Ao9 t28.length co9,.int .i64 x7_1] ?_;(with_reducible refine (ancepsref38_Assignment.calls k1 _ _ t28 x7_1 t41 _ ?side1 ?side2 A8.out).mono ?_);(case side1=>exact zC (Kd.R_reads' HO_5.out).2.2);(case side2=>exact (Kd.R_reads' HO_5.out).2.1);rintro e w' ⟨rfl,⟨nd,rfl⟩⟩;refine ⟨_,rfl,?_⟩))
     go_loopg [9,10] k1 (fun kq v9 v10 w'=>∃ (x9_2:Bool) (x10_2:Int),v9=.bool x9_2∧v10=.int .i64 x10_2∧Aside0 (ancepsref40_solutions.l1 kq l0 a1 t28 x6_1 x7_1 t41 x9_2 x10_2=some r)∧Aside0 (kq≤k1)∧Aside0 (Kd.R (Kd.int .i64) 3 w' w.heap.size (fun k_=>some k_≠((.slice Ao10 x6_1.length co10):Value).ownBlock) (.slice Ao9 t28.length co9) t28)∧Aside0 (Kd.R (Kd.int .i64) 3 w' w.heap.size (fun k_=>some k_≠((.slice Ao9 t28.length co9):Value).ownBlock) (.slice Ao10 x6_1.length co10) x6_1)∧Aside0 (Below w.heap.size w w'))
     case atStart=>exact ⟨(true),(0),zT,zT,H',⟨Nat.le_refl _⟩,⟨by refine zr ?_;exact HO_5.out⟩,⟨by refine zr ?_;exact HO_6.out⟩,⟨zv0 HB⟩⟩
     case round=>
      clear H'
      try clear c6
      try clear c6b0
      try clear c7
      try clear c7b0
      obtain ⟨x9_2,x10_2,rfl,rfl,HA,HK2,HO_5,HO_6,HB⟩:=hrel
      cases gk with
      | zero=>exact absurd HA.out (by simp [ancepsref40_solutions.l1])
      | succ k2=>
       have H:=HA.out;clear HA;simp only [ancepsref40_solutions.l1] at H
       rcases ifd H with ⟨c11b0,H⟩|⟨c11b0,H⟩
       ·by_cases c12:x9_2=true
        ·subst c12
         have H1:(if 0≤x10_2 then ((ancepsref38_Holds.f k2 ((rd_T49 l0 x10_2).f0) ((rd_T49 l0 x10_2).f1) t41).bind fun t61=>(ancepsref40_solutions.l1 k2 l0 a1 t28 x6_1 x7_1 t41 t61 (wrap64 (x10_2+1)))) else (none))=some r:=by rw [if_pos rfl] at H;exact H
         clear H;have H:=H1;clear H1;obtain ⟨c13b0,H⟩:=ifd1 H;obtain ⟨t61,A14,H⟩:=zo H;have H':=zA H;clear H;obtain ⟨p27,q27,ad27,A27_0,c27_0,A27_1,c27_1,e27,hx27_0,hx27_1,hl27_0,hi27_0,hl27_1,hi27_1⟩:=zp (at_T49 HR0.out x10_2)
         cases e27
         replace hx27_0:=zd HB hx27_0;replace hx27_1:=zd HB hx27_1;have HR27_0:=zA hi27_0;have HC27_0:=zA hl27_0;clear hi27_0 hl27_0;have HR27_1:=zA hi27_1;have HC27_1:=zA hl27_1;clear hi27_1 hl27_1;replace p27:=eq_true p27;replace q27:=eq_true q27
         go_wp2_with (first|((with_reducible refine gate_callee (f:=77) rfl ?_);refine zgo 43 Tryz.func77 #[.agg #[.slice A27_0 ((rd_T49 l0 x10_2).f0).length c27_0,.slice A27_1 ((rd_T49 l0 x10_2).f1).length c27_1],.int .i64 t41] ?_;(with_reducible refine (ancepsref38_Holds.calls k2 _ _ ((rd_T49 l0 x10_2).f0) _ _ ((rd_T49 l0 x10_2).f1) t41 t61 _ (zD HR27_0 HB) HC27_0.out (zD HR27_1 HB) HC27_1.out A14.out).mono ?_);rintro e w15 ⟨rfl,hb⟩;refine ⟨_,rfl,?_⟩;replace HO_5:=zA (Kd.R_below (zR HO_5) hb);replace HO_6:=zA (Kd.R_below (zR HO_6) hb);replace HB:=zu hb;clear hb))
         go_roundg k2
         case measure=>have:=HK1.out;have:=HK2.out;omega
         case rel=>exact ⟨(t61),(wrap64 (x10_2+1)),zT,zT,H',⟨by have:=HK1.out;have:=HK2.out;omega⟩,⟨by refine zr ?_;exact HO_5.out⟩,⟨by refine zr ?_;exact HO_6.out⟩,⟨zv0 HB⟩⟩
        ·replace c12:=Bool.eq_false_iff.mpr c12;subst c12
         have H1:(ancepsref40_solutions.l0 k2 l0 a1 t28 x6_1 (wrap64 (x7_1+1)))=some r:=by rw [if_neg (show ¬ (false=true) by decide)] at H;exact H
         clear H;have H:=H1;clear H1;have H':=zA H;clear H
         go_wp2
         go_roundg k2
         case measure=>have:=HK1.out;have:=HK2.out;omega
         case rel=>exact ⟨(x6_1),(wrap64 (x7_1+1)),zT,H',⟨by have:=HK1.out;have:=HK2.out;omega⟩,⟨by refine zr ?_;exact HO_5.out⟩,⟨by refine zr ?_;exact HO_6.out⟩,⟨zv0 HB⟩⟩
       ·by_cases c16:x9_2=true
        ·subst c16
         have H1:(if x6_1.length<17592186044416 then (ancepsref40_solutions.l0 k2 l0 a1 t28 (x6_1++[t41]) (wrap64 (x7_1+1))) else (none))=some r:=by rw [if_pos rfl] at H;exact H
         clear H;have H:=H1;clear H1;obtain ⟨c17,H⟩:=if1 H;have LMc17:=zA c17;clear c17
         first|(replace H:=zyb (x6_1++[t41]) H;obtain ⟨y56,Ny56,H⟩:=H)|(obtain ⟨y56,hy56⟩:=zY (x6_1++[t41]);(try rw (occs:=.pos [1]) [← hy56] at H);have Ny56:=zA hy56;clear hy56)
         have H':=zA H;clear H
         go_wp2_with (first|((with_reducible refine gate_builtin (b:=.append) (xs:=#[.tmp 45,.tmp 47]) rfl ?_);(try (refine gate_guard (by rfl) ?_;dsimp only));at_builtin;refine Kd.R_append (Kd.int .i64) (w0:=w) w.heap.size rfl (.tmp 45) (.tmp 47) 23 3 (.int .i64 0) 8 rfl Tryz.underlying23 info3 rfl (by decide) (by omega) (.slice Ao10 x6_1.length co10) x6_1 t41 [.int .i64 t41] (fun k_=>some k_≠(.slice Ao9 t28.length co9:Value).ownBlock) (fun _=>False) rfl rfl ?aP (fun _ hk=>hk.elim) ?aF ?aO ?aB ?aS ?aL ?_;(case aP=>exact rfl);(case aB=>exact zB);(case aF=>exact (fun k_ hk=>Kd.fresh' (Kd.R_lt (zR HO_5)) k_ hk));(case aO=>exact (zR HO_6));(case aS=>exact (below_size zB));(case aL=>have:=LMc17.out;omega);intro v668 w18 ho hb hg hat;rw [← Ny56.out] at ho;have HO93:=zA (ho);replace HO_5:=zA (Kd.R_after (ok:=(fun _=>True)) (by refine zr ?_;exact Kd.R_mono HO_5.out (fun _ hk=>⟨trivial,hk⟩)) hg hat);replace HB:=zA (hb);clear HO_6;clear ho hb hg hat))
         go_roundg k2
         case measure=>have:=HK1.out;have:=HK2.out;omega
         case rel=>exact ⟨(y56),(wrap64 (x7_1+1)),zT,H',⟨by have:=HK1.out;have:=HK2.out;omega⟩,⟨by refine zr ?_;exact Kd.R_mono HO_5.out (fun _ hk=>hk.2)⟩,⟨by refine zr ?_;exact HO93.out⟩,⟨zv0 HB⟩⟩
        ·replace c16:=Bool.eq_false_iff.mpr c16;subst c16
         have H1:(ancepsref40_solutions.l0 k2 l0 a1 t28 x6_1 (wrap64 (x7_1+1)))=some r:=by rw [if_neg (show ¬ (false=true) by decide)] at H;exact H
         clear H;have H:=H1;clear H1;have H':=zA H;clear H
         go_wp2
         go_roundg k2
         case measure=>have:=HK1.out;have:=HK2.out;omega
         case rel=>exact ⟨(x6_1),(wrap64 (x7_1+1)),zT,H',⟨by have:=HK1.out;have:=HK2.out;omega⟩,⟨by refine zr ?_;exact HO_5.out⟩,⟨by refine zr ?_;exact HO_6.out⟩,⟨zv0 HB⟩⟩
    ·obtain rfl:=Option.some.inj H;obtain ⟨Ao19,co19,eo19⟩:=Kd.R_slice HO_5.out;subst eo19;obtain ⟨Ao20,co20,eo20⟩:=Kd.R_slice HO_6.out;subst eo20
     go_wp2
     go_ret
     exact ⟨_,by first|rfl|(simp [errW_none,errW_some] <;> rfl)|(simp only [← hji5];first|rfl|(simp [errW_none,errW_some] <;> rfl))|(simp [*,errW_none,errW_some] <;> rfl),by refine zr ?_;exact Kd.R_mono HO_6.out (fun _ hk=>trivial),zv0 HB⟩
   ·obtain rfl:=Option.some.inj H;obtain ⟨Ao21,co21,eo21⟩:=Kd.R_slice HO_5.out;subst eo21
    go_wp2
    go_ret
    exact ⟨_,by first|rfl|(simp [errW_none,errW_some] <;> rfl)|(simp only [← hji5];first|rfl|(simp [errW_none,errW_some] <;> rfl))|(simp [*,errW_none,errW_some] <;> rfl),by refine zr ?_;exact Kd.R_mono HO_6.out (fun _ hk=>trivial),zv0 HB⟩
def ancepsref40_First.f (k:Nat) (l0:List (S49)):Option (Int×Int):=(ancepsref40_Valid.f k l0).bind fun t59=>(if t59=0 then ((ancepsref40_solutions.f k l0 1).bind fun t37=>(if (t37.length:Int)=0 then (some (0,10)) else (if 0<(t37.length:Int) then (some (rd t37 0,0)) else (none)))) else (some (0,t59)))
set_option maxHeartbeats 8000000 in
set_option maxRecDepth 100000 in
theorem ancepsref40_First.calls (k:Nat) (A0:Option Addr) (c0:Nat) (l0:List (S49)) (r1:Int) (r2:Int) (w:World) (hr0:Kd.C k49 w A0 l0.length l0) (hc0:l0.length≤c0) (h:ancepsref40_First.f k l0=some (r1,r2)) :
  Calls Tryz.prog 49 #[.slice A0 l0.length c0] w fun e w'=>e=.returned (.tuple #[.int .i64 r1,.int .i64 r2])∧Below w.heap.size w w':=by
 have HR0:=zA hr0;have HC0:=zA hc0;clear hr0 hc0;have HB:=zA (Below.refl w.heap.size w);have H:((ancepsref40_Valid.f k l0).bind fun t59=>(if t59=0 then ((ancepsref40_solutions.f k l0 1).bind fun t37=>(if (t37.length:Int)=0 then (some (0,10)) else (if 0<(t37.length:Int) then (some (rd t37 0,0)) else (none)))) else (some (0,t59))))=some (r1,r2):=h;clear h;obtain ⟨t59,A2,H⟩:=zo H;have HC3:=zA H;clear H
 go_enter Tryz.func49,Tryz.ntmps49
 go_upto_if 9 with (first|((with_reducible refine gate_callee (f:=64) rfl ?_);refine zgo 7 Tryz.func64 #[.slice A0 l0.length c0] ?_;(with_reducible refine (ancepsref40_Valid.calls k _ _ l0 t59 _ ?side1 HC0.out A2.out).mono ?_);(case side1=>repeat (first|exact HR0.out|(with_reducible refine Kd.C_alloc ?_ _)|(with_reducible refine Kd.C_drewN ?_ _)|(with_reducible refine Kd.C_drew ?_)));rintro e w4 ⟨rfl,hb⟩;refine ⟨_,rfl,?_⟩;replace HB:=zu hb;clear hb))
 (try simp only [Act.put,zi,zs,zt]);have H:=HC3.out;clear HC3
 rcases ife H with ⟨c5b0,c5b1,H⟩|⟨c5,c5b0,c5b1,H⟩
 ·(first|rw [c5b0]|(simp only [i64_w,i32_w];rw [c5b0])|skip)
  (try rw [c5b1]);obtain ⟨t37,A6,H⟩:=zo H;have HC7:=zA H;clear H
  go_upto_if 15 with (first|((with_reducible refine gate_callee (f:=81) rfl ?_);refine zgo 12 Tryz.func81 #[.slice A0 l0.length c0,.int .i64 1] ?_;(with_reducible refine (ancepsref40_solutions.calls k _ _ l0 1 t37 _ (zD HR0 HB) HC0.out A6.out).mono ?_);rintro e w8 ⟨v672,rfl,ho0,hb⟩;refine ⟨_,rfl,?_⟩;have HO82:=zA (Kd.R_lower ho0 (below_size zB));replace HB:=zu hb;clear hb;(try clear ho0);obtain ⟨Ao9,co9,eo9⟩:=Kd.R_slice HO82.out;subst eo9))
  (try simp only [Act.put,zi,zs,zt]);have H:=HC7.out;clear HC7
  rcases ife H with ⟨c10b0,c10b1,H⟩|⟨c10,c10b0,c10b1,H⟩
  ·(first|rw [c10b0]|(simp only [i64_w,i32_w];rw [c10b0])|skip)
   (try rw [c10b1]);simp only [Option.some.injEq,Prod.mk.injEq] at H;obtain ⟨rfl,rfl⟩:=H
   go_wp2
   go_ret2
   exact ⟨ze,zv0 HB⟩
  ·have c10b2:¬ (t37=[]):=fun h_=>c10 (by rw [h_];rfl)
   (first|rw [c10b0]|(simp only [i64_w,i32_w];rw [c10b0])|skip)
   (try rw [c10b1]);(try rw [c10b2]);obtain ⟨c11,H⟩:=if1 H;have c11b0:decide (0<(t37.length:Int))=true:=decide_eq_true c11;have c11b1:decide (0<t37.length)=true:=decide_eq_true (by omega);clear c11;simp only [Option.some.injEq,Prod.mk.injEq] at H;obtain ⟨rfl,rfl⟩:=H
   have p39:0≤(0:Int):=(by omega)
   have q39:0<(t37.length:Int):=of_decide_eq_true zh;obtain ⟨ad39,e39,hx39_0⟩:=Kd.at_int (Kd.R_reads' HO82.out).2.2 0 p39 q39
   cases e39
   have qi39:(0<t37.length)=True:=eq_true (by omega);(try rw [show ((0:Int)).toNat=0 from rfl] at hx39_0);(try rw [Addr.add_zero'] at hx39_0);replace p39:=eq_true p39;replace q39:=eq_true q39
   go_wp2
   go_ret2
   exact ⟨ze,zv0 HB⟩
 ·(first|rw [c5b0]|(simp only [i64_w,i32_w];rw [c5b0])|skip)
  (try rw [c5b1]);simp only [Option.some.injEq,Prod.mk.injEq] at H;obtain ⟨rfl,rfl⟩:=H
  go_wp2
  go_ret2
  exact ⟨ze,zv0 HB⟩
def ancepsref42_contradictory.f (k:Nat) (l0:List (S49)) (l1:List Int):Option (Bool):=(ancepsref42_System.f k l0 l1).bind fun t60=>((ancepsref40_First.f k t60).bind fun bt66=>(some (bt66.2 != 0)))
set_option maxHeartbeats 8000000 in
set_option maxRecDepth 100000 in
theorem ancepsref42_contradictory.calls (k:Nat) (A0:Option Addr) (c0:Nat) (l0:List (S49)) (A1:Option Addr) (c1:Nat) (l1:List Int) (r:Bool) (w:World) (hr0:Kd.C k49 w A0 l0.length l0) (hc0:l0.length≤c0) (hr1:Kd.C (Kd.int .i64) w A1 l1.length l1) (hc1:l1.length≤c1) (h:ancepsref42_contradictory.f k l0 l1=some r) :
  Calls Tryz.prog 78 #[.slice A0 l0.length c0,.slice A1 l1.length c1] w fun e w'=>e=.returned (.bool r)∧Below w.heap.size w w':=by
 have HR0:=zA hr0;have HC0:=zA hc0;clear hr0 hc0;have HR1:=zA hr1;have HC1:=zA hc1;clear hr1 hc1;have HB:=zA (Below.refl w.heap.size w);have H:((ancepsref42_System.f k l0 l1).bind fun t60=>((ancepsref40_First.f k t60).bind fun bt66=>(some (bt66.2 != 0))))=some r:=h;clear h;obtain ⟨t60,A3,H⟩:=zo H;obtain ⟨t66,t94,A4,H⟩:=zO H
 dsimp only at H
 obtain rfl:=Option.some.inj H
 go_enter Tryz.func78,Tryz.ntmps78
 go_wp2_with (first|((with_reducible refine gate_callee (f:=40) rfl ?_);refine zgo 10 Tryz.func40 #[.slice A0 l0.length c0,.slice A1 l1.length c1] ?_;(with_reducible refine (ancepsref42_System.calls k (fun k_=>k_<w.heap.size) _ _ l0 _ _ l1 t60 _ ?side1 ?side2 HC1.out A3.out).mono ?_);(case side1=>exact Kd.V_mk HC0.out (Kd.F_below (Kd.C_F k49_heap HR0.out) zB));(case side2=>repeat (first|exact HR1.out|(with_reducible refine Kd.C_alloc ?_ _)|(with_reducible refine Kd.C_drewN ?_ _)|(with_reducible refine Kd.C_drew ?_)));rintro e w5 ⟨v676,rfl,ho0,hb⟩;refine ⟨_,rfl,?_⟩;have HO67:=zA (Kd.N_lower (Kd.N_mono (ok':=fun k_=>True) ho0 (fun k_ hk_=>trivial)) (below_size zB));replace HB:=zu hb;clear hb;(try clear ho0);obtain ⟨Ao6,co6,eo6⟩:=Kd.N_slice HO67.out;subst eo6)|((with_reducible refine gate_callee (f:=49) rfl ?_);refine zgo 11 Tryz.func49 #[.slice Ao6 t60.length co6] ?_;(with_reducible refine (ancepsref40_First.calls k _ _ t60 t66 t94 _ ?side1 ?side2 A4.out).mono ?_);(case side1=>exact zC (Kd.N_reads' HO67.out).2.2);(case side2=>exact (Kd.N_reads' HO67.out).2.1);rintro e w7 ⟨rfl,hb⟩;refine ⟨_,rfl,?_⟩;replace HO67:=zA (Kd.N_below (zN HO67) hb);replace HB:=zu hb;clear hb))
 go_ret
 exact ⟨ze,zv0 HB⟩
def ancepsref42_core.l0:Nat→List (S49)→List Int→Int→Option (Bool)
 | 0,_,_,_=>none
 | k+1,x0,x1,x5=>if x5<(x1.length:Int) then ((ancepsref42_Without.f x1 x5).bind fun t68=>((ancepsref42_contradictory.f k x0 t68).bind fun t70=>(if t70=true then (some false) else (ancepsref42_core.l0 k x0 x1 (wrap64 (x5+1)))))) else (some true)
def ancepsref42_core.f (k:Nat) (l0:List (S49)) (l1:List Int):Option (Bool):=(ancepsref42_contradictory.f k l0 l1).bind fun t62=>(if t62=true then (ancepsref42_core.l0 k l0 l1 0) else (some false))
set_option maxHeartbeats 8000000 in
set_option maxRecDepth 100000 in
theorem ancepsref42_core.calls (k:Nat) (A0:Option Addr) (c0:Nat) (l0:List (S49)) (A1:Option Addr) (c1:Nat) (l1:List Int) (r:Bool) (w:World) (hr0:Kd.C k49 w A0 l0.length l0) (hc0:l0.length≤c0) (hr1:Kd.C (Kd.int .i64) w A1 l1.length l1) (hc1:l1.length≤c1) (h:ancepsref42_core.f k l0 l1=some r) :
  Calls Tryz.prog 44 #[.slice A0 l0.length c0,.slice A1 l1.length c1] w fun e w'=>e=.returned (.bool r)∧Below w.heap.size w w':=by
 have HR0:=zA hr0;have HC0:=zA hc0;clear hr0 hc0;have HR1:=zA hr1;have HC1:=zA hc1;clear hr1 hc1;have HB:=zA (Below.refl w.heap.size w);have H:((ancepsref42_contradictory.f k l0 l1).bind fun t62=>(if t62=true then (ancepsref42_core.l0 k l0 l1 0) else (some false)))=some r:=h;clear h;obtain ⟨t62,A3,H⟩:=zo H;have HC4:=zA H;clear H
 go_enter Tryz.func44,Tryz.ntmps44
 go_upto_if 9 with (first|((with_reducible refine gate_callee (f:=78) rfl ?_);refine zgo 8 Tryz.func78 #[.slice A0 l0.length c0,.slice A1 l1.length c1] ?_;(with_reducible refine (ancepsref42_contradictory.calls k _ _ l0 _ _ l1 t62 _ ?side1 HC0.out ?side3 HC1.out A3.out).mono ?_);(case side1=>repeat (first|exact HR0.out|(with_reducible refine Kd.C_alloc ?_ _)|(with_reducible refine Kd.C_drewN ?_ _)|(with_reducible refine Kd.C_drew ?_)));(case side3=>repeat (first|exact HR1.out|(with_reducible refine Kd.C_alloc ?_ _)|(with_reducible refine Kd.C_drewN ?_ _)|(with_reducible refine Kd.C_drew ?_)));rintro e w5 ⟨rfl,hb⟩;refine ⟨_,rfl,?_⟩;replace HB:=zu hb;clear hb))
 (try simp only [Act.put,zi,zs,zt]);have H:=HC4.out;clear HC4
 by_cases c6:t62=true
 ·subst c6
  have H1:(ancepsref42_core.l0 k l0 l1 0)=some r:=by rw [if_pos rfl] at H;exact H
  clear H;have H:=H1;clear H1;have H':=zA H;clear H
  go_wp2
  go_loopg [5] k (fun kq v5 w'=>∃ (x5_1:Int),v5=.int .i64 x5_1∧Aside0 (ancepsref42_core.l0 kq l0 l1 x5_1=some r)∧Aside0 (kq≤k)∧Aside0 (Below w.heap.size w w'))
  case atStart=>exact ⟨(0),zT,H',⟨Nat.le_refl _⟩,⟨zv0 HB⟩⟩
  case round=>
   clear H'
   try clear c1
   try clear c6
   obtain ⟨x5_1,rfl,HA,HK1,HB⟩:=hrel
   cases gk with
   | zero=>exact absurd HA.out (by simp [ancepsref42_core.l0])
   | succ k1=>
    have H:=HA.out;clear HA;simp only [ancepsref42_core.l0] at H
    rcases ifd H with ⟨c7b0,H⟩|⟨c7b0,H⟩
    ·(first|rw [c7b0]|(simp only [i64_w,i32_w];rw [c7b0])|skip)
     obtain ⟨t68,A8,H⟩:=zo H;obtain ⟨t70,A9,H⟩:=zo H;have HC10:=zA H;clear H
     go_upto_if 20 with (first|((with_reducible refine gate_callee (f:=42) rfl ?_);refine zgo 19 Tryz.func42 #[.slice A1 l1.length c1,.int .i64 x5_1] ?_;(with_reducible refine (ancepsref42_Without.calls _ _ l1 x5_1 t68 _ (zD HR1 HB) HC1.out A8.out).mono ?_);rintro e w11 ⟨v682,rfl,ho0,hb⟩;refine ⟨_,rfl,?_⟩;have HO69:=zA (Kd.R_lower ho0 (below_size zB));replace HB:=zu hb;clear hb;(try clear ho0);obtain ⟨Ao12,co12,eo12⟩:=Kd.R_slice HO69.out;subst eo12)|((with_reducible refine gate_callee (f:=78) rfl ?_);refine zgo 20 Tryz.func78 #[.slice A0 l0.length c0,.slice Ao12 t68.length co12] ?_;(with_reducible refine (ancepsref42_contradictory.calls k1 _ _ l0 _ _ t68 t70 _ (zD HR0 HB) HC0.out ?side3 ?side4 A9.out).mono ?_);(case side3=>exact zC (Kd.R_reads' HO69.out).2.2);(case side4=>exact (Kd.R_reads' HO69.out).2.1);rintro e w13 ⟨rfl,hb⟩;refine ⟨_,rfl,?_⟩;replace HO69:=zA (Kd.R_below (zR HO69) hb);replace HB:=zu hb;clear hb))
     (try simp only [Act.put,zi,zs,zt]);have H:=HC10.out;clear HC10
     by_cases c14:t70=true
     ·subst c14
      have H1:(some false)=some r:=by rw [if_pos rfl] at H;exact H
      clear H;have H:=H1;clear H1;obtain rfl:=Option.some.inj H
      go_wp2
      go_ret
      exact ⟨ze,zv0 HB⟩
     ·replace c14:=Bool.eq_false_iff.mpr c14;subst c14
      have H1:(ancepsref42_core.l0 k1 l0 l1 (wrap64 (x5_1+1)))=some r:=by rw [if_neg (show ¬ (false=true) by decide)] at H;exact H
      clear H;have H:=H1;clear H1;have H':=zA H;clear H
      go_wp2
      go_roundg k1
      case measure=>have:=HK1.out;omega
      case rel=>exact ⟨(wrap64 (x5_1+1)),zT,H',⟨by have:=HK1.out;omega⟩,⟨zv0 HB⟩⟩
    ·(first|rw [c7b0]|(simp only [i64_w,i32_w];rw [c7b0])|skip)
     obtain rfl:=Option.some.inj H
     go_wp2
     go_ret
     exact ⟨ze,zv0 HB⟩
 ·replace c6:=Bool.eq_false_iff.mpr c6;subst c6
  have H1:(some false)=some r:=by rw [if_neg (show ¬ (false=true) by decide)] at H;exact H
  clear H;have H:=H1;clear H1;obtain rfl:=Option.some.inj H
  go_wp2
  go_ret
  exact ⟨ze,zv0 HB⟩
end Go.Proofs.YtkjghablbeaioaaGreat.B
