import Derived.Test.YtngpkbbljnbojaaI0
import Derived.Test.YtngpkbbljnbojaaI4
import Derived.Test.YtngpkbbljnbojaaI11
namespace Go.Proofs.Ytngpkbbljnbojaa.I
open Go.RowKit Go.Proofs.YtngpkbbljnbojaaW.PrintWords Go.Proofs.YtngpkbbljnbojaaW.PrintLast Go.Proofs.YtngpkbbljnbojaaW.PrintMore
attribute [local go_sem] max2_int min2_int max_two min_two max_three min_three max_four min_four
set_option linter.unusedVariables false
set_option linter.unusedSimpArgs false
theorem arv_box {w:World} {g b:Nat} (h:w.heap[g]?=some (.cells #[.bool false,.bool false,.bool false,.bool false,.bool false,.bool false,.bool false,.bool false,.bool false,.bool false,.bool false,.bool false,.bool false,.bool false,.bool false,.bool false,.bool false,.bool false,.bool false,.bool false,.bool false,.bool false,.bool false,.bool false] 76 (0,0))) (hb:b≤g) :
  Kd.R Kd.bool 76 w b (fun _=>True) (.slice (some ⟨g,0,none⟩) 24 24) (List.replicate 24 false):=
 Kd.R_of_own (enc:=Value.bool) (h1:=fun _=>rfl) ⟨by simp [encs],.inr ⟨g,24,_,rfl,hb,h,by simp,by simp [maxLen],rfl,by simp [encs,List.replicate]⟩⟩ (fun _ _=>trivial)
theorem arv_len {w:World} {g b:Nat} {ok:Nat→Prop} {x:List Bool} (h:Kd.R Kd.bool 76 w b ok (.slice (some ⟨g,0,none⟩) 24 24) x):x.length=24:=by
 obtain ⟨A,c,e⟩:=Kd.R_slice h
 injection e with _ e2 _
 exact e2.symm
mutual
def ancepsref40_Vars.l0:Nat→List (S34)→List Bool→Int→Option (List Int)
 | 0,_,_,_=>none
 | k+1,x0,x3,x4=>if x4<(x0.length:Int) then (ancepsref40_Vars.l1 k x0 x3 x4 0) else (ancepsref40_Vars.l2 k x3 ([]:List Int) 0)
def ancepsref40_Vars.l1:Nat→List (S34)→List Bool→Int→Int→Option (List Int)
 | 0,_,_,_,_=>none
 | k+1,x0,x3,x4,x5=>if 0≤x4 then (if x4<(x0.length:Int) then (if x5<(((rd_T34 x0 x4).f0).length:Int) then (if 0≤x5 then (if 0≤(rd ((rd_T34 x0 x4).f0) x5) then (if (rd ((rd_T34 x0 x4).f0) x5)<(x3.length:Int) then (ancepsref40_Vars.l1 k x0 (x3.set ((rd ((rd_T34 x0 x4).f0) x5):Int).toNat true) x4 (wrap64 (x5+1))) else (none)) else (none)) else (none)) else (ancepsref40_Vars.l0 k x0 x3 (wrap64 (x4+1)))) else (none)) else (none)
def ancepsref40_Vars.l2:Nat→List Bool→List Int→Int→Option (List Int)
 | 0,_,_,_=>none
 | k+1,x3,x6,x7=>if x7<24 then (if 0≤x7 then (if x7<(x3.length:Int) then (if rdOf false x3 x7=true then (if x6.length<17592186044416 then (ancepsref40_Vars.l2 k x3 (x6++[x7]) (wrap64 (x7+1))) else (none)) else (ancepsref40_Vars.l2 k x3 x6 (wrap64 (x7+1)))) else (none)) else (none)) else (some x6)
end
def ancepsref40_Vars.f (k:Nat) (l0:List (S34)):Option (List Int):=(ancepsref40_Valid.f k l0).bind fun t54=>(if t54=0 then (if 24≤281474976710656 then (ancepsref40_Vars.l0 k l0 (List.replicate 24 false) 0) else (none)) else (some ([]:List Int)))
theorem ancepsref40_Vars.mono_l:∀ k,(∀ y0 y1 y2,LeO (ancepsref40_Vars.l0 k y0 y1 y2) (ancepsref40_Vars.l0 (k+1) y0 y1 y2))∧(∀ y0 y1 y2 y3,LeO (ancepsref40_Vars.l1 k y0 y1 y2 y3) (ancepsref40_Vars.l1 (k+1) y0 y1 y2 y3))∧(∀ y0 y1 y2,LeO (ancepsref40_Vars.l2 k y0 y1 y2) (ancepsref40_Vars.l2 (k+1) y0 y1 y2))
 | 0=>⟨fun _ _ _ r h=>by simp [ancepsref40_Vars.l0] at h,fun _ _ _ _ r h=>by simp [ancepsref40_Vars.l1] at h,fun _ _ _ r h=>by simp [ancepsref40_Vars.l2] at h⟩
 | k+1=>by
  obtain ⟨ih0,ih1,ih2⟩:=ancepsref40_Vars.mono_l k;refine ⟨?_,?_,?_⟩
  ·intro y0 y1 y2
   unfold ancepsref40_Vars.l0
   repeat' first
   | (with_reducible exact ih0 _ _ _)
   | (with_reducible exact ih1 _ _ _ _)
   | (with_reducible exact ih2 _ _ _)
   | (with_reducible exact ancepsref40_Valid.mono _ _)
   | (with_reducible exact LeO.refl _)
   | (with_reducible exact LeO.none _)
   | (with_reducible refine LeO.ite ?_ ?_)
   | (with_reducible refine LeO.bind ?_ (fun _=>?_))
   | exact LeO.none _
   | refine LeO.ite ?_ ?_
   | refine LeO.bind ?_ (fun _=>?_)
  ·intro y0 y1 y2 y3
   unfold ancepsref40_Vars.l1
   repeat' first
   | (with_reducible exact ih0 _ _ _)
   | (with_reducible exact ih1 _ _ _ _)
   | (with_reducible exact ih2 _ _ _)
   | (with_reducible exact ancepsref40_Valid.mono _ _)
   | (with_reducible exact LeO.refl _)
   | (with_reducible exact LeO.none _)
   | (with_reducible refine LeO.ite ?_ ?_)
   | (with_reducible refine LeO.bind ?_ (fun _=>?_))
   | exact LeO.none _
   | refine LeO.ite ?_ ?_
   | refine LeO.bind ?_ (fun _=>?_)
  ·intro y0 y1 y2
   unfold ancepsref40_Vars.l2
   repeat' first
   | (with_reducible exact ih0 _ _ _)
   | (with_reducible exact ih1 _ _ _ _)
   | (with_reducible exact ih2 _ _ _)
   | (with_reducible exact ancepsref40_Valid.mono _ _)
   | (with_reducible exact LeO.refl _)
   | (with_reducible exact LeO.none _)
   | (with_reducible refine LeO.ite ?_ ?_)
   | (with_reducible refine LeO.bind ?_ (fun _=>?_))
   | exact LeO.none _
   | refine LeO.ite ?_ ?_
   | refine LeO.bind ?_ (fun _=>?_)
theorem ancepsref40_Vars.mono:∀ a0 k,LeO (ancepsref40_Vars.f k a0) (ancepsref40_Vars.f (k+1) a0):=by
 intro a0 k;obtain ⟨ih0,ih1,ih2⟩:=ancepsref40_Vars.mono_l k
 unfold ancepsref40_Vars.f
 repeat' first
   | (with_reducible exact ih0 _ _ _)
   | (with_reducible exact ih1 _ _ _ _)
   | (with_reducible exact ih2 _ _ _)
   | (with_reducible exact ancepsref40_Valid.mono _ _)
   | (with_reducible exact LeO.refl _)
   | (with_reducible exact LeO.none _)
   | (with_reducible refine LeO.ite ?_ ?_)
   | (with_reducible refine LeO.bind ?_ (fun _=>?_))
   | exact LeO.none _
   | refine LeO.ite ?_ ?_
   | refine LeO.bind ?_ (fun _=>?_)
set_option maxHeartbeats 8000000 in
set_option maxRecDepth 100000 in
theorem ancepsref40_Vars.calls (k:Nat) (A0:Option Addr) (c0:Nat) (l0:List (S34)) (r:List Int) (w:World) (hr0:Kd.C k34 w A0 l0.length l0) (hc0:l0.length≤c0) (h:ancepsref40_Vars.f k l0=some r) :
  Calls Try.prog 16 #[.slice A0 l0.length c0] w fun e w'=>∃ v0_:Value,e=.returned (v0_)∧Kd.R (Kd.int .i64) 3 w' w.heap.size (fun _=>True) v0_ r∧Below w.heap.size w w':=by
 have hu29:=Try.underlying29;have hu3:=Try.underlying3;have hu4:=Try.underlying4;have HR0:=zA hr0;have HC0:=zA hc0;clear hr0 hc0;have HB:=zA (Below.refl w.heap.size w);have H:((ancepsref40_Valid.f k l0).bind fun t54=>(if t54=0 then (if 24≤281474976710656 then (ancepsref40_Vars.l0 k l0 (List.replicate 24 false) 0) else (none)) else (some ([]:List Int))))=some r:=h;clear h;replace H:=Option.bind_eq_some_iff.mp H;obtain ⟨t54,A20,H⟩:=H;replace H:(if t54=0 then (if 24≤281474976710656 then (ancepsref40_Vars.l0 k l0 (List.replicate 24 false) 0) else (none)) else (some ([]:List Int)))=some r:=H;have A2:=zA A20;clear A20;have HC3:=zA H;clear H
 go_enter Try.func16,Try.ntmps16
 go_upto_if 10 with (first|((with_reducible refine gate_callee (f:=26) rfl ?_);refine goesL_ (some 9) rfl rfl Try.func26 zK rfl #[.slice A0 l0.length c0] rfl zM ?_;(with_reducible refine (ancepsref40_Valid.calls k _ _ l0 t54 _ ?side1 ?side2 A2.out).mono ?_);(case side1=>repeat (first|exact HR0.out|(with_reducible refine Kd.C_alloc ?_ _)|(with_reducible refine Kd.C_drewN ?_ _)|(with_reducible refine Kd.C_drew ?_)));(case side2=>exact HC0.out);rintro e w4 ⟨rfl,hb⟩;refine ⟨_,rfl,?_⟩;replace HB:=zA (below_step zB hb);(try clear hb);(try clear hb2);(try clear hk);(try clear hi)))
 (try simp only [Act.put,zi,zs,zt]);have H:=HC3.out;clear HC3
 by_cases c5:t54=0
 ·rw [if_pos c5] at H;have c5b0:(t54 == 0)=true:=beq_iff_eq.mpr c5;have c5b1:(t54 != 0)=false:=bne_eq_false_iff_eq.mpr c5;clear c5
  (first|rw [c5b0]|(simp only [i64_w,i32_w];rw [c5b0])|skip)
  (try rw [c5b1])
  by_cases c6:24≤281474976710656
  ·rw [if_pos c6] at H;have c6b0:=eq_true c6;have c6b1:decide (24≤281474976710656)=true:=decide_eq_true c6;clear c6
   obtain ⟨y65,hy65⟩:∃ y_:List Bool,y_=(List.replicate 24 false):=⟨_,rfl⟩
   replace H:(ancepsref40_Vars.l0 k l0 y65 0)=some r:=by first|(rw [hy65];with_reducible exact H)|(have H2_:=(Option.bind_some _ _).symm.trans H;rw [hy65];with_reducible exact H2_)|(have H2_:=(Option.bind_some _ _).symm.trans H;with_reducible exact H2_)|with_reducible exact H|(rw [hy65];exact H)|exact H
   have Ny65:=zA hy65;clear hy65;have H':=zA H;clear H
   go_wp2_with (first|((with_reducible refine gate_dst (N:=3) rfl ?_);refine box_event ?hg (N:=3) ?hd (cs:=#[.bool false,.bool false,.bool false,.bool false,.bool false,.bool false,.bool false,.bool false,.bool false,.bool false,.bool false,.bool false,.bool false,.bool false,.bool false,.bool false,.bool false,.bool false,.bool false,.bool false,.bool false,.bool false,.bool false,.bool false]) (t:=76) ?hr ?_;(case hd=>rfl);(case hg=>rfl);(case hr=>first|(go_simp;done)|(go_simp;rfl));intro ga hgA w7 hbox hb;have ho8:=arv_box hbox (Nat.le_of_eq hgA.symm);clear hbox hgA;rw [← Ny65.out] at ho8;have HO78:=zA (Kd.R_lower ho8 (below_size zB));replace HB:=zA (below_step zB hb);clear hb ho8))
   go_loopg [4] k (fun kq v4 w'=>∃ (x3_1:List Bool) (x4_1:Int),v4=.int .i64 x4_1∧Aside0 (ancepsref40_Vars.l0 kq l0 x3_1 x4_1=some r)∧Aside0 (kq≤k)∧Aside0 (Kd.R Kd.bool 76 w' w.heap.size (fun _=>True) (.slice (some ⟨ga,0,none⟩) 24 24) x3_1)∧Aside0 (Below w.heap.size w w'))
   case atStart=>exact ⟨(y65),(0),zT,H',⟨Nat.le_refl _⟩,⟨by refine zr ?_;exact HO78.out⟩,⟨zv0 HB⟩⟩
   case round=>
    clear H'
    try clear c5
    try clear c5b0
    try clear c5b1
    try clear c6
    try clear c6b0
    try clear c6b1
    obtain ⟨x3_1,x4_1,rfl,HA,HK1,HO_3,HB⟩:=hrel
    cases gk with
    | zero=>exact absurd HA.out (by simp [ancepsref40_Vars.l0])
    | succ k1=>
     have H:=HA.out;clear HA;simp only [ancepsref40_Vars.l0] at H
     by_cases c9:x4_1<(l0.length:Int)
     ·rw [if_pos c9] at H;have c9b0:decide (x4_1<(l0.length:Int))=true:=decide_eq_true c9;clear c9;have H':=zA H;clear H
      go_wp2
      go_loopg [5] k1 (fun kq v5 w'=>∃ (x3_2:List Bool) (x5_2:Int),v5=.int .i64 x5_2∧Aside0 (ancepsref40_Vars.l1 kq l0 x3_2 x4_1 x5_2=some r)∧Aside0 (kq≤k1)∧Aside0 (Kd.R Kd.bool 76 w' w.heap.size (fun _=>True) (.slice (some ⟨ga,0,none⟩) 24 24) x3_2)∧Aside0 (Below w.heap.size w w'))
      case atStart=>exact ⟨(x3_1),(0),zT,H',⟨Nat.le_refl _⟩,⟨by refine zr ?_;exact HO_3.out⟩,⟨zv0 HB⟩⟩
      case round=>
       clear H'
       try clear c5
       try clear c5b0
       try clear c5b1
       try clear c6
       try clear c6b0
       try clear c6b1
       try clear c9
       try clear c9b0
       obtain ⟨x3_2,x5_2,rfl,HA,HK2,HO_3,HB⟩:=hrel
       cases gk with
       | zero=>exact absurd HA.out (by simp [ancepsref40_Vars.l1])
       | succ k2=>
        have H:=HA.out;clear HA;simp only [ancepsref40_Vars.l1] at H
        by_cases c10:0≤x4_1
        ·rw [if_pos c10] at H;have c10b0:decide (0≤x4_1)=true:=decide_eq_true c10;clear c10
         by_cases c11:x4_1<(l0.length:Int)
         ·rw [if_pos c11] at H;have c11b0:decide (x4_1<(l0.length:Int))=true:=decide_eq_true c11;clear c11
          by_cases c12:x5_2<(((rd_T34 l0 x4_1).f0).length:Int)
          ·rw [if_pos c12] at H;have c12b0:decide (x5_2<(((rd_T34 l0 x4_1).f0).length:Int))=true:=decide_eq_true c12;clear c12
           by_cases c13:0≤x5_2
           ·rw [if_pos c13] at H;have c13b0:decide (0≤x5_2)=true:=decide_eq_true c13;clear c13
            by_cases c14:0≤(rd ((rd_T34 l0 x4_1).f0) x5_2)
            ·rw [if_pos c14] at H;have c14b0:decide (0≤(rd ((rd_T34 l0 x4_1).f0) x5_2))=true:=decide_eq_true c14;clear c14
             by_cases c15:(rd ((rd_T34 l0 x4_1).f0) x5_2)<(x3_2.length:Int)
             ·rw [if_pos c15] at H;have c15b0:decide ((rd ((rd_T34 l0 x4_1).f0) x5_2)<(x3_2.length:Int))=true:=decide_eq_true c15;clear c15
              obtain ⟨y57,hy57⟩:∃ y_:List Bool,y_=(x3_2.set ((rd ((rd_T34 l0 x4_1).f0) x5_2):Int).toNat true):=⟨_,rfl⟩
              replace H:(ancepsref40_Vars.l1 k2 l0 y57 x4_1 (wrap64 (x5_2+1)))=some r:=by first|(rw [hy57];with_reducible exact H)|(have H2_:=(Option.bind_some _ _).symm.trans H;rw [hy57];with_reducible exact H2_)|(have H2_:=(Option.bind_some _ _).symm.trans H;with_reducible exact H2_)|with_reducible exact H|(rw [hy57];exact H)|exact H
              have Ny57:=zA hy57;clear hy57;have H':=zA H;clear H;have p36:0≤(x4_1:Int):=of_decide_eq_true zh;have q36:x4_1<(l0.length:Int):=of_decide_eq_true zh;obtain ⟨ad36,A36_0,c36_0,A36_1,c36_1,e36,hx36_0,hx36_1,hl36_0,hi36_0,hl36_1,hi36_1⟩:=at_T34 HR0.out x4_1 p36 q36
              cases e36
              replace hx36_0:=(HB.out.cell (World.block_lt_of_cell? w _ hx36_0)).trans hx36_0;replace hx36_1:=(HB.out.cell (World.block_lt_of_cell? w _ hx36_1)).trans hx36_1;have HR36_0:=zA hi36_0;have HC36_0:=zA hl36_0;clear hi36_0 hl36_0;have HR36_1:=zA hi36_1;have HC36_1:=zA hl36_1;clear hi36_1 hl36_1;replace p36:=eq_true p36;replace q36:=eq_true q36;have p44:0≤(x4_1:Int):=of_decide_eq_true zh;have q44:x4_1<(l0.length:Int):=of_decide_eq_true zh;obtain ⟨ad44,A44_0,c44_0,A44_1,c44_1,e44,hx44_0,hx44_1,hl44_0,hi44_0,hl44_1,hi44_1⟩:=at_T34 HR0.out x4_1 p44 q44
              obtain rfl:ad36=ad44:=(by injection e44)
              replace hx44_0:=(HB.out.cell (World.block_lt_of_cell? w _ hx44_0)).trans hx44_0;replace hx44_1:=(HB.out.cell (World.block_lt_of_cell? w _ hx44_1)).trans hx44_1;have HR44_0:=zA hi44_0;have HC44_0:=zA hl44_0;clear hi44_0 hl44_0;have HR44_1:=zA hi44_1;have HC44_1:=zA hl44_1;clear hi44_1 hl44_1;replace p44:=eq_true p44;replace q44:=eq_true q44;have ea_:=Option.some.inj (hx36_0.symm.trans hx44_0)
              injection ea_ with ea_ en_ ec_
              subst ea_;subst ec_;clear en_;have ea_:=Option.some.inj (hx36_1.symm.trans hx44_1)
              injection ea_ with ea_ en_ ec_
              subst ea_;subst ec_;clear en_;have p52:0≤(x5_2:Int):=of_decide_eq_true zh;have q52:x5_2<(((rd_T34 l0 x4_1).f0).length:Int):=of_decide_eq_true zh;obtain ⟨ad52,e52,hx52_0⟩:=Kd.at_int HR44_0.out x5_2 p52 q52
              cases e52
              replace hx52_0:=(HB.out.cell (World.block_lt_of_cell? w _ hx52_0)).trans hx52_0;replace p52:=eq_true p52;replace q52:=eq_true q52;have p16:0≤((rd ((rd_T34 l0 x4_1).f0) x5_2):Int):=of_decide_eq_true zh
              have q16:((rd ((rd_T34 l0 x4_1).f0) x5_2):Int)<24:=by first|omega|exact of_decide_eq_true zh|(have h2_:(rd ((rd_T34 l0 x4_1).f0) x5_2)<(x3_2.length:Int):=of_decide_eq_true zh;have h3_:=arv_len HO_3.out;omega)
              have hl24b_:=arv_len HO_3.out;have gb16:=Kd.R_base HO_3.out ga rfl;have GB16:=zA gb16;clear gb16;obtain ⟨hx16_0,hf16_0⟩:=Kd.R_celln false HO_3.out ((rd ((rd_T34 l0 x4_1).f0) x5_2):Int) p16 q16;replace p16:=eq_true p16;replace q16:=eq_true q16;have HP17:=Kd.R_putg HO_3.out ((rd ((rd_T34 l0 x4_1).f0) x5_2):Int) true
              go_wp2_with (first|((with_reducible refine gate_store (t:=4) (p:=35) rfl ?_);refine store_event (t:=4) (p:=35) (v:=?vo_w18) (w1:=(wr.setCell ⟨ga,((rd ((rd_T34 l0 x4_1).f0) x5_2):Int).toNat,none⟩ (.bool true))) ?hg ?ho ?hn ?hr ?_;(case ho=>rfl);(case hg=>rfl);(case hn=>rfl);(case hr=>first|(go_simp;done)|(go_simp;rfl));intro w18 hw;have hg:wr.grownBy w18 (some ga):=(by rw [hw];exact HP17.2);have hp_:Kd.R Kd.bool 76 w18 w.heap.size (fun _=>True) (.slice (some ⟨ga,0,none⟩) 24 24) y57:=(by rw [hw,Ny57.out];exact HP17.1);clear HP17;replace HO_3:=zA (hp_);replace HB:=zA ((by rw [hw];exact below_set (HB.out) GB16.out:Below w.heap.size w w18));clear hg hw hp_))
              go_roundg k2
              case measure=>have:=HK1.out;have:=HK2.out;omega
              case rel=>exact ⟨(y57),(wrap64 (x5_2+1)),zT,H',⟨by have:=HK1.out;have:=HK2.out;omega⟩,⟨by refine zr ?_;exact HO_3.out⟩,⟨zv0 HB⟩⟩
             ·rw [if_neg c15] at H;exact absurd H (by simp)
            ·rw [if_neg c14] at H;exact absurd H (by simp)
           ·rw [if_neg c13] at H;exact absurd H (by simp)
          ·rw [if_neg c12] at H;have c12b0:decide (x5_2<(((rd_T34 l0 x4_1).f0).length:Int))=false:=decide_eq_false c12;clear c12;have H':=zA H;clear H;have p36:0≤(x4_1:Int):=of_decide_eq_true zh;have q36:x4_1<(l0.length:Int):=of_decide_eq_true zh;obtain ⟨ad36,A36_0,c36_0,A36_1,c36_1,e36,hx36_0,hx36_1,hl36_0,hi36_0,hl36_1,hi36_1⟩:=at_T34 HR0.out x4_1 p36 q36
           cases e36
           replace hx36_0:=(HB.out.cell (World.block_lt_of_cell? w _ hx36_0)).trans hx36_0;replace hx36_1:=(HB.out.cell (World.block_lt_of_cell? w _ hx36_1)).trans hx36_1;have HR36_0:=zA hi36_0;have HC36_0:=zA hl36_0;clear hi36_0 hl36_0;have HR36_1:=zA hi36_1;have HC36_1:=zA hl36_1;clear hi36_1 hl36_1;replace p36:=eq_true p36;replace q36:=eq_true q36
           go_wp2
           go_roundg k2
           case measure=>have:=HK1.out;have:=HK2.out;omega
           case rel=>exact ⟨(x3_2),(wrap64 (x4_1+1)),zT,H',⟨by have:=HK1.out;have:=HK2.out;omega⟩,⟨by refine zr ?_;exact HO_3.out⟩,⟨zv0 HB⟩⟩
         ·rw [if_neg c11] at H;exact absurd H (by simp)
        ·rw [if_neg c10] at H;exact absurd H (by simp)
     ·rw [if_neg c9] at H;have c9b0:decide (x4_1<(l0.length:Int))=false:=decide_eq_false c9;clear c9;have H':=zA H;clear H
      go_wp2
      go_loopg [6,7] k1 (fun kq v6 v7 w'=>∃ (x6_2:List Int) (x7_2:Int),v7=.int .i64 x7_2∧Aside0 (ancepsref40_Vars.l2 kq x3_1 x6_2 x7_2=some r)∧Aside0 (kq≤k1)∧Aside0 (Kd.R Kd.bool 76 w' w.heap.size (fun _=>True) (.slice (some ⟨ga,0,none⟩) 24 24) x3_1)∧Aside0 (Kd.R (Kd.int .i64) 3 w' w.heap.size (fun _=>True) v6 x6_2)∧Aside0 (Below w.heap.size w w'))
      case atStart=>exact ⟨(([]:List Int)),(0),zT,H',⟨Nat.le_refl _⟩,⟨by refine zr ?_;exact HO_3.out⟩,⟨by first|exact Kd.R_nil _ _ _ _ _|exact Kd.N_nil _ _ _ _ _|exact Kd.V_nil _ _ _ _ _|exact Kd.Q_nil _ _ _ _ _|exact Kd.S_nil _ _ _ _ _⟩,⟨zv0 HB⟩⟩
      case round=>
       clear H'
       try clear c5
       try clear c5b0
       try clear c5b1
       try clear c6
       try clear c6b0
       try clear c6b1
       try clear c9
       try clear c9b0
       obtain ⟨x6_2,x7_2,rfl,HA,HK2,HO_3,HO_6,HB⟩:=hrel
       cases gk with
       | zero=>exact absurd HA.out (by simp [ancepsref40_Vars.l2])
       | succ k2=>
        have H:=HA.out;clear HA;simp only [ancepsref40_Vars.l2] at H
        by_cases c19:x7_2<24
        ·rw [if_pos c19] at H;have c19b0:decide (x7_2<24)=true:=decide_eq_true c19;clear c19
         by_cases c20:0≤x7_2
         ·rw [if_pos c20] at H;have c20b0:decide (0≤x7_2)=true:=decide_eq_true c20;clear c20
          by_cases c21:x7_2<(x3_1.length:Int)
          ·rw [if_pos c21] at H;have c21b0:decide (x7_2<(x3_1.length:Int))=true:=decide_eq_true c21;clear c21
           obtain ⟨bq22,hbq22⟩:∃ b_:Bool,b_=(rdOf false x3_1 x7_2):=⟨_,rfl⟩
           replace H:(if bq22=true then (if x6_2.length<17592186044416 then (ancepsref40_Vars.l2 k2 x3_1 (x6_2++[x7_2]) (wrap64 (x7_2+1))) else (none)) else (ancepsref40_Vars.l2 k2 x3_1 x6_2 (wrap64 (x7_2+1))))=some r:=by rw [← hbq22] at H;exact H
           have Nbq22:=zA hbq22;clear hbq22
           by_cases c23:bq22=true
           ·subst c23
            have H1:(if x6_2.length<17592186044416 then (ancepsref40_Vars.l2 k2 x3_1 (x6_2++[x7_2]) (wrap64 (x7_2+1))) else (none))=some r:=by rw [if_pos rfl] at H;exact H
            clear H;have H:=H1;clear H1
            by_cases c24:x6_2.length<17592186044416
            ·rw [if_pos c24] at H;have LMc24:=zA c24;clear c24
             obtain ⟨y66,hy66⟩:∃ y_:List Int,y_=(x6_2++[x7_2]):=⟨_,rfl⟩
             replace H:(ancepsref40_Vars.l2 k2 x3_1 y66 (wrap64 (x7_2+1)))=some r:=by first|(rw [hy66];with_reducible exact H)|(have H2_:=(Option.bind_some _ _).symm.trans H;rw [hy66];with_reducible exact H2_)|(have H2_:=(Option.bind_some _ _).symm.trans H;with_reducible exact H2_)|with_reducible exact H|(rw [hy66];exact H)|exact H
             have Ny66:=zA hy66;clear hy66;have H':=zA H;clear H;have p49:0≤(x7_2:Int):=of_decide_eq_true zh;have q49:x7_2<(x3_1.length:Int):=of_decide_eq_true zh;have hl24_:=arv_len HO_3.out;have ha24_:(x7_2<24)=True:=eq_true (by omega);have hx49_0:=(Kd.R_celln false HO_3.out x7_2 p49 (by omega)).1;(try rw [← Nbq22.out] at hx49_0);replace p49:=eq_true p49;replace q49:=eq_true q49
             go_wp2_with (first|((with_reducible refine gate_builtin (b:=.append) (xs:=#[.tmp 43,.tmp 45]) rfl ?_);at_builtin;refine Kd.R_append (Kd.int .i64) (w0:=w) w.heap.size rfl (.tmp 43) (.tmp 45) 29 3 (.int .i64 0) 8 rfl Try.underlying29 info3 rfl (by decide) (by omega) u6 x6_2 x7_2 [.int .i64 x7_2] (fun _=>True) (fun _=>False) rfl rfl ?aP (fun _ hk=>hk.elim) ?aF ?aO ?aB ?aS ?aL ?_;(case aP=>exact rfl);(case aB=>exact zB);(case aF=>exact (fun _ _=>trivial));(case aO=>exact (zR HO_6));(case aS=>exact (below_size zB));(case aL=>have:=LMc24.out;omega);intro v84 w26 ho hb hg hat;rw [← Ny66.out] at ho;have HO79:=zA (ho);replace HO_3:=zA (Kd.R_over' (zR HO_3) (Kd.R_typed (zR HO_6)) (by decide) hg);replace HB:=zA (hb);clear HO_6;clear ho hb hg hat))
             go_roundg k2
             case measure=>have:=HK1.out;have:=HK2.out;omega
             case rel=>exact ⟨(y66),(wrap64 (x7_2+1)),zT,H',⟨by have:=HK1.out;have:=HK2.out;omega⟩,⟨by refine zr ?_;exact HO_3.out⟩,⟨by refine zr ?_;exact HO79.out⟩,⟨zv0 HB⟩⟩
            ·rw [if_neg c24] at H;exact absurd H (by simp)
           ·replace c23:=Bool.eq_false_iff.mpr c23;subst c23
            have H1:(ancepsref40_Vars.l2 k2 x3_1 x6_2 (wrap64 (x7_2+1)))=some r:=by rw [if_neg (show ¬ (false=true) by decide)] at H;exact H
            clear H;have H:=H1;clear H1;have H':=zA H;clear H;have p49:0≤(x7_2:Int):=of_decide_eq_true zh;have q49:x7_2<(x3_1.length:Int):=of_decide_eq_true zh;have hl24_:=arv_len HO_3.out;have ha24_:(x7_2<24)=True:=eq_true (by omega);have hx49_0:=(Kd.R_celln false HO_3.out x7_2 p49 (by omega)).1;(try rw [← Nbq22.out] at hx49_0);replace p49:=eq_true p49;replace q49:=eq_true q49
            go_wp2
            go_roundg k2
            case measure=>have:=HK1.out;have:=HK2.out;omega
            case rel=>exact ⟨(x6_2),(wrap64 (x7_2+1)),zT,H',⟨by have:=HK1.out;have:=HK2.out;omega⟩,⟨by refine zr ?_;exact HO_3.out⟩,⟨by refine zr ?_;exact HO_6.out⟩,⟨zv0 HB⟩⟩
          ·rw [if_neg c21] at H;exact absurd H (by simp)
         ·rw [if_neg c20] at H;exact absurd H (by simp)
        ·rw [if_neg c19] at H;have c19b0:decide (x7_2<24)=false:=decide_eq_false c19;clear c19;obtain rfl:=Option.some.inj H
         go_wp2
         go_ret
         exact ⟨_,ze,by refine zr ?_;exact HO_6.out,zv0 HB⟩
  ·rw [if_neg c6] at H;exact absurd H (by simp)
 ·rw [if_neg c5] at H;have c5b0:(t54 == 0)=false:=beq_eq_false_iff_ne.mpr c5;have c5b1:(t54 != 0)=true:=bne_iff_ne.mpr c5
  (first|rw [c5b0]|(simp only [i64_w,i32_w];rw [c5b0])|skip)
  (try rw [c5b1]);obtain rfl:=Option.some.inj H
  go_wp2
  go_ret
  exact ⟨_,ze,by first|exact Kd.R_nil _ _ _ _ _|exact Kd.N_nil _ _ _ _ _|exact Kd.V_nil _ _ _ _ _|exact Kd.Q_nil _ _ _ _ _|exact Kd.S_nil _ _ _ _ _,zv0 HB⟩
def ancepsref38_Few.f (l0_0:List Int) (l0_1:List Int):Option (Bool):=if (l0_0.length:Int)≤12 then (some (decide ((l0_1.length:Int)≤1030))) else (some false)
set_option maxHeartbeats 8000000 in
set_option maxRecDepth 100000 in
theorem ancepsref38_Few.calls (A0_0:Option Addr) (c0_0:Nat) (l0_0:List Int) (A0_1:Option Addr) (c0_1:Nat) (l0_1:List Int) (r:Bool) (w:World) (hr0_0:Kd.C (Kd.int .i64) w A0_0 l0_0.length l0_0) (hc0_0:l0_0.length≤c0_0) (hr0_1:Kd.C (Kd.int .i64) w A0_1 l0_1.length l0_1) (hc0_1:l0_1.length≤c0_1) (h:ancepsref38_Few.f l0_0 l0_1=some r) :
  Calls Try.prog 12 #[.agg #[.slice A0_0 l0_0.length c0_0,.slice A0_1 l0_1.length c0_1]] w fun e w'=>e=.returned (.bool r)∧Below w.heap.size w w':=by
 have hu34:=Try.underlying34;have hu29:=Try.underlying29;have HR0_0:=zA hr0_0;have HC0_0:=zA hc0_0;clear hr0_0 hc0_0;have HR0_1:=zA hr0_1;have HC0_1:=zA hc0_1;clear hr0_1 hc0_1;have HB:=zA (Below.refl w.heap.size w);have H:(if (l0_0.length:Int)≤12 then (some (decide ((l0_1.length:Int)≤1030))) else (some false))=some r:=h;clear h;have HC2:=zA H;clear H
 go_enter Try.func12,Try.ntmps12
 go_upto_region 1 with (first|((with_reducible refine gate_dst (N:=1) rfl ?_);(try (refine gate_guard (by rfl) ?_;dsimp only));refine box_event ?hg (N:=1) ?hd (cs:=#[.slice A0_0 l0_0.length c0_0,.slice A0_1 l0_1.length c0_1]) (t:=34) ?hr ?_;(case hd=>rfl);(case hg=>rfl);(case hr=>first|(go_simp;done)|(go_simp;rfl));intro gb47 hg w3 hbox hb;have BK47:=zA (hbox);have GW47:=zA (zG hg (below_size zB):w.heap.size≤gb47);have GE47:=GW47;replace HB:=zA (below_step zB hb);clear hb hbox hg))
 (try simp only [Act.put,zi,zs,zt]);have H:=HC2.out;clear HC2
 by_cases c4:(l0_0.length:Int)≤12
 ·rw [if_pos c4] at H;have c4b0:decide ((l0_0.length:Int)≤12)=true:=decide_eq_true c4;have c4b1:decide (l0_0.length≤12)=true:=decide_eq_true (by omega);clear c4
  (first|rw [c4b0]|(simp only [i64_w,i32_w];rw [c4b0])|skip)
  (try rw [c4b1]);obtain rfl:=Option.some.inj H;have hcz5_0:w3.cell? ⟨gb47,0,none⟩=some (.slice A0_0 l0_0.length c0_0):=(blk_cell BK47.out 0).trans rfl;have hcz5_1:w3.cell? ⟨gb47,1,none⟩=some (.slice A0_1 l0_1.length c0_1):=(blk_cell BK47.out 1).trans rfl;have hfz5_0:=blk_frozen BK47.out 0;have hfz5_1:=blk_frozen BK47.out 1
  go_wp2
  go_ret
  exact ⟨ze,zv1 HB GE47⟩
 ·rw [if_neg c4] at H;have c4b0:decide ((l0_0.length:Int)≤12)=false:=decide_eq_false c4;have c4b1:decide (l0_0.length≤12)=false:=decide_eq_false (by omega);clear c4
  (first|rw [c4b0]|(simp only [i64_w,i32_w];rw [c4b0])|skip)
  (try rw [c4b1]);obtain rfl:=Option.some.inj H;have hcz6_0:w3.cell? ⟨gb47,0,none⟩=some (.slice A0_0 l0_0.length c0_0):=(blk_cell BK47.out 0).trans rfl;have hcz6_1:w3.cell? ⟨gb47,1,none⟩=some (.slice A0_1 l0_1.length c0_1):=(blk_cell BK47.out 1).trans rfl;have hfz6_0:=blk_frozen BK47.out 0;have hfz6_1:=blk_frozen BK47.out 1
  go_wp2
  go_ret
  exact ⟨ze,zv1 HB GE47⟩
theorem arr_box {w:World} {g b:Nat} (h:w.heap[g]?=some (.cells #[.bool false,.bool false,.bool false,.bool false,.bool false,.bool false,.bool false,.bool false,.bool false,.bool false,.bool false,.bool false,.bool false,.bool false,.bool false,.bool false,.bool false,.bool false,.bool false,.bool false,.bool false,.bool false,.bool false,.bool false] 76 (0,0))) (hb:b≤g) :
  Kd.R Kd.bool 76 w b (fun _=>True) (.slice (some ⟨g,0,none⟩) 24 24) (List.replicate 24 false):=
 Kd.R_of_own (enc:=Value.bool) (h1:=fun _=>rfl) ⟨by simp [encs],.inr ⟨g,24,_,rfl,hb,h,by simp,by simp [maxLen],rfl,by simp [encs,List.replicate]⟩⟩ (fun _ _=>trivial)
theorem arr_len {w:World} {g b:Nat} {ok:Nat→Prop} {x:List Bool} (h:Kd.R Kd.bool 76 w b ok (.slice (some ⟨g,0,none⟩) 24 24) x):x.length=24:=by
 obtain ⟨A,c,e⟩:=Kd.R_slice h
 injection e with _ e2 _
 exact e2.symm
mutual
def ancepsref40_Few.l0:Nat→List (S34)→List Bool→Int→Int→Int→Option (Bool)
 | 0,_,_,_,_,_=>none
 | k+1,x0,x3,x4,x5,x6=>if x6<(x0.length:Int) then (if 0≤x6 then ((ancepsref38_Few.f ((rd_T34 x0 x6).f0) ((rd_T34 x0 x6).f1)).bind fun t75=>(if t75=true then (ancepsref40_Few.l1 k x0 x3 x4 (wrap64 (x5+(((rd_T34 x0 x6).f1).length:Int))) x6 0) else (some false))) else (none)) else (if x4≤10 then (some (decide (x5≤2000))) else (some false))
def ancepsref40_Few.l1:Nat→List (S34)→List Bool→Int→Int→Int→Int→Option (Bool)
 | 0,_,_,_,_,_,_=>none
 | k+1,x0,x3,x4,x5,x6,x7=>if 0≤x6 then (if x6<(x0.length:Int) then (if x7<(((rd_T34 x0 x6).f0).length:Int) then (if 0≤x7 then (if (rd ((rd_T34 x0 x6).f0) x7)≥0 then (if (rd ((rd_T34 x0 x6).f0) x7)<24 then (if 0≤(rd ((rd_T34 x0 x6).f0) x7) then (if (rd ((rd_T34 x0 x6).f0) x7)<(x3.length:Int) then (if (rdOf false x3 (rd ((rd_T34 x0 x6).f0) x7)=true) then (ancepsref40_Few.l1 k x0 x3 x4 x5 x6 (wrap64 (x7+1))) else (ancepsref40_Few.l1 k x0 (x3.set ((rd ((rd_T34 x0 x6).f0) x7):Int).toNat true) (wrap64 (x4+1)) x5 x6 (wrap64 (x7+1)))) else (none)) else (none)) else (ancepsref40_Few.l1 k x0 x3 x4 x5 x6 (wrap64 (x7+1)))) else (ancepsref40_Few.l1 k x0 x3 x4 x5 x6 (wrap64 (x7+1)))) else (none)) else (ancepsref40_Few.l0 k x0 x3 x4 x5 (wrap64 (x6+1)))) else (none)) else (none)
end
def ancepsref40_Few.f (k:Nat) (l0:List (S34)):Option (Bool):=if (l0.length:Int)>18 then (some false) else (if 24≤281474976710656 then (ancepsref40_Few.l0 k l0 (List.replicate 24 false) 0 0 0) else (none))
theorem ancepsref40_Few.mono_l:∀ k,(∀ y0 y1 y2 y3 y4,LeO (ancepsref40_Few.l0 k y0 y1 y2 y3 y4) (ancepsref40_Few.l0 (k+1) y0 y1 y2 y3 y4))∧(∀ y0 y1 y2 y3 y4 y5,LeO (ancepsref40_Few.l1 k y0 y1 y2 y3 y4 y5) (ancepsref40_Few.l1 (k+1) y0 y1 y2 y3 y4 y5))
 | 0=>⟨fun _ _ _ _ _ r h=>by simp [ancepsref40_Few.l0] at h,fun _ _ _ _ _ _ r h=>by simp [ancepsref40_Few.l1] at h⟩
 | k+1=>by
  obtain ⟨ih0,ih1⟩:=ancepsref40_Few.mono_l k;refine ⟨?_,?_⟩
  ·intro y0 y1 y2 y3 y4
   unfold ancepsref40_Few.l0
   repeat' first
   | (with_reducible exact ih0 _ _ _ _ _)
   | (with_reducible exact ih1 _ _ _ _ _ _)
   | (with_reducible exact LeO.refl _)
   | (with_reducible exact LeO.none _)
   | (with_reducible refine LeO.ite ?_ ?_)
   | (with_reducible refine LeO.bind ?_ (fun _=>?_))
   | exact LeO.none _
   | refine LeO.ite ?_ ?_
   | refine LeO.bind ?_ (fun _=>?_)
  ·intro y0 y1 y2 y3 y4 y5
   unfold ancepsref40_Few.l1
   repeat' first
   | (with_reducible exact ih0 _ _ _ _ _)
   | (with_reducible exact ih1 _ _ _ _ _ _)
   | (with_reducible exact LeO.refl _)
   | (with_reducible exact LeO.none _)
   | (with_reducible refine LeO.ite ?_ ?_)
   | (with_reducible refine LeO.bind ?_ (fun _=>?_))
   | exact LeO.none _
   | refine LeO.ite ?_ ?_
   | refine LeO.bind ?_ (fun _=>?_)
theorem ancepsref40_Few.mono:∀ a0 k,LeO (ancepsref40_Few.f k a0) (ancepsref40_Few.f (k+1) a0):=by
 intro a0 k;obtain ⟨ih0,ih1⟩:=ancepsref40_Few.mono_l k
 unfold ancepsref40_Few.f
 repeat' first
   | (with_reducible exact ih0 _ _ _ _ _)
   | (with_reducible exact ih1 _ _ _ _ _ _)
   | (with_reducible exact LeO.refl _)
   | (with_reducible exact LeO.none _)
   | (with_reducible refine LeO.ite ?_ ?_)
   | (with_reducible refine LeO.bind ?_ (fun _=>?_))
   | exact LeO.none _
   | refine LeO.ite ?_ ?_
   | refine LeO.bind ?_ (fun _=>?_)
set_option maxHeartbeats 8000000 in
set_option maxRecDepth 100000 in
theorem ancepsref40_Few.calls (k:Nat) (A0:Option Addr) (c0:Nat) (l0:List (S34)) (r:Bool) (w:World) (hr0:Kd.C k34 w A0 l0.length l0) (hc0:l0.length≤c0) (h:ancepsref40_Few.f k l0=some r) :
  Calls Try.prog 25 #[.slice A0 l0.length c0] w fun e w'=>e=.returned (.bool r)∧Below w.heap.size w w':=by
 have hu34:=Try.underlying34;have hu29:=Try.underlying29;have hu3:=Try.underlying3;have hu4:=Try.underlying4;have HR0:=zA hr0;have HC0:=zA hc0;clear hr0 hc0;have HB:=zA (Below.refl w.heap.size w);have H:(if (l0.length:Int)>18 then (some false) else (if 24≤281474976710656 then (ancepsref40_Few.l0 k l0 (List.replicate 24 false) 0 0 0) else (none)))=some r:=h;clear h
 by_cases c2:(l0.length:Int)>18
 ·rw [if_pos c2] at H;have c2b0:decide (18<(l0.length:Int))=true:=decide_eq_true c2;have c2b1:decide (18<l0.length)=true:=decide_eq_true (by omega);clear c2;obtain rfl:=Option.some.inj H
  go_enter Try.func25,Try.ntmps25
  go_wp2
  go_ret
  exact ⟨ze,zv0 HB⟩
 ·rw [if_neg c2] at H;have c2b0:decide (18<(l0.length:Int))=false:=decide_eq_false c2;have c2b1:decide (18<l0.length)=false:=decide_eq_false (by omega);clear c2
  by_cases c3:24≤281474976710656
  ·rw [if_pos c3] at H;have c3b0:=eq_true c3;have c3b1:decide (24≤281474976710656)=true:=decide_eq_true c3;clear c3
   obtain ⟨y67,hy67⟩:∃ y_:List Bool,y_=(List.replicate 24 false):=⟨_,rfl⟩
   replace H:(ancepsref40_Few.l0 k l0 y67 0 0 0)=some r:=by first|(rw [hy67];with_reducible exact H)|(have H2_:=(Option.bind_some _ _).symm.trans H;rw [hy67];with_reducible exact H2_)|(have H2_:=(Option.bind_some _ _).symm.trans H;with_reducible exact H2_)|with_reducible exact H|(rw [hy67];exact H)|exact H
   have Ny67:=zA hy67;clear hy67;have H':=zA H;clear H
   go_enter Try.func25,Try.ntmps25
   go_wp2_with (first|((with_reducible refine gate_dst (N:=3) rfl ?_);refine box_event ?hg (N:=3) ?hd (cs:=#[.bool false,.bool false,.bool false,.bool false,.bool false,.bool false,.bool false,.bool false,.bool false,.bool false,.bool false,.bool false,.bool false,.bool false,.bool false,.bool false,.bool false,.bool false,.bool false,.bool false,.bool false,.bool false,.bool false,.bool false]) (t:=76) ?hr ?_;(case hd=>rfl);(case hg=>rfl);(case hr=>first|(go_simp;done)|(go_simp;rfl));intro ga hgA w4 hbox hb;have ho5:=arr_box hbox (Nat.le_of_eq hgA.symm);clear hbox hgA;rw [← Ny67.out] at ho5;have HO81:=zA (Kd.R_lower ho5 (below_size zB));replace HB:=zA (below_step zB hb);clear hb ho5))
   go_loopg [4,5,6] k (fun kq v4 v5 v6 w'=>∃ (x3_1:List Bool) (x4_1:Int) (x5_1:Int) (x6_1:Int),v4=.int .i64 x4_1∧v5=.int .i64 x5_1∧v6=.int .i64 x6_1∧Aside0 (ancepsref40_Few.l0 kq l0 x3_1 x4_1 x5_1 x6_1=some r)∧Aside0 (kq≤k)∧Aside0 (Kd.R Kd.bool 76 w' w.heap.size (fun _=>True) (.slice (some ⟨ga,0,none⟩) 24 24) x3_1)∧Aside0 (Below w.heap.size w w'))
   case atStart=>exact ⟨(y67),(0),(0),(0),zT,zT,zT,H',⟨Nat.le_refl _⟩,⟨by refine zr ?_;exact HO81.out⟩,⟨zv0 HB⟩⟩
   case round=>
    clear H'
    try clear c2
    try clear c2b0
    try clear c2b1
    try clear c3
    try clear c3b0
    try clear c3b1
    obtain ⟨x3_1,x4_1,x5_1,x6_1,rfl,rfl,rfl,HA,HK1,HO_3,HB⟩:=hrel
    cases gk with
    | zero=>exact absurd HA.out (by simp [ancepsref40_Few.l0])
    | succ k1=>
     have H:=HA.out;clear HA;simp only [ancepsref40_Few.l0] at H
     by_cases c6:x6_1<(l0.length:Int)
     ·rw [if_pos c6] at H;have c6b0:decide (x6_1<(l0.length:Int))=true:=decide_eq_true c6;clear c6
      by_cases c7:0≤x6_1
      ·rw [if_pos c7] at H;have c7b0:decide (0≤x6_1)=true:=decide_eq_true c7;clear c7;replace H:=Option.bind_eq_some_iff.mp H;obtain ⟨t75,A80,H⟩:=H;replace H:(if t75=true then (ancepsref40_Few.l1 k1 l0 x3_1 x4_1 (wrap64 (x5_1+(((rd_T34 l0 x6_1).f1).length:Int))) x6_1 0) else (some false))=some r:=H;have A8:=zA A80;clear A80;have HC9:=zA H;clear H;have p39:0≤(x6_1:Int):=of_decide_eq_true zh;have q39:x6_1<(l0.length:Int):=of_decide_eq_true zh;obtain ⟨ad39,A39_0,c39_0,A39_1,c39_1,e39,hx39_0,hx39_1,hl39_0,hi39_0,hl39_1,hi39_1⟩:=at_T34 HR0.out x6_1 p39 q39
       cases e39
       replace hx39_0:=(HB.out.cell (World.block_lt_of_cell? w _ hx39_0)).trans hx39_0;replace hx39_1:=(HB.out.cell (World.block_lt_of_cell? w _ hx39_1)).trans hx39_1;have HR39_0:=zA hi39_0;have HC39_0:=zA hl39_0;clear hi39_0 hl39_0;have HR39_1:=zA hi39_1;have HC39_1:=zA hl39_1;clear hi39_1 hl39_1;replace p39:=eq_true p39;replace q39:=eq_true q39
       go_upto_if 23 with (first|((with_reducible refine gate_callee (f:=12) rfl ?_);refine goesL_ (some 22) rfl rfl Try.func12 zK rfl #[.agg #[.slice A39_0 ((rd_T34 l0 x6_1).f0).length c39_0,.slice A39_1 ((rd_T34 l0 x6_1).f1).length c39_1]] rfl zM ?_;(with_reducible refine (ancepsref38_Few.calls _ _ ((rd_T34 l0 x6_1).f0) _ _ ((rd_T34 l0 x6_1).f1) t75 _ ?side1 ?side2 ?side3 ?side4 A8.out).mono ?_);(case side1=>exact zC (Kd.C_below HR39_0.out HB.out));(case side2=>exact HC39_0.out);(case side3=>exact zC (Kd.C_below HR39_1.out HB.out));(case side4=>exact HC39_1.out);rintro e w10 ⟨rfl,hb⟩;refine ⟨_,rfl,?_⟩;replace HO_3:=zA (Kd.R_below (zR HO_3) hb);replace HB:=zA (below_step zB hb);(try clear hb);(try clear hb2);(try clear hk);(try clear hi)))
       (try simp only [Act.put,zi,zs,zt]);have H:=HC9.out;clear HC9
       by_cases c11:t75=true
       ·subst c11
        have H1:(ancepsref40_Few.l1 k1 l0 x3_1 x4_1 (wrap64 (x5_1+(((rd_T34 l0 x6_1).f1).length:Int))) x6_1 0)=some r:=by rw [if_pos rfl] at H;exact H
        clear H;have H:=H1;clear H1;have H':=zA H;clear H;have p43:0≤(x6_1:Int):=of_decide_eq_true zh;have q43:x6_1<(l0.length:Int):=of_decide_eq_true zh;obtain ⟨ad43,A43_0,c43_0,A43_1,c43_1,e43,hx43_0,hx43_1,hl43_0,hi43_0,hl43_1,hi43_1⟩:=at_T34 HR0.out x6_1 p43 q43
        obtain rfl:ad39=ad43:=(by injection e43)
        replace hx43_0:=(HB.out.cell (World.block_lt_of_cell? w _ hx43_0)).trans hx43_0;replace hx43_1:=(HB.out.cell (World.block_lt_of_cell? w _ hx43_1)).trans hx43_1;have HR43_0:=zA hi43_0;have HC43_0:=zA hl43_0;clear hi43_0 hl43_0;have HR43_1:=zA hi43_1;have HC43_1:=zA hl43_1;clear hi43_1 hl43_1;replace p43:=eq_true p43;replace q43:=eq_true q43
        go_wp2
        go_loopg [4,7] k1 (fun kq v4 v7 w'=>∃ (x3_2:List Bool) (x4_2:Int) (x7_2:Int),v4=.int .i64 x4_2∧v7=.int .i64 x7_2∧Aside0 (ancepsref40_Few.l1 kq l0 x3_2 x4_2 (wrap64 (x5_1+(((rd_T34 l0 x6_1).f1).length:Int))) x6_1 x7_2=some r)∧Aside0 (kq≤k1)∧Aside0 (Kd.R Kd.bool 76 w' w.heap.size (fun _=>True) (.slice (some ⟨ga,0,none⟩) 24 24) x3_2)∧Aside0 (Below w.heap.size w w'))
        case atStart=>exact ⟨(x3_1),(x4_1),(0),zT,zT,H',⟨Nat.le_refl _⟩,⟨by refine zr ?_;exact HO_3.out⟩,⟨zv0 HB⟩⟩
        case round=>
         clear H'
         try clear c2
         try clear c2b0
         try clear c2b1
         try clear c3
         try clear c3b0
         try clear c3b1
         try clear c6
         try clear c6b0
         try clear c7
         try clear c7b0
         try clear c11
         try clear hx39_0
         try clear hx39_1
         try clear hx43_0
         try clear hx43_1
         try clear p39
         try clear p43
         try clear q39
         try clear q43
         obtain ⟨x3_2,x4_2,x7_2,rfl,rfl,HA,HK2,HO_3,HB⟩:=hrel
         cases gk with
         | zero=>exact absurd HA.out (by simp [ancepsref40_Few.l1])
         | succ k2=>
          have H:=HA.out;clear HA;simp only [ancepsref40_Few.l1] at H
          by_cases c12:0≤x6_1
          ·rw [if_pos c12] at H;have c12b0:decide (0≤x6_1)=true:=decide_eq_true c12;clear c12
           (first|rw [c12b0]|(simp only [i64_w,i32_w];rw [c12b0])|skip)
           by_cases c13:x6_1<(l0.length:Int)
           ·rw [if_pos c13] at H;have c13b0:decide (x6_1<(l0.length:Int))=true:=decide_eq_true c13;clear c13
            by_cases c14:x7_2<(((rd_T34 l0 x6_1).f0).length:Int)
            ·rw [if_pos c14] at H;have c14b0:decide (x7_2<(((rd_T34 l0 x6_1).f0).length:Int))=true:=decide_eq_true c14;clear c14
             by_cases c15:0≤x7_2
             ·rw [if_pos c15] at H;have c15b0:decide (0≤x7_2)=true:=decide_eq_true c15;clear c15
              by_cases c16:(rd ((rd_T34 l0 x6_1).f0) x7_2)≥0
              ·rw [if_pos c16] at H;have c16b0:decide (0≤(rd ((rd_T34 l0 x6_1).f0) x7_2))=true:=decide_eq_true c16;clear c16
               by_cases c17:(rd ((rd_T34 l0 x6_1).f0) x7_2)<24
               ·rw [if_pos c17] at H;have c17b0:decide ((rd ((rd_T34 l0 x6_1).f0) x7_2)<24)=true:=decide_eq_true c17;clear c17
                by_cases c18:0≤(rd ((rd_T34 l0 x6_1).f0) x7_2)
                ·rw [if_pos c18] at H;have c18b0:decide (0≤(rd ((rd_T34 l0 x6_1).f0) x7_2))=true:=decide_eq_true c18;clear c18
                 by_cases c19:(rd ((rd_T34 l0 x6_1).f0) x7_2)<(x3_2.length:Int)
                 ·rw [if_pos c19] at H;have c19b0:decide ((rd ((rd_T34 l0 x6_1).f0) x7_2)<(x3_2.length:Int))=true:=decide_eq_true c19;clear c19
                  obtain ⟨bq20,hbq20⟩:∃ b_:Bool,b_=(rdOf false x3_2 (rd ((rd_T34 l0 x6_1).f0) x7_2)):=⟨_,rfl⟩
                  replace H:(if (bq20=true) then (ancepsref40_Few.l1 k2 l0 x3_2 x4_2 (wrap64 (x5_1+(((rd_T34 l0 x6_1).f1).length:Int))) x6_1 (wrap64 (x7_2+1))) else (ancepsref40_Few.l1 k2 l0 (x3_2.set ((rd ((rd_T34 l0 x6_1).f0) x7_2):Int).toNat true) (wrap64 (x4_2+1)) (wrap64 (x5_1+(((rd_T34 l0 x6_1).f1).length:Int))) x6_1 (wrap64 (x7_2+1))))=some r:=by rw [← hbq20] at H;exact H
                  have Nbq20:=zA hbq20;clear hbq20
                  by_cases c21:(bq20=true)
                  ·subst c21
                   have H1:(ancepsref40_Few.l1 k2 l0 x3_2 x4_2 (wrap64 (x5_1+(((rd_T34 l0 x6_1).f1).length:Int))) x6_1 (wrap64 (x7_2+1)))=some r:=by rw [if_pos rfl] at H;exact H
                   clear H;have H:=H1;clear H1;have H':=zA H;clear H;have p28:0≤(x6_1:Int):=of_decide_eq_true zh;have q28:x6_1<(l0.length:Int):=of_decide_eq_true zh;obtain ⟨ad28,A28_0,c28_0,A28_1,c28_1,e28,hx28_0,hx28_1,hl28_0,hi28_0,hl28_1,hi28_1⟩:=at_T34 HR0.out x6_1 p28 q28
                   obtain rfl:ad39=ad28:=(by injection e28)
                   replace hx28_0:=(HB.out.cell (World.block_lt_of_cell? w _ hx28_0)).trans hx28_0;replace hx28_1:=(HB.out.cell (World.block_lt_of_cell? w _ hx28_1)).trans hx28_1;have HR28_0:=zA hi28_0;have HC28_0:=zA hl28_0;clear hi28_0 hl28_0;have HR28_1:=zA hi28_1;have HC28_1:=zA hl28_1;clear hi28_1 hl28_1;replace p28:=eq_true p28;replace q28:=eq_true q28;have p33:0≤(x6_1:Int):=of_decide_eq_true zh;have q33:x6_1<(l0.length:Int):=of_decide_eq_true zh;obtain ⟨ad33,A33_0,c33_0,A33_1,c33_1,e33,hx33_0,hx33_1,hl33_0,hi33_0,hl33_1,hi33_1⟩:=at_T34 HR0.out x6_1 p33 q33
                   obtain rfl:ad39=ad33:=(by injection e33)
                   replace hx33_0:=(HB.out.cell (World.block_lt_of_cell? w _ hx33_0)).trans hx33_0;replace hx33_1:=(HB.out.cell (World.block_lt_of_cell? w _ hx33_1)).trans hx33_1;have HR33_0:=zA hi33_0;have HC33_0:=zA hl33_0;clear hi33_0 hl33_0;have HR33_1:=zA hi33_1;have HC33_1:=zA hl33_1;clear hi33_1 hl33_1;replace p33:=eq_true p33;replace q33:=eq_true q33;have ea_:=Option.some.inj (hx28_0.symm.trans hx33_0)
                   injection ea_ with ea_ en_ ec_
                   subst ea_;subst ec_;clear en_;have ea_:=Option.some.inj (hx28_1.symm.trans hx33_1)
                   injection ea_ with ea_ en_ ec_
                   subst ea_;subst ec_;clear en_;have p42:0≤(x7_2:Int):=of_decide_eq_true zh;have q42:x7_2<(((rd_T34 l0 x6_1).f0).length:Int):=of_decide_eq_true zh;obtain ⟨ad42,e42,hx42_0⟩:=Kd.at_int HR33_0.out x7_2 p42 q42
                   cases e42
                   replace hx42_0:=(HB.out.cell (World.block_lt_of_cell? w _ hx42_0)).trans hx42_0;replace p42:=eq_true p42;replace q42:=eq_true q42;have p48:0≤((rd ((rd_T34 l0 x6_1).f0) x7_2):Int):=of_decide_eq_true zh;have q48:(rd ((rd_T34 l0 x6_1).f0) x7_2)<(x3_2.length:Int):=of_decide_eq_true zh;have hl24_:=arr_len HO_3.out;have ha24_:((rd ((rd_T34 l0 x6_1).f0) x7_2)<24)=True:=eq_true (by omega);have hx48_0:=(Kd.R_celln false HO_3.out (rd ((rd_T34 l0 x6_1).f0) x7_2) p48 (by omega)).1;(try rw [← Nbq20.out] at hx48_0);replace p48:=eq_true p48;replace q48:=eq_true q48
                   go_wp2
                   go_roundg k2
                   case measure=>have:=HK1.out;have:=HK2.out;omega
                   case rel=>exact ⟨(x3_2),(x4_2),(wrap64 (x7_2+1)),zT,zT,H',⟨by have:=HK1.out;have:=HK2.out;omega⟩,⟨by refine zr ?_;exact HO_3.out⟩,⟨zv0 HB⟩⟩
                  ·replace c21:=Bool.eq_false_iff.mpr c21;subst c21
                   have H1:(ancepsref40_Few.l1 k2 l0 (x3_2.set ((rd ((rd_T34 l0 x6_1).f0) x7_2):Int).toNat true) (wrap64 (x4_2+1)) (wrap64 (x5_1+(((rd_T34 l0 x6_1).f1).length:Int))) x6_1 (wrap64 (x7_2+1)))=some r:=by rw [if_neg (show ¬ (false=true) by decide)] at H;exact H
                   clear H;have H:=H1;clear H1
                   obtain ⟨y58,hy58⟩:∃ y_:List Bool,y_=(x3_2.set ((rd ((rd_T34 l0 x6_1).f0) x7_2):Int).toNat true):=⟨_,rfl⟩
                   replace H:(ancepsref40_Few.l1 k2 l0 y58 (wrap64 (x4_2+1)) (wrap64 (x5_1+(((rd_T34 l0 x6_1).f1).length:Int))) x6_1 (wrap64 (x7_2+1)))=some r:=by first|(rw [hy58];with_reducible exact H)|(have H2_:=(Option.bind_some _ _).symm.trans H;rw [hy58];with_reducible exact H2_)|(have H2_:=(Option.bind_some _ _).symm.trans H;with_reducible exact H2_)|with_reducible exact H|(rw [hy58];exact H)|exact H
                   have Ny58:=zA hy58;clear hy58;have H':=zA H;clear H;have p28:0≤(x6_1:Int):=of_decide_eq_true zh;have q28:x6_1<(l0.length:Int):=of_decide_eq_true zh;obtain ⟨ad28,A28_0,c28_0,A28_1,c28_1,e28,hx28_0,hx28_1,hl28_0,hi28_0,hl28_1,hi28_1⟩:=at_T34 HR0.out x6_1 p28 q28
                   obtain rfl:ad39=ad28:=(by injection e28)
                   replace hx28_0:=(HB.out.cell (World.block_lt_of_cell? w _ hx28_0)).trans hx28_0;replace hx28_1:=(HB.out.cell (World.block_lt_of_cell? w _ hx28_1)).trans hx28_1;have HR28_0:=zA hi28_0;have HC28_0:=zA hl28_0;clear hi28_0 hl28_0;have HR28_1:=zA hi28_1;have HC28_1:=zA hl28_1;clear hi28_1 hl28_1;replace p28:=eq_true p28;replace q28:=eq_true q28;have p33:0≤(x6_1:Int):=of_decide_eq_true zh;have q33:x6_1<(l0.length:Int):=of_decide_eq_true zh;obtain ⟨ad33,A33_0,c33_0,A33_1,c33_1,e33,hx33_0,hx33_1,hl33_0,hi33_0,hl33_1,hi33_1⟩:=at_T34 HR0.out x6_1 p33 q33
                   obtain rfl:ad39=ad33:=(by injection e33)
                   replace hx33_0:=(HB.out.cell (World.block_lt_of_cell? w _ hx33_0)).trans hx33_0;replace hx33_1:=(HB.out.cell (World.block_lt_of_cell? w _ hx33_1)).trans hx33_1;have HR33_0:=zA hi33_0;have HC33_0:=zA hl33_0;clear hi33_0 hl33_0;have HR33_1:=zA hi33_1;have HC33_1:=zA hl33_1;clear hi33_1 hl33_1;replace p33:=eq_true p33;replace q33:=eq_true q33;have ea_:=Option.some.inj (hx28_0.symm.trans hx33_0)
                   injection ea_ with ea_ en_ ec_
                   subst ea_;subst ec_;clear en_;have ea_:=Option.some.inj (hx28_1.symm.trans hx33_1)
                   injection ea_ with ea_ en_ ec_
                   subst ea_;subst ec_;clear en_;have p42:0≤(x7_2:Int):=of_decide_eq_true zh;have q42:x7_2<(((rd_T34 l0 x6_1).f0).length:Int):=of_decide_eq_true zh;obtain ⟨ad42,e42,hx42_0⟩:=Kd.at_int HR33_0.out x7_2 p42 q42
                   cases e42
                   replace hx42_0:=(HB.out.cell (World.block_lt_of_cell? w _ hx42_0)).trans hx42_0;replace p42:=eq_true p42;replace q42:=eq_true q42;have p48:0≤((rd ((rd_T34 l0 x6_1).f0) x7_2):Int):=of_decide_eq_true zh;have q48:(rd ((rd_T34 l0 x6_1).f0) x7_2)<(x3_2.length:Int):=of_decide_eq_true zh;have hl24_:=arr_len HO_3.out;have ha24_:((rd ((rd_T34 l0 x6_1).f0) x7_2)<24)=True:=eq_true (by omega);have hx48_0:=(Kd.R_celln false HO_3.out (rd ((rd_T34 l0 x6_1).f0) x7_2) p48 (by omega)).1;(try rw [← Nbq20.out] at hx48_0);replace p48:=eq_true p48;replace q48:=eq_true q48;have p23:0≤((rd ((rd_T34 l0 x6_1).f0) x7_2):Int):=of_decide_eq_true zh
                   have q23:((rd ((rd_T34 l0 x6_1).f0) x7_2):Int)<24:=by first|omega|exact of_decide_eq_true zh|(have h2_:(rd ((rd_T34 l0 x6_1).f0) x7_2)<(x3_2.length:Int):=of_decide_eq_true zh;have h3_:=arr_len HO_3.out;omega)
                   have hl24b_:=arr_len HO_3.out;have gb23:=Kd.R_base HO_3.out ga rfl;have GB23:=zA gb23;clear gb23
                   (first|simp only [add_plain] at hx48_0|skip)
                   obtain ⟨hx23_0,hf23_0⟩:=Kd.R_celln false HO_3.out ((rd ((rd_T34 l0 x6_1).f0) x7_2):Int) p23 q23;replace p23:=eq_true p23;replace q23:=eq_true q23;have HP25:=Kd.R_putg HO_3.out ((rd ((rd_T34 l0 x6_1).f0) x7_2):Int) true
                   go_wp2_with (first|((with_reducible refine gate_store (t:=4) (p:=63) rfl ?_);refine store_event (t:=4) (p:=63) (v:=?vo_w26) (w1:=(wr.setCell ⟨ga,((rd ((rd_T34 l0 x6_1).f0) x7_2):Int).toNat,none⟩ (.bool true))) ?hg ?ho ?hn ?hr ?_;(case ho=>rfl);(case hg=>rfl);(case hn=>rfl);(case hr=>first|(go_simp;done)|(go_simp;rfl));intro w26 hw;have hg:wr.grownBy w26 (some ga):=(by rw [hw];exact HP25.2);have hp_:Kd.R Kd.bool 76 w26 w.heap.size (fun _=>True) (.slice (some ⟨ga,0,none⟩) 24 24) y58:=(by rw [hw,Ny58.out];exact HP25.1);clear HP25;replace HO_3:=zA (hp_);replace HB:=zA ((by rw [hw];exact below_set (HB.out) GB23.out:Below w.heap.size w w26));clear hg hw hp_))
                   go_roundg k2
                   case measure=>have:=HK1.out;have:=HK2.out;omega
                   case rel=>exact ⟨(y58),(wrap64 (x4_2+1)),(wrap64 (x7_2+1)),zT,zT,H',⟨by have:=HK1.out;have:=HK2.out;omega⟩,⟨by refine zr ?_;exact HO_3.out⟩,⟨zv0 HB⟩⟩
                 ·rw [if_neg c19] at H;exact absurd H (by simp)
                ·rw [if_neg c18] at H;exact absurd H (by simp)
               ·rw [if_neg c17] at H;have c17b0:decide ((rd ((rd_T34 l0 x6_1).f0) x7_2)<24)=false:=decide_eq_false c17;clear c17;have H':=zA H;clear H;have p28:0≤(x6_1:Int):=of_decide_eq_true zh;have q28:x6_1<(l0.length:Int):=of_decide_eq_true zh;obtain ⟨ad28,A28_0,c28_0,A28_1,c28_1,e28,hx28_0,hx28_1,hl28_0,hi28_0,hl28_1,hi28_1⟩:=at_T34 HR0.out x6_1 p28 q28
                obtain rfl:ad39=ad28:=(by injection e28)
                replace hx28_0:=(HB.out.cell (World.block_lt_of_cell? w _ hx28_0)).trans hx28_0;replace hx28_1:=(HB.out.cell (World.block_lt_of_cell? w _ hx28_1)).trans hx28_1;have HR28_0:=zA hi28_0;have HC28_0:=zA hl28_0;clear hi28_0 hl28_0;have HR28_1:=zA hi28_1;have HC28_1:=zA hl28_1;clear hi28_1 hl28_1;replace p28:=eq_true p28;replace q28:=eq_true q28;have p33:0≤(x6_1:Int):=of_decide_eq_true zh;have q33:x6_1<(l0.length:Int):=of_decide_eq_true zh;obtain ⟨ad33,A33_0,c33_0,A33_1,c33_1,e33,hx33_0,hx33_1,hl33_0,hi33_0,hl33_1,hi33_1⟩:=at_T34 HR0.out x6_1 p33 q33
                obtain rfl:ad39=ad33:=(by injection e33)
                replace hx33_0:=(HB.out.cell (World.block_lt_of_cell? w _ hx33_0)).trans hx33_0;replace hx33_1:=(HB.out.cell (World.block_lt_of_cell? w _ hx33_1)).trans hx33_1;have HR33_0:=zA hi33_0;have HC33_0:=zA hl33_0;clear hi33_0 hl33_0;have HR33_1:=zA hi33_1;have HC33_1:=zA hl33_1;clear hi33_1 hl33_1;replace p33:=eq_true p33;replace q33:=eq_true q33;have ea_:=Option.some.inj (hx28_0.symm.trans hx33_0)
                injection ea_ with ea_ en_ ec_
                subst ea_;subst ec_;clear en_;have ea_:=Option.some.inj (hx28_1.symm.trans hx33_1)
                injection ea_ with ea_ en_ ec_
                subst ea_;subst ec_;clear en_;have p42:0≤(x7_2:Int):=of_decide_eq_true zh;have q42:x7_2<(((rd_T34 l0 x6_1).f0).length:Int):=of_decide_eq_true zh;obtain ⟨ad42,e42,hx42_0⟩:=Kd.at_int HR33_0.out x7_2 p42 q42
                cases e42
                replace hx42_0:=(HB.out.cell (World.block_lt_of_cell? w _ hx42_0)).trans hx42_0;replace p42:=eq_true p42;replace q42:=eq_true q42
                go_wp2
                go_roundg k2
                case measure=>have:=HK1.out;have:=HK2.out;omega
                case rel=>exact ⟨(x3_2),(x4_2),(wrap64 (x7_2+1)),zT,zT,H',⟨by have:=HK1.out;have:=HK2.out;omega⟩,⟨by refine zr ?_;exact HO_3.out⟩,⟨zv0 HB⟩⟩
              ·rw [if_neg c16] at H;have c16b0:decide (0≤(rd ((rd_T34 l0 x6_1).f0) x7_2))=false:=decide_eq_false c16;clear c16;have H':=zA H;clear H;have p28:0≤(x6_1:Int):=of_decide_eq_true zh;have q28:x6_1<(l0.length:Int):=of_decide_eq_true zh;obtain ⟨ad28,A28_0,c28_0,A28_1,c28_1,e28,hx28_0,hx28_1,hl28_0,hi28_0,hl28_1,hi28_1⟩:=at_T34 HR0.out x6_1 p28 q28
               obtain rfl:ad39=ad28:=(by injection e28)
               replace hx28_0:=(HB.out.cell (World.block_lt_of_cell? w _ hx28_0)).trans hx28_0;replace hx28_1:=(HB.out.cell (World.block_lt_of_cell? w _ hx28_1)).trans hx28_1;have HR28_0:=zA hi28_0;have HC28_0:=zA hl28_0;clear hi28_0 hl28_0;have HR28_1:=zA hi28_1;have HC28_1:=zA hl28_1;clear hi28_1 hl28_1;replace p28:=eq_true p28;replace q28:=eq_true q28;have p33:0≤(x6_1:Int):=of_decide_eq_true zh;have q33:x6_1<(l0.length:Int):=of_decide_eq_true zh;obtain ⟨ad33,A33_0,c33_0,A33_1,c33_1,e33,hx33_0,hx33_1,hl33_0,hi33_0,hl33_1,hi33_1⟩:=at_T34 HR0.out x6_1 p33 q33
               obtain rfl:ad39=ad33:=(by injection e33)
               replace hx33_0:=(HB.out.cell (World.block_lt_of_cell? w _ hx33_0)).trans hx33_0;replace hx33_1:=(HB.out.cell (World.block_lt_of_cell? w _ hx33_1)).trans hx33_1;have HR33_0:=zA hi33_0;have HC33_0:=zA hl33_0;clear hi33_0 hl33_0;have HR33_1:=zA hi33_1;have HC33_1:=zA hl33_1;clear hi33_1 hl33_1;replace p33:=eq_true p33;replace q33:=eq_true q33;have ea_:=Option.some.inj (hx28_0.symm.trans hx33_0)
               injection ea_ with ea_ en_ ec_
               subst ea_;subst ec_;clear en_;have ea_:=Option.some.inj (hx28_1.symm.trans hx33_1)
               injection ea_ with ea_ en_ ec_
               subst ea_;subst ec_;clear en_;have p42:0≤(x7_2:Int):=of_decide_eq_true zh;have q42:x7_2<(((rd_T34 l0 x6_1).f0).length:Int):=of_decide_eq_true zh;obtain ⟨ad42,e42,hx42_0⟩:=Kd.at_int HR33_0.out x7_2 p42 q42
               cases e42
               replace hx42_0:=(HB.out.cell (World.block_lt_of_cell? w _ hx42_0)).trans hx42_0;replace p42:=eq_true p42;replace q42:=eq_true q42
               go_wp2
               go_roundg k2
               case measure=>have:=HK1.out;have:=HK2.out;omega
               case rel=>exact ⟨(x3_2),(x4_2),(wrap64 (x7_2+1)),zT,zT,H',⟨by have:=HK1.out;have:=HK2.out;omega⟩,⟨by refine zr ?_;exact HO_3.out⟩,⟨zv0 HB⟩⟩
             ·rw [if_neg c15] at H;exact absurd H (by simp)
            ·rw [if_neg c14] at H;have c14b0:decide (x7_2<(((rd_T34 l0 x6_1).f0).length:Int))=false:=decide_eq_false c14;clear c14;have H':=zA H;clear H;have p28:0≤(x6_1:Int):=of_decide_eq_true zh;have q28:x6_1<(l0.length:Int):=of_decide_eq_true zh;obtain ⟨ad28,A28_0,c28_0,A28_1,c28_1,e28,hx28_0,hx28_1,hl28_0,hi28_0,hl28_1,hi28_1⟩:=at_T34 HR0.out x6_1 p28 q28
             obtain rfl:ad39=ad28:=(by injection e28)
             replace hx28_0:=(HB.out.cell (World.block_lt_of_cell? w _ hx28_0)).trans hx28_0;replace hx28_1:=(HB.out.cell (World.block_lt_of_cell? w _ hx28_1)).trans hx28_1;have HR28_0:=zA hi28_0;have HC28_0:=zA hl28_0;clear hi28_0 hl28_0;have HR28_1:=zA hi28_1;have HC28_1:=zA hl28_1;clear hi28_1 hl28_1;replace p28:=eq_true p28;replace q28:=eq_true q28
             go_wp2
             go_roundg k2
             case measure=>have:=HK1.out;have:=HK2.out;omega
             case rel=>exact ⟨(x3_2),(x4_2),((wrap64 (x5_1+(((rd_T34 l0 x6_1).f1).length:Int)))),(wrap64 (x6_1+1)),zT,zT,zT,H',⟨by have:=HK1.out;have:=HK2.out;omega⟩,⟨by refine zr ?_;exact HO_3.out⟩,⟨zv0 HB⟩⟩
           ·rw [if_neg c13] at H;exact absurd H (by simp)
          ·rw [if_neg c12] at H;exact absurd H (by simp)
       ·replace c11:=Bool.eq_false_iff.mpr c11;subst c11
        have H1:(some false)=some r:=by rw [if_neg (show ¬ (false=true) by decide)] at H;exact H
        clear H;have H:=H1;clear H1;obtain rfl:=Option.some.inj H
        go_wp2
        go_ret
        exact ⟨ze,zv0 HB⟩
      ·rw [if_neg c7] at H;exact absurd H (by simp)
     ·rw [if_neg c6] at H;have c6b0:decide (x6_1<(l0.length:Int))=false:=decide_eq_false c6;clear c6
      by_cases c27:x4_1≤10
      ·rw [if_pos c27] at H;have c27b0:decide (x4_1≤10)=true:=decide_eq_true c27;clear c27;obtain rfl:=Option.some.inj H
       go_wp2
       go_ret
       exact ⟨ze,zv0 HB⟩
      ·rw [if_neg c27] at H;have c27b0:decide (x4_1≤10)=false:=decide_eq_false c27;clear c27;obtain rfl:=Option.some.inj H
       go_wp2
       go_ret
       exact ⟨ze,zv0 HB⟩
  ·rw [if_neg c3] at H;exact absurd H (by simp)
def ancepsref41_FewTables.f (k:Nat) (l0:List (S34)):Option (Bool):=(ancepsref40_Few.f k l0).bind fun t73=>(if t73=true then ((ancepsref40_Valid.f k l0).bind fun t51=>(if t51=0 then ((ancepsref40_Vars.f k l0).bind fun t53=>(some (decide ((t53.length:Int)≤8)))) else (some true))) else (some false))
theorem ancepsref41_FewTables.mono:∀ a0 k,LeO (ancepsref41_FewTables.f k a0) (ancepsref41_FewTables.f (k+1) a0):=by
 intro a0 k
 unfold ancepsref41_FewTables.f
 repeat' first
   | (with_reducible exact ancepsref40_Few.mono _ _)
   | (with_reducible exact ancepsref40_Valid.mono _ _)
   | (with_reducible exact ancepsref40_Vars.mono _ _)
   | (with_reducible exact LeO.refl _)
   | (with_reducible exact LeO.none _)
   | (with_reducible refine LeO.ite ?_ ?_)
   | (with_reducible refine LeO.bind ?_ (fun _=>?_))
   | exact LeO.none _
   | refine LeO.ite ?_ ?_
   | refine LeO.bind ?_ (fun _=>?_)
set_option maxHeartbeats 8000000 in
set_option maxRecDepth 100000 in
theorem ancepsref41_FewTables.calls (k:Nat) (A0:Option Addr) (c0:Nat) (l0:List (S34)) (r:Bool) (w:World) (hr0:Kd.C k34 w A0 l0.length l0) (hc0:l0.length≤c0) (h:ancepsref41_FewTables.f k l0=some r) :
  Calls Try.prog 7 #[.slice A0 l0.length c0] w fun e w'=>e=.returned (.bool r)∧Below w.heap.size w w':=by
 have HR0:=zA hr0;have HC0:=zA hc0;clear hr0 hc0;have HB:=zA (Below.refl w.heap.size w);have H:((ancepsref40_Few.f k l0).bind fun t73=>(if t73=true then ((ancepsref40_Valid.f k l0).bind fun t51=>(if t51=0 then ((ancepsref40_Vars.f k l0).bind fun t53=>(some (decide ((t53.length:Int)≤8)))) else (some true))) else (some false)))=some r:=h;clear h;replace H:=Option.bind_eq_some_iff.mp H;obtain ⟨t73,A20,H⟩:=H;replace H:(if t73=true then ((ancepsref40_Valid.f k l0).bind fun t51=>(if t51=0 then ((ancepsref40_Vars.f k l0).bind fun t53=>(some (decide ((t53.length:Int)≤8)))) else (some true))) else (some false))=some r:=H;have A2:=zA A20;clear A20;have HC3:=zA H;clear H
 go_enter Try.func7,Try.ntmps7
 go_upto_if 5 with (first|((with_reducible refine gate_callee (f:=25) rfl ?_);refine goesL_ (some 4) rfl rfl Try.func25 zK rfl #[.slice A0 l0.length c0] rfl zM ?_;(with_reducible refine (ancepsref40_Few.calls k _ _ l0 t73 _ ?side1 ?side2 A2.out).mono ?_);(case side1=>repeat (first|exact HR0.out|(with_reducible refine Kd.C_alloc ?_ _)|(with_reducible refine Kd.C_drewN ?_ _)|(with_reducible refine Kd.C_drew ?_)));(case side2=>exact HC0.out);rintro e w4 ⟨rfl,hb⟩;refine ⟨_,rfl,?_⟩;replace HB:=zA (below_step zB hb);(try clear hb);(try clear hb2);(try clear hk);(try clear hi)))
 (try simp only [Act.put,zi,zs,zt]);have H:=HC3.out;clear HC3
 by_cases c5:t73=true
 ·subst c5
  have H1:((ancepsref40_Valid.f k l0).bind fun t51=>(if t51=0 then ((ancepsref40_Vars.f k l0).bind fun t53=>(some (decide ((t53.length:Int)≤8)))) else (some true)))=some r:=by rw [if_pos rfl] at H;exact H
  clear H;have H:=H1;clear H1;replace H:=Option.bind_eq_some_iff.mp H;obtain ⟨t51,A60,H⟩:=H;replace H:(if t51=0 then ((ancepsref40_Vars.f k l0).bind fun t53=>(some (decide ((t53.length:Int)≤8)))) else (some true))=some r:=H;have A6:=zA A60;clear A60;have HC7:=zA H;clear H
  go_upto_if 8 with (first|((with_reducible refine gate_callee (f:=26) rfl ?_);refine goesL_ (some 7) rfl rfl Try.func26 zK rfl #[.slice A0 l0.length c0] rfl zM ?_;(with_reducible refine (ancepsref40_Valid.calls k _ _ l0 t51 _ ?side1 ?side2 A6.out).mono ?_);(case side1=>exact zC (Kd.C_below HR0.out HB.out));(case side2=>exact HC0.out);rintro e w8 ⟨rfl,hb⟩;refine ⟨_,rfl,?_⟩;replace HB:=zA (below_step zB hb);(try clear hb);(try clear hb2);(try clear hk);(try clear hi)))
  (try simp only [Act.put,zi,zs,zt]);have H:=HC7.out;clear HC7
  by_cases c9:t51=0
  ·rw [if_pos c9] at H;have c9b0:(t51 == 0)=true:=beq_iff_eq.mpr c9;have c9b1:(t51 != 0)=false:=bne_eq_false_iff_eq.mpr c9;clear c9
   (first|rw [c9b0]|(simp only [i64_w,i32_w];rw [c9b0])|skip)
   (try rw [c9b1]);replace H:=Option.bind_eq_some_iff.mp H;obtain ⟨t53,A77,H⟩:=H;replace H:(some (decide ((t53.length:Int)≤8)))=some r:=H;have A10:=zA A77;clear A77;obtain rfl:=Option.some.inj H
   go_wp2_with (first|((with_reducible refine gate_callee (f:=16) rfl ?_);refine goesL_ (some 10) rfl rfl Try.func16 zK rfl #[.slice A0 l0.length c0] rfl zM ?_;(with_reducible refine (ancepsref40_Vars.calls k _ _ l0 t53 _ ?side1 ?side2 A10.out).mono ?_);(case side1=>exact zC (Kd.C_below HR0.out HB.out));(case side2=>exact HC0.out);rintro e w11 ⟨v85,rfl,ho0,hb⟩;refine ⟨_,rfl,?_⟩;have HO82:=zA (Kd.R_lower ho0 (below_size zB));replace HB:=zA (below_step zB hb);(try clear hb);(try clear hb2);(try clear hk);(try clear hi);(try clear ho0);obtain ⟨Ao12,co12,eo12⟩:=Kd.R_slice HO82.out;subst eo12))
   go_ret
   exact ⟨ze,zv0 HB⟩
  ·rw [if_neg c9] at H;have c9b0:(t51 == 0)=false:=beq_eq_false_iff_ne.mpr c9;have c9b1:(t51 != 0)=true:=bne_iff_ne.mpr c9
   (first|rw [c9b0]|(simp only [i64_w,i32_w];rw [c9b0])|skip)
   (try rw [c9b1]);obtain rfl:=Option.some.inj H
   go_wp2
   go_ret
   exact ⟨ze,zv0 HB⟩
 ·replace c5:=Bool.eq_false_iff.mpr c5;subst c5
  have H1:(some false)=some r:=by rw [if_neg (show ¬ (false=true) by decide)] at H;exact H
  clear H;have H:=H1;clear H1;obtain rfl:=Option.some.inj H
  go_wp2
  go_ret
  exact ⟨ze,zv0 HB⟩
def ancepslaw41_own.l0:Nat→List (S34)→List (S34)→Int→Int→Option ((List (S34)))
 | 0,_,_,_,_=>none
 | k+1,x3,x6,x7,x8=>if x8<x7 then (if 0≤x8 then (if x8<(x6.length:Int) then ((slices_Clone_int_int.f ((rd_T34 x6 x8).f0)).bind fun t68=>((slices_Clone_int_int.f ((rd_T34 x6 x8).f1)).bind fun t59=>(if x3.length<2932031007402 then (ancepslaw41_own.l0 k (x3++[(⟨t68,t59⟩:S34)]) x6 x7 (wrap64 (x8+1))) else (none)))) else (none)) else (none)) else (some x3)
def ancepslaw41_own.f (k:Nat) (l0:List (S34)):Option ((List (S34))):=ancepslaw41_own.l0 k ([]:List (S34)) l0 (l0.length:Int) 0
theorem ancepslaw41_own.mono_l:∀ k,(∀ y0 y1 y2 y3,LeO (ancepslaw41_own.l0 k y0 y1 y2 y3) (ancepslaw41_own.l0 (k+1) y0 y1 y2 y3))
 | 0=>fun _ _ _ _ r h=>by simp [ancepslaw41_own.l0] at h
 | k+1=>by
  have ih0:=ancepslaw41_own.mono_l k
  ·intro y0 y1 y2 y3
   unfold ancepslaw41_own.l0
   repeat' first
   | (with_reducible exact ih0 _ _ _ _)
   | (with_reducible exact LeO.refl _)
   | (with_reducible exact LeO.none _)
   | (with_reducible refine LeO.ite ?_ ?_)
   | (with_reducible refine LeO.bind ?_ (fun _=>?_))
   | exact LeO.none _
   | refine LeO.ite ?_ ?_
   | refine LeO.bind ?_ (fun _=>?_)
theorem ancepslaw41_own.mono:∀ a0 k,LeO (ancepslaw41_own.f k a0) (ancepslaw41_own.f (k+1) a0):=by
 intro a0 k;have ih0:=ancepslaw41_own.mono_l k
 unfold ancepslaw41_own.f
 repeat' first
   | (with_reducible exact ih0 _ _ _ _)
   | (with_reducible exact LeO.refl _)
   | (with_reducible exact LeO.none _)
   | (with_reducible refine LeO.ite ?_ ?_)
   | (with_reducible refine LeO.bind ?_ (fun _=>?_))
   | exact LeO.none _
   | refine LeO.ite ?_ ?_
   | refine LeO.bind ?_ (fun _=>?_)
def ancepslaw41_own.T5:Bool×List (List Nat×List Nat):=(true,[([],[]),([],[]),([1],[1]),([2],[2]),([],[]),([4],[4]),([5,3],[5]),([3,6],[3,6]),([7],[7]),([0,8,6],[0,8]),([9,9,0,1,2,3,4,5,6,7,8,9],[0,9])])
def ancepslaw41_own.B5:List Nat:=[0,0,2,6,0,16,62,126,254,511,1023]
theorem ancepslaw41_own.tab5:rtab .any (opsOf Try.f9 5)=ancepslaw41_own.T5:=by kernel_rfl
theorem ancepslaw41_own.bits5:waitsOk ancepslaw41_own.T5.2 ancepslaw41_own.B5=true:=by kernel_rfl
set_option maxHeartbeats 8000000 in
set_option maxRecDepth 100000 in
theorem ancepslaw41_own.calls (k:Nat) (A0:Option Addr) (c0:Nat) (l0:List (S34)) (r:List (S34)) (w:World) (hr0:Kd.C k34 w A0 l0.length l0) (hc0:l0.length≤c0) (h:ancepslaw41_own.f k l0=some r) :
  Calls Try.prog 9 #[.slice A0 l0.length c0] w fun e w'=>∃ v0_:Value,e=.returned (v0_)∧Kd.S k34 34 w' w.heap.size (fun _=>True) v0_ r∧Below w.heap.size w w':=by
 have hu34:=Try.underlying34;have hu29:=Try.underlying29;have HR0:=zA hr0;have HC0:=zA hc0;clear hr0 hc0;have HB:=zA (Below.refl w.heap.size w);have H:(ancepslaw41_own.l0 k ([]:List (S34)) l0 (l0.length:Int) 0)=some r:=h;clear h;have H':=zA H;clear H
 go_enter Try.func9,Try.ntmps9
 go_wp2
 go_loopg [3,8] k (fun kq v3 v8 w'=>∃ (x3_1:List (S34)) (x8_1:Int),v8=.int .i64 x8_1∧Aside0 (ancepslaw41_own.l0 kq x3_1 l0 (l0.length:Int) x8_1=some r)∧Aside0 (kq≤k)∧Aside0 (Kd.S k34 34 w' w.heap.size (fun _=>True) v3 x3_1)∧Aside0 (Below w.heap.size w w'))
 case atStart=>exact ⟨(([]:List (S34))),(0),zT,H',⟨Nat.le_refl _⟩,⟨by first|exact Kd.S_nil _ _ _ _ _|exact Kd.N_nil _ _ _ _ _|exact Kd.V_nil _ _ _ _ _|exact Kd.Q_nil _ _ _ _ _|exact Kd.R_nil _ _ _ _ _⟩,⟨zv0 HB⟩⟩
 case round=>
  clear H';obtain ⟨x3_1,x8_1,rfl,HA,HK1,HO_3,HB⟩:=hrel
  cases gk with
  | zero=>exact absurd HA.out (by simp [ancepslaw41_own.l0])
  | succ k1=>
   have H:=HA.out;clear HA;simp only [ancepslaw41_own.l0] at H
   by_cases c2:x8_1<(l0.length:Int)
   ·rw [if_pos c2] at H;have c2b0:decide (x8_1<(l0.length:Int))=true:=decide_eq_true c2;clear c2
    by_cases c3:0≤x8_1
    ·rw [if_pos c3] at H;have c3b0:decide (0≤x8_1)=true:=decide_eq_true c3;clear c3
     by_cases c4:x8_1<(l0.length:Int)
     ·rw [if_pos c4] at H;have c4b0:decide (x8_1<(l0.length:Int))=true:=decide_eq_true c4;clear c4;replace H:=Option.bind_eq_some_iff.mp H;obtain ⟨t68,A50,H⟩:=H;replace H:((slices_Clone_int_int.f ((rd_T34 l0 x8_1).f1)).bind fun t59=>(if x3_1.length<2932031007402 then (ancepslaw41_own.l0 k1 (x3_1++[(⟨t68,t59⟩:S34)]) l0 (l0.length:Int) (wrap64 (x8_1+1))) else (none)))=some r:=H;have A5:=zA A50;clear A50;replace H:=Option.bind_eq_some_iff.mp H;obtain ⟨t59,A60,H⟩:=H;replace H:(if x3_1.length<2932031007402 then (ancepslaw41_own.l0 k1 (x3_1++[(⟨t68,t59⟩:S34)]) l0 (l0.length:Int) (wrap64 (x8_1+1))) else (none))=some r:=H;have A6:=zA A60;clear A60
      by_cases c7:x3_1.length<2932031007402
      ·rw [if_pos c7] at H;have LMc7:=zA c7;clear c7
       obtain ⟨y71,hy71⟩:∃ y_:List (S34),y_=(x3_1++[(⟨t68,t59⟩:S34)]):=⟨_,rfl⟩
       replace H:(ancepslaw41_own.l0 k1 y71 l0 (l0.length:Int) (wrap64 (x8_1+1)))=some r:=by first|(rw [hy71];with_reducible exact H)|(have H2_:=(Option.bind_some _ _).symm.trans H;rw [hy71];with_reducible exact H2_)|(have H2_:=(Option.bind_some _ _).symm.trans H;with_reducible exact H2_)|with_reducible exact H|(rw [hy71];exact H)|exact H
       have Ny71:=zA hy71;clear hy71;have H':=zA H;clear H;have p35:0≤(x8_1:Int):=of_decide_eq_true zh;have q35:x8_1<(l0.length:Int):=of_decide_eq_true zh;obtain ⟨ad35,A35_0,c35_0,A35_1,c35_1,e35,hx35_0,hx35_1,hl35_0,hi35_0,hl35_1,hi35_1⟩:=at_T34 HR0.out x8_1 p35 q35
       cases e35
       replace hx35_0:=(HB.out.cell (World.block_lt_of_cell? w _ hx35_0)).trans hx35_0;replace hx35_1:=(HB.out.cell (World.block_lt_of_cell? w _ hx35_1)).trans hx35_1;have HR35_0:=zA hi35_0;have HC35_0:=zA hl35_0;clear hi35_0 hl35_0;have HR35_1:=zA hi35_1;have HC35_1:=zA hl35_1;clear hi35_1 hl35_1;replace p35:=eq_true p35;replace q35:=eq_true q35
       try go_wp2_with (first|((with_reducible refine gate_dst (N:=5) rfl ?_);refine box_event ?hg (N:=5) ?hd (cs:=#[.slice none 0 0,.slice none 0 0]) (t:=34) ?hr ?_;(case hd=>rfl);(case hg=>rfl);(case hr=>first|(go_simp;done)|(go_simp;rfl));intro gb37 hg w8 hbox hb;have BK37:=zA (hbox);have GW37:=zA (zG hg (below_size zB):w.heap.size≤gb37);have GE37:=GW37;replace HO_3:=zA (Kd.S_below (Kd.S_elderB (zS HO_3) gb37 (Nat.le_of_eq hg.symm)) hb);replace HB:=zA (below_step zB hb);clear hb hbox hg;have hcz9_0:w8.cell? ⟨gb37,0,none⟩=some (.slice none 0 0):=(blk_cell BK37.out 0).trans rfl;have hcz9_1:w8.cell? ⟨gb37,1,none⟩=some (.slice none 0 0):=(blk_cell BK37.out 1).trans rfl;have hfz9_0:=blk_frozen BK37.out 0;have hfz9_1:=blk_frozen BK37.out 1))
       have n0_:Aside0 (Kd.S k34 34 ((w8.setCell ⟨gb37,0,none⟩ (.slice A35_0 ((rd_T34 l0 x8_1).f0).length c35_0)).setCell ⟨gb37,1,none⟩ (.slice A35_1 ((rd_T34 l0 x8_1).f1).length c35_1)) w.heap.size (fun k_=>k_≠gb37) u3 x3_1):=⟨by (with_reducible repeat (first|apply Kd.S_alloc|apply Kd.S_drewN|apply Kd.S_drew));exact Kd.S_mono (Kd.S_far (p:=⟨gb37,1,none⟩) (Kd.S_far (p:=⟨gb37,0,none⟩) (Kd.S_mono HO_3.out (fun k_ hk=>(⟨hk,hk.2⟩:_∧k_≠gb37))) (fun _ hk=>hk.2) (.slice A35_0 ((rd_T34 l0 x8_1).f0).length c35_0)) (fun _ hk=>hk.2) (.slice A35_1 ((rd_T34 l0 x8_1).f1).length c35_1)) (fun _ hk=>hk.1.2)⟩
       have n1_:Aside0 (((w8.setCell ⟨gb37,0,none⟩ (.slice A35_0 ((rd_T34 l0 x8_1).f0).length c35_0)).setCell ⟨gb37,1,none⟩ (.slice A35_1 ((rd_T34 l0 x8_1).f1).length c35_1)).heap[gb37]?=some (.cells #[.slice A35_0 ((rd_T34 l0 x8_1).f0).length c35_0,.slice A35_1 ((rd_T34 l0 x8_1).f1).length c35_1] 34 (0,0))):=⟨by refine zj ?_;refine blk_put (cs:=#[.slice A35_0 ((rd_T34 l0 x8_1).f0).length c35_0,.slice none 0 0]) ?_ 1 _ rfl;refine zj ?_;refine blk_put (cs:=#[.slice none 0 0,.slice none 0 0]) ?_ 0 _ rfl;refine zj ?_;exact BK37.out⟩
       have n2_:Aside0 (Below w.heap.size w ((w8.setCell ⟨gb37,0,none⟩ (.slice A35_0 ((rd_T34 l0 x8_1).f0).length c35_0)).setCell ⟨gb37,1,none⟩ (.slice A35_1 ((rd_T34 l0 x8_1).f1).length c35_1))):=⟨zv1 HB GE37⟩
       (try clear HO_3);(try clear BK37);(try clear HB)
       generalize ((w8.setCell ⟨gb37,0,none⟩ (.slice A35_0 ((rd_T34 l0 x8_1).f0).length c35_0)).setCell ⟨gb37,1,none⟩ (.slice A35_1 ((rd_T34 l0 x8_1).f1).length c35_1))=w10 at n0_ n1_ n2_ ⊢
       have HO_3:=n0_;have BK37:=n1_;have HB:=n2_;clear n0_ n1_ n2_;replace HO_3:=zA (Kd.S_drew HO_3.out);replace BK37:=zA (blk_drew BK37.out);replace HB:=zA (below_drew1 HB.out);refine start_ (n:=11) (S:=fun w'=>w'.cell? ⟨gb37,0,none⟩=some (.slice A35_0 ((rd_T34 l0 x8_1).f0).length c35_0)∧w'.cell? ⟨gb37,1,none⟩=some (.slice A35_1 ((rd_T34 l0 x8_1).f1).length c35_1)) (ds:=[]) #[false,false,false,false,false,false,false,false,false,false,false] zK rfl rfl ⟨(blk_cell BK37.out 0).trans rfl,(blk_cell BK37.out 1).trans rfl⟩ (fun hHeld=>?_);refine with_tabW ancepslaw41_own.tab5 ancepslaw41_own.bits5 (fun HT_ HW_=>?_)
       generalize w10.drew=w11 at HO_3 BK37 HB hHeld ⊢
       refine pure_ (i:=0) (N:=some 12) (v:=?_) (a':=?_) #[true,false,false,false,false,false,false,false,false,false,false] rfl rfl (any_of HT_.out zK) (fun _ _ _ h=>h) (Or.inl ⟨by rfl,?_⟩) ?_ ?_;rotate_left
       ·intro w'
        go_simp
        with_reducible rfl
       rotate_left
       ·simp only [Act.put,zi,zs,zt,i64_w,i32_w];rfl
       refine pure_ (i:=1) (N:=some 13) (v:=?_) (a':=?_) #[true,true,false,false,false,false,false,false,false,false,false] rfl rfl (any_of HT_.out zK) (fun _ _ _ h=>h) (Or.inl ⟨by rfl,?_⟩) ?_ ?_;rotate_left
       ·intro w'
        go_simp
        with_reducible rfl
       rotate_left
       ·simp only [Act.put,zi,zs,zt,i64_w,i32_w];rfl
       refine pure_ (i:=4) (N:=some 16) (v:=?_) (a':=?_) #[true,true,false,false,true,false,false,false,false,false,false] rfl rfl (any_of HT_.out zK) (fun _ _ _ h=>h) (Or.inl ⟨by rfl,?_⟩) ?_ ?_;rotate_left
       ·intro w'
        go_simp
        with_reducible rfl
       rotate_left
       ·simp only [Act.put,zi,zs,zt,i64_w,i32_w];rfl
       refine take_ (i:=2) (N:=some 14) (v:=?_) (a':=?_) #[true,true,true,false,true,false,false,false,false,false,false] rfl rfl (take_ofW HT_.out HW_.out zK) (fun _ _ _ h=>h) (Or.inl ⟨by rfl,?_⟩) hHeld ?_ ?_;rotate_left
       ·rintro w' ⟨s0,s1⟩
        go_simp
        with_reducible rfl
       rotate_left
       ·simp only [Act.put,zi,zs,zt,i64_w,i32_w];rfl
       refine take_ (i:=5) (N:=some 17) (v:=?_) (a':=?_) #[true,true,true,false,true,true,false,false,false,false,false] rfl rfl (take_ofW HT_.out HW_.out zK) (fun _ _ _ h=>h) (Or.inl ⟨by rfl,?_⟩) hHeld ?_ ?_;rotate_left
       ·rintro w' ⟨s0,s1⟩
        go_simp
        with_reducible rfl
       rotate_left
       ·simp only [Act.put,zi,zs,zt,i64_w,i32_w];rfl
       refine one_ (i:=3) (N:=some 15) #[true,true,true,true,true,true,false,false,false,false,false] rfl rfl (one_of HT_.out zK) (by decide) (fun K hK=>?_);refine goes_ Try.func31 zK rfl #[.slice A35_0 ((rd_T34 l0 x8_1).f0).length c35_0] (by rfl) rfl rfl zM ?_
       with_reducible refine (slices_Clone_int_int.calls _ _ ((rd_T34 l0 x8_1).f0) t68 _ ?side1 ?side2 A5.out).mono ?_
       (case side1=>exact zC (Kd.C_below HR35_0.out HB.out));(case side2=>exact HC35_0.out);rintro e w12 ⟨v86,rfl,ho0,hb⟩;refine ⟨_,rfl,?_⟩;have HO74:=zA (Kd.R_lower ho0 (below_size zB));replace HO_3:=zA (Kd.S_elder' (zS HO_3) (Kd.R_base ho0) hb);replace BK37:=zA (zb BK37 hb);replace HB:=zA (below_step zB hb);(try clear hb);(try clear hb2);(try clear hk);(try clear hi);(try clear ho0);refine hK.out _ _ ⟨(blk_cell BK37.out 0).trans rfl,(blk_cell BK37.out 1).trans rfl⟩ (fun hHeld=>?_);clear hK K;refine norm_ (a':=?_) ?_ ?_;rotate_left
       ·show Act.put _ (some 15) _=_
        simp only [Act.put,zi,zs,zt,i64_w,i32_w];rfl
       refine one_ (i:=6) (N:=some 18) #[true,true,true,true,true,true,true,false,false,false,false] rfl rfl (one_of HT_.out zK) (by decide) (fun K hK=>?_);refine goes_ Try.func31 zK rfl #[.slice A35_1 ((rd_T34 l0 x8_1).f1).length c35_1] (by rfl) rfl rfl zM ?_
       with_reducible refine (slices_Clone_int_int.calls _ _ ((rd_T34 l0 x8_1).f1) t59 _ ?side1 ?side2 A6.out).mono ?_
       (case side1=>exact zC (Kd.C_below HR35_1.out HB.out));(case side2=>exact HC35_1.out);rintro e w13 ⟨v87,rfl,ho0,hb⟩;refine ⟨_,rfl,?_⟩;have HO76:=zA (Kd.R_lower (Kd.R_new' ho0 (Kd.R_lt (zR HO74))) (below_size zB));replace HO_3:=zA (Kd.S_elder' (zS HO_3) (Kd.R_base ho0) hb);replace HO74:=zA (Kd.R_elder' (zR HO74) (Kd.R_base ho0) hb);replace BK37:=zA (zb BK37 hb);replace HB:=zA (below_step zB hb);(try clear hb);(try clear hb2);(try clear hk);(try clear hi);(try clear ho0);obtain ⟨Ao14,co14,eo14⟩:=Kd.R_slice HO76.out
       (first|subst eo14|(injection eo14 with f1_ f2_ f3_;have f4_:=f1_.symm;have f5_:=f3_.symm;clear f1_ f2_ f3_;subst f4_;subst f5_))
       obtain ⟨Ao15,co15,eo15⟩:=Kd.R_slice HO74.out
       (first|subst eo15|(injection eo15 with f1_ f2_ f3_;have f4_:=f1_.symm;have f5_:=f3_.symm;clear f1_ f2_ f3_;subst f4_;subst f5_))
       refine hK.out _ _ ⟨(blk_cell BK37.out 0).trans rfl,(blk_cell BK37.out 1).trans rfl⟩ (fun hHeld=>?_);clear hK K;refine norm_ (a':=?_) ?_ ?_;rotate_left
       ·show Act.put _ (some 18) _=_
        simp only [Act.put,zi,zs,zt,i64_w,i32_w];rfl
       refine pure_ (i:=7) (N:=some 19) (v:=?_) (a':=?_) #[true,true,true,true,true,true,true,true,false,false,false] rfl rfl (any_of HT_.out zK) (fun _ _ _ h=>h) (Or.inl ⟨by rfl,?_⟩) ?_ ?_;rotate_left
       ·intro w'
        go_simp
        with_reducible rfl
       rotate_left
       ·simp only [Act.put,zi,zs,zt,i64_w,i32_w];rfl
       refine one_ (i:=8) (N:=some 20) #[true,true,true,true,true,true,true,true,true,false,false] rfl rfl (one_of HT_.out zK) (by decide) (fun K hK=>?_);refine value_ (w1:=?_) (v:=?_) (by rfl) rfl ?_ ?_;rotate_left 2
       ·go_simp
        constructor
        ·rfl
        ·rfl
       refine hK.out _ _ ⟨(blk_cell (blk_alloc BK37.out _) 0).trans rfl,(blk_cell (blk_alloc BK37.out _) 1).trans rfl⟩ (fun hHeld=>?_);clear hK K;refine norm_ (a':=?_) ?_ ?_;rotate_left
       ·show Act.put _ (some 20) _=_
        simp only [Act.put,zi,zs,zt,i64_w,i32_w];rfl
       refine one_ (i:=9) (N:=some 21) #[true,true,true,true,true,true,true,true,true,true,false] rfl rfl (one_of HT_.out zK) (by decide) (fun K hK=>?_);refine Kd.S_append_step k34 (w0:=w) w.heap.size (by rfl) (.tmp 12) (.tmp 20) 22 34 (.agg #[(.slice none 0 0),(.slice none 0 0)]) 48 rfl Try.underlying22 info34 rfl (by decide) (by omega) u3 x3_1 (⟨t68,t59⟩:S34) [.slice Ao15 t68.length co15,.slice Ao14 t59.length co14] (fun k_=>k_≠gb37) (fun k_=>some k_=(.slice Ao15 t68.length co15:Value).ownBlock∨some k_=(.slice Ao14 t59.length co14:Value).ownBlock) rfl rfl ?aP (fun k_ hk_=>hk_.elim (fun h_=>((Kd.R_mono (ok':=fun k_=>((fun k_=>k_≠gb37)) k_∧some k_≠(u3:Value).ownBlock) (Kd.R_types (Kd.R_apart' (HO74.out) (Kd.S_typed HO_3.out) (by decide)) BK37.out (by decide)) (fun k_ hk=>⟨hk.2,hk.1.2⟩))).1 k_ h_.symm) (fun h_=>((Kd.R_mono (ok':=fun k_=>((fun k_=>k_≠gb37)) k_∧some k_≠(u3:Value).ownBlock) (Kd.R_types (Kd.R_apart' (HO76.out) (Kd.S_typed HO_3.out) (by decide)) BK37.out (by decide)) (fun k_ hk=>⟨hk.2,hk.1.2⟩))).1 k_ h_.symm)) ?aF ?aO ?aB ?aS ?aL ?_;(case aP=>exact k34_mkM _ _ _ (⟨t68,t59⟩:S34) (Kd.R_mono (Kd.R_tight rfl (Kd.R_mono (ok':=fun k_=>((fun k_=>k_≠gb37)) k_∧some k_≠(u3:Value).ownBlock) (Kd.R_types (Kd.R_apart' (HO74.out) (Kd.S_typed HO_3.out) (by decide)) BK37.out (by decide)) (fun k_ hk=>⟨hk.2,hk.1.2⟩))) (fun _ h_=>Or.inl h_)) (Kd.R_mono (Kd.R_tight rfl (Kd.R_mono (ok':=fun k_=>((fun k_=>k_≠gb37)) k_∧some k_≠(u3:Value).ownBlock) (Kd.R_types (Kd.R_apart' (HO76.out) (Kd.S_typed HO_3.out) (by decide)) BK37.out (by decide)) (fun k_ hk=>⟨hk.2,hk.1.2⟩))) (fun _ h_=>Or.inr (h_))));(case aB=>exact zB);(case aF=>exact (fun k_ hk=>Kd.freshB (g:=gb37) (o:=.cells #[.slice A35_0 ((rd_T34 l0 x8_1).f0).length c35_0,.slice A35_1 ((rd_T34 l0 x8_1).f1).length c35_1] 34 (0,0)) (zk BK37) k_ hk));(case aO=>exact (by (with_reducible repeat (first|apply Kd.S_alloc|apply Kd.S_drewN|apply Kd.S_drew));exact Kd.S_mono HO_3.out (fun k_ hk=>⟨hk.1.1,fun e_=>e_.elim (fun h_=>hk.1.2 h_) (fun h_=>hk.2 h_)⟩)));(case aS=>exact (below_size zB));(case aL=>have:=LMc7.out;omega);intro v88 w16 ho hb hg hat;rw [← Ny71.out] at ho;have HO83:=zA (ho);replace BK37:=zA (blk_grown (g:=gb37) (o:=.cells #[.slice A35_0 ((rd_T34 l0 x8_1).f0).length c35_0,.slice A35_1 ((rd_T34 l0 x8_1).f1).length c35_1] 34 (0,0)) (zk BK37) hg (Kd.S_away HO_3.out (fun _ hk=>hk.1.1)));replace HB:=zA (hb);clear HO_3 HO74 HO76;clear ho hb hg hat;refine hK.out _ _ ⟨(blk_cell BK37.out 0).trans rfl,(blk_cell BK37.out 1).trans rfl⟩ (fun hHeld=>?_);clear hK K;refine norm_ (a':=?_) ?_ ?_;rotate_left
       ·show Act.put _ (some 21) _=_
        simp only [Act.put,zi,zs,zt,i64_w,i32_w];rfl
       refine pure_ (i:=10) (N:=some 3) (v:=?_) (a':=?_) #[true,true,true,true,true,true,true,true,true,true,true] rfl rfl (any_of HT_.out zK) (fun _ _ _ h=>h) (Or.inl ⟨by rfl,?_⟩) ?_ ?_;rotate_left
       ·intro w'
        go_simp
        with_reducible rfl
       rotate_left
       ·simp only [Act.put,zi,zs,zt,i64_w,i32_w];rfl
       refine done_ (done_of HT_.out zK) ?_
       try go_wp2
       go_roundg k1
       case measure=>have:=HK1.out;omega
       case rel=>exact ⟨(y71),(wrap64 (x8_1+1)),zT,H',⟨by have:=HK1.out;omega⟩,⟨by (with_reducible repeat (first|apply Kd.S_alloc|apply Kd.S_drewN|apply Kd.S_drew));exact Kd.S_mono HO83.out (fun _ hk=>trivial)⟩,⟨zv1 HB GE37⟩⟩
      ·rw [if_neg c7] at H;exact absurd H (by simp)
     ·rw [if_neg c4] at H;exact absurd H (by simp)
    ·rw [if_neg c3] at H;exact absurd H (by simp)
   ·rw [if_neg c2] at H;have c2b0:decide (x8_1<(l0.length:Int))=false:=decide_eq_false c2;clear c2;obtain rfl:=Option.some.inj H
    go_wp2
    go_ret
    exact ⟨_,ze,by (with_reducible repeat (first|apply Kd.S_alloc|apply Kd.S_drewN|apply Kd.S_drew));exact HO_3.out,zv0 HB⟩
def ancepsref38_Assignment.l0:Nat→List Int→Int→Int→Int→Option (Int)
 | 0,_,_,_,_=>none
 | k+1,x0,x1,x5,x6=>if x6<(x0.length:Int) then (if 0≤x6 then (if 0≤(rd x0 x6) then (ancepsref38_Assignment.l0 k x0 x1 (wrap64 (x5+(shl .i64 (Int.tmod (shr .i64 x1 x6) 2) (rd x0 x6)))) (wrap64 (x6+1))) else (none)) else (none)) else (some x5)
def ancepsref38_Assignment.f (k:Nat) (l0:List Int) (a1:Int):Option (Int):=ancepsref38_Assignment.l0 k l0 a1 0 0
theorem ancepsref38_Assignment.mono_l:∀ k,(∀ y0 y1 y2 y3,LeO (ancepsref38_Assignment.l0 k y0 y1 y2 y3) (ancepsref38_Assignment.l0 (k+1) y0 y1 y2 y3))
 | 0=>fun _ _ _ _ r h=>by simp [ancepsref38_Assignment.l0] at h
 | k+1=>by
  have ih0:=ancepsref38_Assignment.mono_l k
  ·intro y0 y1 y2 y3
   unfold ancepsref38_Assignment.l0
   repeat' first
   | (with_reducible exact ih0 _ _ _ _)
   | (with_reducible exact LeO.refl _)
   | (with_reducible exact LeO.none _)
   | (with_reducible refine LeO.ite ?_ ?_)
   | (with_reducible refine LeO.bind ?_ (fun _=>?_))
   | exact LeO.none _
   | refine LeO.ite ?_ ?_
   | refine LeO.bind ?_ (fun _=>?_)
theorem ancepsref38_Assignment.mono:∀ a0 a1 k,LeO (ancepsref38_Assignment.f k a0 a1) (ancepsref38_Assignment.f (k+1) a0 a1):=by
 intro a0 a1 k;have ih0:=ancepsref38_Assignment.mono_l k
 unfold ancepsref38_Assignment.f
 repeat' first
   | (with_reducible exact ih0 _ _ _ _)
   | (with_reducible exact LeO.refl _)
   | (with_reducible exact LeO.none _)
   | (with_reducible refine LeO.ite ?_ ?_)
   | (with_reducible refine LeO.bind ?_ (fun _=>?_))
   | exact LeO.none _
   | refine LeO.ite ?_ ?_
   | refine LeO.bind ?_ (fun _=>?_)
set_option maxHeartbeats 8000000 in
set_option maxRecDepth 100000 in
theorem ancepsref38_Assignment.calls (k:Nat) (A0:Option Addr) (c0:Nat) (l0:List Int) (a1:Int) (r:Int) (w:World) (hr0:Kd.C (Kd.int .i64) w A0 l0.length l0) (hc0:l0.length≤c0) (h:ancepsref38_Assignment.f k l0 a1=some r) :
  Calls Try.prog 55 #[.slice A0 l0.length c0,.int .i64 a1] w fun e w'=>e=.returned (.int .i64 r)∧Drawn0 w w':=by
 have hu3:=Try.underlying3;have HR0:=zA hr0;have HC0:=zA hc0;clear hr0 hc0;have H:(ancepsref38_Assignment.l0 k l0 a1 0 0)=some r:=h;clear h;have H':=zA H;clear H
 go_enter Try.func55,Try.ntmps55
 go_wp2
 repeat (go_quiet (fail);try go_wp2)
 go_loopg [5,6] k (fun kq v5 v6 w'=>∃ (x5_1:Int) (x6_1:Int),v5=.int .i64 x5_1∧v6=.int .i64 x6_1∧Aside0 (ancepsref38_Assignment.l0 kq l0 a1 x5_1 x6_1=some r)∧Aside0 (kq≤k)∧Drawn0 w w')
 case atStart=>exact ⟨(0),(0),zT,zT,H',⟨Nat.le_refl _⟩,by repeat (first|exact Drawn0.refl _|apply Drawn0.step)⟩
 case round=>
  clear H';obtain ⟨x5_1,x6_1,rfl,rfl,HA,HK1,⟨m1,rfl⟩⟩:=hrel
  cases gk with
  | zero=>exact absurd HA.out (by simp [ancepsref38_Assignment.l0])
  | succ k1=>
   have H:=HA.out;clear HA;simp only [ancepsref38_Assignment.l0] at H
   by_cases c3:x6_1<(l0.length:Int)
   ·rw [if_pos c3] at H;have c3b0:decide (x6_1<(l0.length:Int))=true:=decide_eq_true c3;clear c3
    by_cases c4:0≤x6_1
    ·rw [if_pos c4] at H;have c4b0:=eq_true c4;have c4b1:decide (0≤x6_1)=true:=decide_eq_true c4;clear c4
     obtain ⟨ji5,hji5⟩:∃ j_:Int,(shr .i64 a1 x6_1)=j_:=⟨_,rfl⟩
     replace H:(if 0≤(rd l0 x6_1) then (ancepsref38_Assignment.l0 k1 l0 a1 (wrap64 (x5_1+(shl .i64 (Int.tmod (ji5) 2) (rd l0 x6_1)))) (wrap64 (x6_1+1))) else (none))=some r:=by first|(rw [hji5] at H;exact H)|(simp only [hji5] at H ⊢;exact H)
     have hji5_:(a1 / 2 ^ min x6_1.toNat 64)=ji5:=hji5;have hji5z:x6_1≤64→(a1 / 2 ^ x6_1.toNat)=ji5:=shr_small hji5
     by_cases c6:0≤(rd l0 x6_1)
     ·rw [if_pos c6] at H;have c6b0:=eq_true c6;have c6b1:decide (0≤(rd l0 x6_1))=true:=decide_eq_true c6;clear c6
      obtain ⟨ji7,hji7⟩:∃ j_:Int,(shl .i64 (Int.tmod (ji5) 2) (rd l0 x6_1))=j_:=⟨_,rfl⟩
      replace H:(ancepsref38_Assignment.l0 k1 l0 a1 (wrap64 (x5_1+(ji7))) (wrap64 (x6_1+1)))=some r:=by first|(rw [hji7] at H;exact H)|(simp only [hji7] at H ⊢;exact H)
      have hji7_:(IntKind.i64.wrap ((Int.tmod (ji5) 2) * 2 ^ min (rd l0 x6_1).toNat 64))=ji7:=hji7;have hji7z:(rd l0 x6_1)≤64→(IntKind.i64.wrap ((Int.tmod (ji5) 2) * 2 ^ (rd l0 x6_1).toNat))=ji7:=shl_small hji7;have hji7y:(wrap64 ((Int.tmod (ji5) 2) * 2 ^ min (rd l0 x6_1).toNat 64))=ji7:=(i64_w _).symm.trans hji7_
      have hji7x:(rd l0 x6_1)≤64→(wrap64 ((Int.tmod (ji5) 2) * 2 ^ (rd l0 x6_1).toNat))=ji7:=fun h_=>(i64_w _).symm.trans (hji7z h_)
      have H':=zA H;clear H;have p61:0≤(x6_1:Int):=of_decide_eq_true zh;have q61:x6_1<(l0.length:Int):=of_decide_eq_true zh;obtain ⟨ad61,e61,hx61_0⟩:=Kd.at_int HR0.out x6_1 p61 q61
      cases e61
      replace p61:=eq_true p61;replace q61:=eq_true q61
      go_wp2
      repeat (go_quiet (fail);try go_wp2)
      go_roundg k1
      case measure=>have:=HK1.out;omega
      case rel=>exact ⟨(wrap64 (x5_1+(ji7))),(wrap64 (x6_1+1)),(by first|rfl|(simp;done)|(simp only [← hji7] <;> (first|rfl|simp))|(simp [*];done)),zT,H',⟨by have:=HK1.out;omega⟩,by repeat (first|exact Drawn0.refl _|apply Drawn0.step)⟩
     ·rw [if_neg c6] at H;exact absurd H (by simp)
    ·rw [if_neg c4] at H;exact absurd H (by simp)
   ·rw [if_neg c3] at H;have c3b0:decide (x6_1<(l0.length:Int))=false:=decide_eq_false c3;clear c3;obtain rfl:=Option.some.inj H
    go_wp2
    repeat (go_quiet (fail);try go_wp2)
    go_ret
    exact ⟨by first|rfl|(simp;done)|(simp [*];done),by repeat (first|exact Drawn0.refl _|apply Drawn0.step)⟩
def ancepsref38_in.l0:Nat→List Int→Int→Int→Option (Bool)
 | 0,_,_,_=>none
 | k+1,x0,x1,x5=>if x5<(x0.length:Int) then (if 0≤x5 then (if (rd x0 x5)=x1 then (some true) else (ancepsref38_in.l0 k x0 x1 (wrap64 (x5+1)))) else (none)) else (some false)
def ancepsref38_in.f (k:Nat) (l0:List Int) (a1:Int):Option (Bool):=ancepsref38_in.l0 k l0 a1 0
theorem ancepsref38_in.mono_l:∀ k,(∀ y0 y1 y2,LeO (ancepsref38_in.l0 k y0 y1 y2) (ancepsref38_in.l0 (k+1) y0 y1 y2))
 | 0=>fun _ _ _ r h=>by simp [ancepsref38_in.l0] at h
 | k+1=>by
  have ih0:=ancepsref38_in.mono_l k
  ·intro y0 y1 y2
   unfold ancepsref38_in.l0
   repeat' first
   | (with_reducible exact ih0 _ _ _)
   | (with_reducible exact LeO.refl _)
   | (with_reducible exact LeO.none _)
   | (with_reducible refine LeO.ite ?_ ?_)
   | (with_reducible refine LeO.bind ?_ (fun _=>?_))
   | exact LeO.none _
   | refine LeO.ite ?_ ?_
   | refine LeO.bind ?_ (fun _=>?_)
theorem ancepsref38_in.mono:∀ a0 a1 k,LeO (ancepsref38_in.f k a0 a1) (ancepsref38_in.f (k+1) a0 a1):=by
 intro a0 a1 k;have ih0:=ancepsref38_in.mono_l k
 unfold ancepsref38_in.f
 repeat' first
   | (with_reducible exact ih0 _ _ _)
   | (with_reducible exact LeO.refl _)
   | (with_reducible exact LeO.none _)
   | (with_reducible refine LeO.ite ?_ ?_)
   | (with_reducible refine LeO.bind ?_ (fun _=>?_))
   | exact LeO.none _
   | refine LeO.ite ?_ ?_
   | refine LeO.bind ?_ (fun _=>?_)
set_option maxHeartbeats 8000000 in
set_option maxRecDepth 100000 in
theorem ancepsref38_in.calls (k:Nat) (A0:Option Addr) (c0:Nat) (l0:List Int) (a1:Int) (r:Bool) (w:World) (hr0:Kd.C (Kd.int .i64) w A0 l0.length l0) (hc0:l0.length≤c0) (h:ancepsref38_in.f k l0 a1=some r) :
  Calls Try.prog 69 #[.slice A0 l0.length c0,.int .i64 a1] w fun e w'=>e=.returned (.bool r)∧Drawn0 w w':=by
 have hu3:=Try.underlying3;have HR0:=zA hr0;have HC0:=zA hc0;clear hr0 hc0;have H:(ancepsref38_in.l0 k l0 a1 0)=some r:=h;clear h;have H':=zA H;clear H
 go_enter Try.func69,Try.ntmps69
 go_wp2
 go_loopg [5] k (fun kq v5 w'=>∃ (x5_1:Int),v5=.int .i64 x5_1∧Aside0 (ancepsref38_in.l0 kq l0 a1 x5_1=some r)∧Aside0 (kq≤k)∧Drawn0 w w')
 case atStart=>exact ⟨(0),zT,H',⟨Nat.le_refl _⟩,by repeat (first|exact Drawn0.refl _|apply Drawn0.step)⟩
 case round=>
  clear H';obtain ⟨x5_1,rfl,HA,HK1,⟨m1,rfl⟩⟩:=hrel
  cases gk with
  | zero=>exact absurd HA.out (by simp [ancepsref38_in.l0])
  | succ k1=>
   have H:=HA.out;clear HA;simp only [ancepsref38_in.l0] at H
   by_cases c3:x5_1<(l0.length:Int)
   ·rw [if_pos c3] at H;have c3b0:decide (x5_1<(l0.length:Int))=true:=decide_eq_true c3;clear c3
    by_cases c4:0≤x5_1
    ·rw [if_pos c4] at H;have c4b0:decide (0≤x5_1)=true:=decide_eq_true c4;clear c4
     by_cases c5:(rd l0 x5_1)=a1
     ·rw [if_pos c5] at H;have c5b0:((rd l0 x5_1) == a1)=true:=beq_iff_eq.mpr c5;have c5b1:((rd l0 x5_1) != a1)=false:=bne_eq_false_iff_eq.mpr c5;clear c5;obtain rfl:=Option.some.inj H;have p46:0≤(x5_1:Int):=of_decide_eq_true zh;have q46:x5_1<(l0.length:Int):=of_decide_eq_true zh;obtain ⟨ad46,e46,hx46_0⟩:=Kd.at_int HR0.out x5_1 p46 q46
      cases e46
      replace p46:=eq_true p46;replace q46:=eq_true q46
      go_wp2
      go_ret
      exact ⟨by first|rfl|(simp;done)|(simp [*];done),by repeat (first|exact Drawn0.refl _|apply Drawn0.step)⟩
     ·rw [if_neg c5] at H;have c5b0:((rd l0 x5_1) == a1)=false:=beq_eq_false_iff_ne.mpr c5;have c5b1:((rd l0 x5_1) != a1)=true:=bne_iff_ne.mpr c5;have H':=zA H;clear H;have p46:0≤(x5_1:Int):=of_decide_eq_true zh;have q46:x5_1<(l0.length:Int):=of_decide_eq_true zh;obtain ⟨ad46,e46,hx46_0⟩:=Kd.at_int HR0.out x5_1 p46 q46
      cases e46
      replace p46:=eq_true p46;replace q46:=eq_true q46
      go_wp2
      go_roundg k1
      case measure=>have:=HK1.out;omega
      case rel=>exact ⟨(wrap64 (x5_1+1)),zT,H',⟨by have:=HK1.out;omega⟩,by repeat (first|exact Drawn0.refl _|apply Drawn0.step)⟩
    ·rw [if_neg c4] at H;exact absurd H (by simp)
   ·rw [if_neg c3] at H;have c3b0:decide (x5_1<(l0.length:Int))=false:=decide_eq_false c3;clear c3;obtain rfl:=Option.some.inj H
    go_wp2
    go_ret
    exact ⟨by first|rfl|(simp;done)|(simp [*];done),by repeat (first|exact Drawn0.refl _|apply Drawn0.step)⟩
def ancepsref38_Row.l0:Nat→List Int→Int→Int→Int→Option (Int)
 | 0,_,_,_,_=>none
 | k+1,x0,x1,x5,x6=>if x6<(x0.length:Int) then (if 0≤x6 then (if 0≤(rd x0 x6) then (ancepsref38_Row.l0 k x0 x1 (wrap64 (x5+(shl .i64 (Int.tmod (shr .i64 x1 (rd x0 x6)) 2) x6))) (wrap64 (x6+1))) else (none)) else (none)) else (some x5)
def ancepsref38_Row.f (k:Nat) (l0:List Int) (a1:Int):Option (Int):=ancepsref38_Row.l0 k l0 a1 0 0
theorem ancepsref38_Row.mono_l:∀ k,(∀ y0 y1 y2 y3,LeO (ancepsref38_Row.l0 k y0 y1 y2 y3) (ancepsref38_Row.l0 (k+1) y0 y1 y2 y3))
 | 0=>fun _ _ _ _ r h=>by simp [ancepsref38_Row.l0] at h
 | k+1=>by
  have ih0:=ancepsref38_Row.mono_l k
  ·intro y0 y1 y2 y3
   unfold ancepsref38_Row.l0
   repeat' first
   | (with_reducible exact ih0 _ _ _ _)
   | (with_reducible exact LeO.refl _)
   | (with_reducible exact LeO.none _)
   | (with_reducible refine LeO.ite ?_ ?_)
   | (with_reducible refine LeO.bind ?_ (fun _=>?_))
   | exact LeO.none _
   | refine LeO.ite ?_ ?_
   | refine LeO.bind ?_ (fun _=>?_)
theorem ancepsref38_Row.mono:∀ a0 a1 k,LeO (ancepsref38_Row.f k a0 a1) (ancepsref38_Row.f (k+1) a0 a1):=by
 intro a0 a1 k;have ih0:=ancepsref38_Row.mono_l k
 unfold ancepsref38_Row.f
 repeat' first
   | (with_reducible exact ih0 _ _ _ _)
   | (with_reducible exact LeO.refl _)
   | (with_reducible exact LeO.none _)
   | (with_reducible refine LeO.ite ?_ ?_)
   | (with_reducible refine LeO.bind ?_ (fun _=>?_))
   | exact LeO.none _
   | refine LeO.ite ?_ ?_
   | refine LeO.bind ?_ (fun _=>?_)
set_option maxHeartbeats 8000000 in
set_option maxRecDepth 100000 in
theorem ancepsref38_Row.calls (k:Nat) (A0:Option Addr) (c0:Nat) (l0:List Int) (a1:Int) (r:Int) (w:World) (hr0:Kd.C (Kd.int .i64) w A0 l0.length l0) (hc0:l0.length≤c0) (h:ancepsref38_Row.f k l0 a1=some r) :
  Calls Try.prog 70 #[.slice A0 l0.length c0,.int .i64 a1] w fun e w'=>e=.returned (.int .i64 r)∧Drawn0 w w':=by
 have hu3:=Try.underlying3;have HR0:=zA hr0;have HC0:=zA hc0;clear hr0 hc0;have H:(ancepsref38_Row.l0 k l0 a1 0 0)=some r:=h;clear h;have H':=zA H;clear H
 go_enter Try.func70,Try.ntmps70
 go_wp2
 go_loopg [5,6] k (fun kq v5 v6 w'=>∃ (x5_1:Int) (x6_1:Int),v5=.int .i64 x5_1∧v6=.int .i64 x6_1∧Aside0 (ancepsref38_Row.l0 kq l0 a1 x5_1 x6_1=some r)∧Aside0 (kq≤k)∧Drawn0 w w')
 case atStart=>exact ⟨(0),(0),zT,zT,H',⟨Nat.le_refl _⟩,by repeat (first|exact Drawn0.refl _|apply Drawn0.step)⟩
 case round=>
  clear H';obtain ⟨x5_1,x6_1,rfl,rfl,HA,HK1,⟨m1,rfl⟩⟩:=hrel
  cases gk with
  | zero=>exact absurd HA.out (by simp [ancepsref38_Row.l0])
  | succ k1=>
   have H:=HA.out;clear HA;simp only [ancepsref38_Row.l0] at H
   by_cases c3:x6_1<(l0.length:Int)
   ·rw [if_pos c3] at H;have c3b0:decide (x6_1<(l0.length:Int))=true:=decide_eq_true c3;clear c3
    by_cases c4:0≤x6_1
    ·rw [if_pos c4] at H;have c4b0:decide (0≤x6_1)=true:=decide_eq_true c4;clear c4
     by_cases c5:0≤(rd l0 x6_1)
     ·rw [if_pos c5] at H;have c5b0:=eq_true c5;have c5b1:decide (0≤(rd l0 x6_1))=true:=decide_eq_true c5;clear c5
      obtain ⟨ji6,hji6⟩:∃ j_:Int,(shr .i64 a1 (rd l0 x6_1))=j_:=⟨_,rfl⟩
      replace H:(ancepsref38_Row.l0 k1 l0 a1 (wrap64 (x5_1+(shl .i64 (Int.tmod (ji6) 2) x6_1))) (wrap64 (x6_1+1)))=some r:=by first|(rw [hji6] at H;exact H)|(simp only [hji6] at H ⊢;exact H)
      have hji6_:(a1 / 2 ^ min (rd l0 x6_1).toNat 64)=ji6:=hji6;have hji6z:(rd l0 x6_1)≤64→(a1 / 2 ^ (rd l0 x6_1).toNat)=ji6:=shr_small hji6;have c7b0:=eq_true (of_decide_eq_true zh:0≤x6_1)
      obtain ⟨ji8,hji8⟩:∃ j_:Int,(shl .i64 (Int.tmod (ji6) 2) x6_1)=j_:=⟨_,rfl⟩
      replace H:(ancepsref38_Row.l0 k1 l0 a1 (wrap64 (x5_1+(ji8))) (wrap64 (x6_1+1)))=some r:=by first|(rw [hji8] at H;exact H)|(simp only [hji8] at H ⊢;exact H)
      have hji8_:(IntKind.i64.wrap ((Int.tmod (ji6) 2) * 2 ^ min x6_1.toNat 64))=ji8:=hji8;have hji8z:x6_1≤64→(IntKind.i64.wrap ((Int.tmod (ji6) 2) * 2 ^ x6_1.toNat))=ji8:=shl_small hji8;have hji8y:(wrap64 ((Int.tmod (ji6) 2) * 2 ^ min x6_1.toNat 64))=ji8:=(i64_w _).symm.trans hji8_
      have hji8x:x6_1≤64→(wrap64 ((Int.tmod (ji6) 2) * 2 ^ x6_1.toNat))=ji8:=fun h_=>(i64_w _).symm.trans (hji8z h_)
      have H':=zA H;clear H;have p62:0≤(x6_1:Int):=of_decide_eq_true zh;have q62:x6_1<(l0.length:Int):=of_decide_eq_true zh;obtain ⟨ad62,e62,hx62_0⟩:=Kd.at_int HR0.out x6_1 p62 q62
      cases e62
      replace p62:=eq_true p62;replace q62:=eq_true q62
      go_wp2
      go_roundg k1
      case measure=>have:=HK1.out;omega
      case rel=>exact ⟨(wrap64 (x5_1+(ji8))),(wrap64 (x6_1+1)),(by first|rfl|(simp;done)|(simp only [← hji8] <;> (first|rfl|simp))|(simp [*];done)),zT,H',⟨by have:=HK1.out;omega⟩,by repeat (first|exact Drawn0.refl _|apply Drawn0.step)⟩
     ·rw [if_neg c5] at H;exact absurd H (by simp)
    ·rw [if_neg c4] at H;exact absurd H (by simp)
   ·rw [if_neg c3] at H;have c3b0:decide (x6_1<(l0.length:Int))=false:=decide_eq_false c3;clear c3;obtain rfl:=Option.some.inj H
    go_wp2
    go_ret
    exact ⟨by first|rfl|(simp;done)|(simp [*];done),by repeat (first|exact Drawn0.refl _|apply Drawn0.step)⟩
def ancepsref38_Holds.f (k:Nat) (l0_0:List Int) (l0_1:List Int) (a1:Int):Option (Bool):=(ancepsref38_Row.f k l0_0 a1).bind fun t63=>((ancepsref38_in.f k l0_1 t63).bind fun t72=>(some t72))
theorem ancepsref38_Holds.mono:∀ a0 a1 a2 k,LeO (ancepsref38_Holds.f k a0 a1 a2) (ancepsref38_Holds.f (k+1) a0 a1 a2):=by
 intro a0 a1 a2 k
 unfold ancepsref38_Holds.f
 repeat' first
   | (with_reducible exact ancepsref38_Row.mono _ _ _)
   | (with_reducible exact ancepsref38_in.mono _ _ _)
   | (with_reducible exact LeO.refl _)
   | (with_reducible exact LeO.none _)
   | (with_reducible refine LeO.ite ?_ ?_)
   | (with_reducible refine LeO.bind ?_ (fun _=>?_))
   | exact LeO.none _
   | refine LeO.ite ?_ ?_
   | refine LeO.bind ?_ (fun _=>?_)
set_option maxHeartbeats 8000000 in
set_option maxRecDepth 100000 in
theorem ancepsref38_Holds.calls (k:Nat) (A0_0:Option Addr) (c0_0:Nat) (l0_0:List Int) (A0_1:Option Addr) (c0_1:Nat) (l0_1:List Int) (a1:Int) (r:Bool) (w:World) (hr0_0:Kd.C (Kd.int .i64) w A0_0 l0_0.length l0_0) (hc0_0:l0_0.length≤c0_0) (hr0_1:Kd.C (Kd.int .i64) w A0_1 l0_1.length l0_1) (hc0_1:l0_1.length≤c0_1) (h:ancepsref38_Holds.f k l0_0 l0_1 a1=some r) :
  Calls Try.prog 56 #[.agg #[.slice A0_0 l0_0.length c0_0,.slice A0_1 l0_1.length c0_1],.int .i64 a1] w fun e w'=>e=.returned (.bool r)∧Below w.heap.size w w':=by
 have hu34:=Try.underlying34;have hu29:=Try.underlying29;have HR0_0:=zA hr0_0;have HC0_0:=zA hc0_0;clear hr0_0 hc0_0;have HR0_1:=zA hr0_1;have HC0_1:=zA hc0_1;clear hr0_1 hc0_1;have HB:=zA (Below.refl w.heap.size w);have H:((ancepsref38_Row.f k l0_0 a1).bind fun t63=>((ancepsref38_in.f k l0_1 t63).bind fun t72=>(some t72)))=some r:=h;clear h;replace H:=Option.bind_eq_some_iff.mp H;obtain ⟨t63,A30,H⟩:=H;replace H:((ancepsref38_in.f k l0_1 t63).bind fun t72=>(some t72))=some r:=H;have A3:=zA A30;clear A30;replace H:=Option.bind_eq_some_iff.mp H;obtain ⟨t72,A40,H⟩:=H;replace H:(some t72)=some r:=H;have A4:=zA A40;clear A40;obtain rfl:=Option.some.inj H
 go_enter Try.func56,Try.ntmps56
 go_wp2_with (first|((with_reducible refine gate_dst (N:=2) rfl ?_);refine box_event ?hg (N:=2) ?hd (cs:=#[.slice A0_0 l0_0.length c0_0,.slice A0_1 l0_1.length c0_1]) (t:=34) ?hr ?_;(case hd=>rfl);(case hg=>rfl);(case hr=>first|(go_simp;done)|(go_simp;rfl));intro gb45 hg w5 hbox hb;have BK45:=zA (hbox);have GW45:=zA (zG hg (below_size zB):w.heap.size≤gb45);have GE45:=GW45;replace HB:=zA (below_step zB hb);clear hb hbox hg;have hcz6_0:w5.cell? ⟨gb45,0,none⟩=some (.slice A0_0 l0_0.length c0_0):=(blk_cell BK45.out 0).trans rfl;have hcz6_1:w5.cell? ⟨gb45,1,none⟩=some (.slice A0_1 l0_1.length c0_1):=(blk_cell BK45.out 1).trans rfl;have hfz6_0:=blk_frozen BK45.out 0;have hfz6_1:=blk_frozen BK45.out 1)|(go_at_call 70;(with_reducible refine (ancepsref38_Row.calls k _ _ l0_0 a1 t63 _ ?side1 ?side2 A3.out).mono ?_);(case side1=>exact zC (Kd.C_below HR0_0.out HB.out));(case side2=>exact HC0_0.out);rintro e w' ⟨rfl,⟨nd,rfl⟩⟩;(try first|exact ⟨rfl,_,World.drewN_drewN _ _ _⟩|exact ⟨rfl,_,Eq.trans (World.drewN_drewN _ _ _) (congrArg (World.drewN _) (Nat.add_assoc _ _ _))⟩))|(go_at_call 69;(with_reducible refine (ancepsref38_in.calls k _ _ l0_1 t63 t72 _ ?side1 ?side2 A4.out).mono ?_);(case side1=>repeat (first|exact (Kd.C_below HR0_1.out zB)|(with_reducible refine Kd.C_alloc ?_ _)|(with_reducible refine Kd.C_drewN ?_ _)|(with_reducible refine Kd.C_drew ?_)));(case side2=>exact HC0_1.out);rintro e w' ⟨rfl,⟨nd,rfl⟩⟩;(try first|exact ⟨rfl,_,World.drewN_drewN _ _ _⟩|exact ⟨rfl,_,Eq.trans (World.drewN_drewN _ _ _) (congrArg (World.drewN _) (Nat.add_assoc _ _ _))⟩)))
 repeat (go_quiet (first|((with_reducible refine gate_dst (N:=2) rfl ?_);refine box_event ?hg (N:=2) ?hd (cs:=#[.slice A0_0 l0_0.length c0_0,.slice A0_1 l0_1.length c0_1]) (t:=34) ?hr ?_;(case hd=>rfl);(case hg=>rfl);(case hr=>first|(go_simp;done)|(go_simp;rfl));intro gb45 hg w5 hbox hb;have BK45:=zA (hbox);have GW45:=zA (zG hg (below_size zB):w.heap.size≤gb45);have GE45:=GW45;replace HB:=zA (below_step zB hb);clear hb hbox hg;have hcz6_0:w5.cell? ⟨gb45,0,none⟩=some (.slice A0_0 l0_0.length c0_0):=(blk_cell BK45.out 0).trans rfl;have hcz6_1:w5.cell? ⟨gb45,1,none⟩=some (.slice A0_1 l0_1.length c0_1):=(blk_cell BK45.out 1).trans rfl;have hfz6_0:=blk_frozen BK45.out 0;have hfz6_1:=blk_frozen BK45.out 1)|(go_at_call 70;(with_reducible refine (ancepsref38_Row.calls k _ _ l0_0 a1 t63 _ ?side1 ?side2 A3.out).mono ?_);(case side1=>exact zC (Kd.C_below HR0_0.out HB.out));(case side2=>exact HC0_0.out);rintro e w' ⟨rfl,⟨nd,rfl⟩⟩;(try first|exact ⟨rfl,_,World.drewN_drewN _ _ _⟩|exact ⟨rfl,_,Eq.trans (World.drewN_drewN _ _ _) (congrArg (World.drewN _) (Nat.add_assoc _ _ _))⟩))|(go_at_call 69;(with_reducible refine (ancepsref38_in.calls k _ _ l0_1 t63 t72 _ ?side1 ?side2 A4.out).mono ?_);(case side1=>repeat (first|exact (Kd.C_below HR0_1.out zB)|(with_reducible refine Kd.C_alloc ?_ _)|(with_reducible refine Kd.C_drewN ?_ _)|(with_reducible refine Kd.C_drew ?_)));(case side2=>exact HC0_1.out);rintro e w' ⟨rfl,⟨nd,rfl⟩⟩;(try first|exact ⟨rfl,_,World.drewN_drewN _ _ _⟩|exact ⟨rfl,_,Eq.trans (World.drewN_drewN _ _ _) (congrArg (World.drewN _) (Nat.add_assoc _ _ _))⟩)));try go_wp2_with (first|((with_reducible refine gate_dst (N:=2) rfl ?_);refine box_event ?hg (N:=2) ?hd (cs:=#[.slice A0_0 l0_0.length c0_0,.slice A0_1 l0_1.length c0_1]) (t:=34) ?hr ?_;(case hd=>rfl);(case hg=>rfl);(case hr=>first|(go_simp;done)|(go_simp;rfl));intro gb45 hg w5 hbox hb;have BK45:=zA (hbox);have GW45:=zA (zG hg (below_size zB):w.heap.size≤gb45);have GE45:=GW45;replace HB:=zA (below_step zB hb);clear hb hbox hg;have hcz6_0:w5.cell? ⟨gb45,0,none⟩=some (.slice A0_0 l0_0.length c0_0):=(blk_cell BK45.out 0).trans rfl;have hcz6_1:w5.cell? ⟨gb45,1,none⟩=some (.slice A0_1 l0_1.length c0_1):=(blk_cell BK45.out 1).trans rfl;have hfz6_0:=blk_frozen BK45.out 0;have hfz6_1:=blk_frozen BK45.out 1)|(go_at_call 70;(with_reducible refine (ancepsref38_Row.calls k _ _ l0_0 a1 t63 _ ?side1 ?side2 A3.out).mono ?_);(case side1=>exact zC (Kd.C_below HR0_0.out HB.out));(case side2=>exact HC0_0.out);rintro e w' ⟨rfl,⟨nd,rfl⟩⟩;(try first|exact ⟨rfl,_,World.drewN_drewN _ _ _⟩|exact ⟨rfl,_,Eq.trans (World.drewN_drewN _ _ _) (congrArg (World.drewN _) (Nat.add_assoc _ _ _))⟩))|(go_at_call 69;(with_reducible refine (ancepsref38_in.calls k _ _ l0_1 t63 t72 _ ?side1 ?side2 A4.out).mono ?_);(case side1=>repeat (first|exact (Kd.C_below HR0_1.out zB)|(with_reducible refine Kd.C_alloc ?_ _)|(with_reducible refine Kd.C_drewN ?_ _)|(with_reducible refine Kd.C_drew ?_)));(case side2=>exact HC0_1.out);rintro e w' ⟨rfl,⟨nd,rfl⟩⟩;(try first|exact ⟨rfl,_,World.drewN_drewN _ _ _⟩|exact ⟨rfl,_,Eq.trans (World.drewN_drewN _ _ _) (congrArg (World.drewN _) (Nat.add_assoc _ _ _))⟩))))
 go_ret
 exact ⟨ze,zv1 HB GE45⟩
end Go.Proofs.Ytngpkbbljnbojaa.I
